/- Proves the statement RoundRounds: an integer of two words times a power of two, and a little more, is rounded as the document says, with its flags: the law of the given program answers true and does not panic, whatever the arguments are that the row allows. Conditions: as the statement has them. -/
import Derived.Test.YtggmmkdfgjnjfaaUx
import Derived.Test.YtggmmkdfgjnjfaaUq
import Derived.Test.YtggmmkdfgjnjfaaTy
namespace Go.Proofs.Ytggmmkdfgjnjfaa.roundRounds
open Go.Ev Go.Fb Go.ChangeShapes Go.WideShapes Go.ChangeAt Go.RowKit
set_option maxRecDepth 100000 in
theorem lifted (os : Os) (started : os.Started) (H : Type) (enc : TypeId × Value → H) :
    ReturnsInHanded {} Try.checked os 23 .any (Rows.roundRoundsSpec.pre6 enc Try.prog Try.f23 Rows.roundRoundsRow.domain false) (Rows.roundRoundsSpec.post enc Try.prog Try.f23 false true false false) := by
  refine returnsInHanded_of_change (C := Try.checked) own started (by kernel_rfl) Try.func23
    (ChangeSpec.witness6 (enc := enc) (C := Try.checked) false ⟨#[], #[.bool false, .agg #[.int .u64 0, .int .u64 0], .int .i64 0, .bool false, .int .u8 0], []⟩ 8 (by kernel_rfl) (by kernel_rfl) (by kernel_rfl) (by kernel_rfl)) ?_
  intro W base args ds gs before hval hW hcnd _
  exact law_contract (A := (aCons cBool (aCons cU2 (aCons (cInt .i64) (aCons cBool (aOne (cInt .u8))))))) (AOpens.cons op4 (AOpens.cons op119 (AOpens.cons op3 (AOpens.cons op4 (AOpens.one op120)))) : AOpens Try.prog Try.f23.params.toList _ _) (fun x hx w vs hp => by
      have h := l_RoundRounds_c x (RoundRounds_both (w2_ok hx.2.1)).2 w vs hp
      rwa [(RoundRounds_both (w2_ok hx.2.1)).1] at h) laid (by kernel_rfl) (tb := 4) rfl Try.underlying4 rfl
    (fun ds h => match ds, h with
      | [_, _, _, _, _], _ => rfl) hval hW
theorem k0 : (OpenClaim.wf (OpenSpec.ofChange Rows.roundRoundsSpec) Rows.roundRoundsRow) = true := by kernel_rfl
theorem k9 : (Rows.roundRoundsRow.inPlace == Try.prog.inPlace 23) = true := by kernel_rfl
theorem k10 : (Rows.roundRoundsRow.unfollowed == Try.prog.unfollowed 23) = true := by kernel_rfl
theorem k11 : (Rows.roundRoundsRow.recurses == Try.prog.recurses 23) = true := by kernel_rfl
theorem k12 : (Rows.roundRoundsRow.named == Try.prog.varsNamed 23) = true := by kernel_rfl
theorem k22 : (Rows.roundRoundsRow.plainKeys == Try.prog.plainKeys) = true := by kernel_rfl
theorem k26 : (Rows.roundRoundsRow.lifted == Try.prog.liftsFinal) = true := by rw [lifts_cut bcut]; rfl
theorem k27 : (Try.prog.make == some Rows.roundRoundsRow.make) = true := make_cut bcut
theorem closed : joinedFacts Try.prog 23 Try.f23 Rows.roundRoundsSpec Rows.roundRoundsRow = true :=
  joined_of k0 laid j2 (by kernel_rfl) (by kernel_rfl) (by kernel_rfl) j6 (by kernel_rfl) j8 k9 k10 k11 k12 (by kernel_rfl) (by kernel_rfl) (by kernel_rfl) (by kernel_rfl) (by kernel_rfl) (by kernel_rfl) (by kernel_rfl) (by kernel_rfl) (by kernel_rfl) k22 (by kernel_rfl) j24 j25 k26 k27 (by kernel_rfl) (by kernel_rfl) (by kernel_rfl) (by kernel_rfl)
theorem over : Rows.roundRoundsRow.holds Try.pinned (OpenSpec.ofChange Rows.roundRoundsSpec) :=
  OpenClaim.holds_of_wide 23 Try.f23 rfl rfl rfl rfl rfl rfl rfl ⟨rfl, rfl, rfl, rfl, rfl⟩ rfl rfl rfl rfl rfl (by kernel_rfl) Try.func23 closed
    (of_decide_eq_true (by kernel_rfl)) (by unfold Func.isWrapper; first | (rw [if_pos (by decide +kernel)]; kernel_rfl) | (rw [if_neg (by decide +kernel)]; exact ⟨rfl, rfl⟩))
    (fun os started H enc _ => lifted os started H enc)
theorem proved : Rows.RoundRoundsSaid :=
  over
end Go.Proofs.Ytggmmkdfgjnjfaa.roundRounds
