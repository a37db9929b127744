/- Proves the statement RoundUlps: what the last bit counts is what the document says: the law of the given program answers true and does not panic, whatever the arguments are that the row allows. Conditions: as the statement has them. -/
import Derived.Test.YtggmmkdfgjnjfaaUx
import Derived.Test.YtggmmkdfgjnjfaaUq
import Derived.Test.YtggmmkdfgjnjfaaTy
namespace Go.Proofs.Ytggmmkdfgjnjfaa.roundUlps
open Go.Ev Go.Fb Go.ChangeShapes Go.WideShapes Go.ChangeAt Go.RowKit
set_option maxRecDepth 100000 in
theorem lifted (os : Os) (started : os.Started) (H : Type) (enc : TypeId × Value → H) :
    ReturnsInHanded {} Try.checked os 25 .any (Rows.roundUlpsSpec.pre6 enc Try.prog Try.f25 Rows.roundUlpsRow.domain false) (Rows.roundUlpsSpec.post enc Try.prog Try.f25 false true false false) := by
  refine returnsInHanded_of_change (C := Try.checked) own started (by kernel_rfl) Try.func25
    (ChangeSpec.witness6 (enc := enc) (C := Try.checked) false ⟨#[], #[.int .u64 0], []⟩ 8 (by kernel_rfl) (by kernel_rfl) (by kernel_rfl) (by kernel_rfl)) ?_
  intro W base args ds gs before hval hW hcnd _
  exact law_contract (A := (aOne (cInt .u64))) (AOpens.one op94 : AOpens Try.prog Try.f25.params.toList _ _) (fun x hx w vs hp => by
      have h := l_RoundUlps_c x (RoundUlps_both (wd_ok hx)).2 w vs hp
      rwa [(RoundUlps_both (wd_ok hx)).1] at h) laid (by kernel_rfl) (tb := 4) rfl Try.underlying4 rfl
    (fun ds h => match ds, h with
      | [_], _ => rfl) hval hW
theorem k0 : (OpenClaim.wf (OpenSpec.ofChange Rows.roundUlpsSpec) Rows.roundUlpsRow) = true := by kernel_rfl
theorem k9 : (Rows.roundUlpsRow.inPlace == Try.prog.inPlace 25) = true := by kernel_rfl
theorem k10 : (Rows.roundUlpsRow.unfollowed == Try.prog.unfollowed 25) = true := by kernel_rfl
theorem k11 : (Rows.roundUlpsRow.recurses == Try.prog.recurses 25) = true := by kernel_rfl
theorem k12 : (Rows.roundUlpsRow.named == Try.prog.varsNamed 25) = true := by kernel_rfl
theorem k22 : (Rows.roundUlpsRow.plainKeys == Try.prog.plainKeys) = true := by kernel_rfl
theorem k26 : (Rows.roundUlpsRow.lifted == Try.prog.liftsFinal) = true := by rw [lifts_cut bcut]; rfl
theorem k27 : (Try.prog.make == some Rows.roundUlpsRow.make) = true := make_cut bcut
theorem closed : joinedFacts Try.prog 25 Try.f25 Rows.roundUlpsSpec Rows.roundUlpsRow = true :=
  joined_of k0 laid j2 (by kernel_rfl) (by kernel_rfl) (by kernel_rfl) j6 (by kernel_rfl) j8 k9 k10 k11 k12 (by kernel_rfl) (by kernel_rfl) (by kernel_rfl) (by kernel_rfl) (by kernel_rfl) (by kernel_rfl) (by kernel_rfl) (by kernel_rfl) (by kernel_rfl) k22 (by kernel_rfl) j24 j25 k26 k27 (by kernel_rfl) (by kernel_rfl) (by kernel_rfl) (by kernel_rfl)
theorem over : Rows.roundUlpsRow.holds Try.pinned (OpenSpec.ofChange Rows.roundUlpsSpec) :=
  OpenClaim.holds_of_wide 25 Try.f25 rfl rfl rfl rfl rfl rfl rfl ⟨rfl, rfl, rfl, rfl, rfl⟩ rfl rfl rfl rfl rfl (by kernel_rfl) Try.func25 closed
    (of_decide_eq_true (by kernel_rfl)) (by unfold Func.isWrapper; first | (rw [if_pos (by decide +kernel)]; kernel_rfl) | (rw [if_neg (by decide +kernel)]; exact ⟨rfl, rfl⟩))
    (fun os started H enc _ => lifted os started H enc)
theorem proved : Rows.RoundUlpsSaid :=
  over
end Go.Proofs.Ytggmmkdfgjnjfaa.roundUlps
