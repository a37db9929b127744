/- Proves the statement RoundHolds: down is not above, up not below, nothing lies between, and the nearest one is nearest: the law of the given program answers true and does not panic, whatever the arguments are that the row allows. Conditions: as the statement has them. -/
import Derived.Test.YtggmmkdfgjnjfaaUx
import Derived.Test.YtggmmkdfgjnjfaaUq
import Derived.Test.YtggmmkdfgjnjfaaTy
namespace Go.Proofs.Ytggmmkdfgjnjfaa.roundHolds
open Go.Ev Go.Fb Go.ChangeShapes Go.WideShapes Go.ChangeAt Go.RowKit
set_option maxRecDepth 100000 in
theorem lifted (os : Os) (started : os.Started) (H : Type) (enc : TypeId × Value → H) :
    ReturnsInHanded {} Try.checked os 28 .any (Rows.roundHoldsSpec.pre6 enc Try.prog Try.f28 Rows.roundHoldsRow.domain false) (Rows.roundHoldsSpec.post enc Try.prog Try.f28 false true false false) := by
  refine returnsInHanded_of_change (C := Try.checked) own started (by kernel_rfl) Try.func28
    (ChangeSpec.witness6 (enc := enc) (C := Try.checked) false ⟨#[], #[.agg #[.bool false, .slice none 0 0, .slice none 0 0], .int .u64 0], []⟩ 8 (by kernel_rfl) (by kernel_rfl) (by kernel_rfl) (by kernel_rfl)) ?_
  intro W base args ds gs before hval hW hcnd _
  exact law_contract (A := (aCons cRR (aOne (cInt .u64)))) (AOpens.cons op68 (AOpens.one op94) : AOpens Try.prog Try.f28.params.toList _ _) (fun x hx w vs hp => l_RoundHolds_c x (RoundHolds_ok (wr_ok hx.1).1 (wr_ok hx.1).2 (wd_ok hx.2)) w vs hp) laid (by kernel_rfl) (tb := 4) rfl Try.underlying4 rfl
    (fun ds h => match ds, h with
      | [_, _], _ => rfl) hval hW
theorem k0 : (OpenClaim.wf (OpenSpec.ofChange Rows.roundHoldsSpec) Rows.roundHoldsRow) = true := by kernel_rfl
theorem k9 : (Rows.roundHoldsRow.inPlace == Try.prog.inPlace 28) = true := by kernel_rfl
theorem k10 : (Rows.roundHoldsRow.unfollowed == Try.prog.unfollowed 28) = true := by kernel_rfl
theorem k11 : (Rows.roundHoldsRow.recurses == Try.prog.recurses 28) = true := by kernel_rfl
theorem k12 : (Rows.roundHoldsRow.named == Try.prog.varsNamed 28) = true := by kernel_rfl
theorem k22 : (Rows.roundHoldsRow.plainKeys == Try.prog.plainKeys) = true := by kernel_rfl
theorem k26 : (Rows.roundHoldsRow.lifted == Try.prog.liftsFinal) = true := by rw [lifts_cut bcut]; rfl
theorem k27 : (Try.prog.make == some Rows.roundHoldsRow.make) = true := make_cut bcut
theorem closed : joinedFacts Try.prog 28 Try.f28 Rows.roundHoldsSpec Rows.roundHoldsRow = true :=
  joined_of k0 laid j2 (by kernel_rfl) (by kernel_rfl) (by kernel_rfl) j6 (by kernel_rfl) j8 k9 k10 k11 k12 (by kernel_rfl) (by kernel_rfl) (by kernel_rfl) (by kernel_rfl) (by kernel_rfl) (by kernel_rfl) (by kernel_rfl) (by kernel_rfl) (by kernel_rfl) k22 (by kernel_rfl) j24 j25 k26 k27 (by kernel_rfl) (by kernel_rfl) (by kernel_rfl) (by kernel_rfl)
theorem over : Rows.roundHoldsRow.holds Try.pinned (OpenSpec.ofChange Rows.roundHoldsSpec) :=
  OpenClaim.holds_of_wide 28 Try.f28 rfl rfl rfl rfl rfl rfl rfl ⟨rfl, rfl, rfl, rfl, rfl⟩ rfl rfl rfl rfl rfl (by kernel_rfl) Try.func28 closed
    (of_decide_eq_true (by kernel_rfl)) (by unfold Func.isWrapper; first | (rw [if_pos (by decide +kernel)]; kernel_rfl) | (rw [if_neg (by decide +kernel)]; exact ⟨rfl, rfl⟩))
    (fun os started H enc _ => lifted os started H enc)
theorem proved : Rows.RoundHoldsSaid :=
  over
end Go.Proofs.Ytggmmkdfgjnjfaa.roundHolds
