/- Proved: the law IntsMakes hands back true whatever comes in, and changes nothing that was there. No conditions. -/
import Derived.Test.YtfbpklopnnnniaaS1e
import Derived.Test.YtfbpklopnnnniaaTyR
namespace Go.Proofs.Ytfbpklopnnnniaa.intsMakes
open Go.Ev Go.Fb Go.ChangeShapes Go.WideShapes Go.ChangeAt Go.RowKit
set_option maxRecDepth 100000 in
theorem lifted (os : Os) (started : os.Started) (H : Type) (enc : TypeId × Value → H) :
    ReturnsInHanded {} Try.checked os 7 .any (Rows.intsMakesSpec.pre6 enc Try.prog Try.f7 Rows.intsMakesRow.domain false) (Rows.intsMakesSpec.post enc Try.prog Try.f7 false true false false) := by
  refine returnsInHanded_of_change (C := Try.checked) own started (by kernel_rfl) Try.func7
    (ChangeSpec.witness6 (enc := enc) (C := Try.checked) false ⟨#[], #[.agg #[.bool false, .int .i64 0, .int .i64 0], .agg #[.bool false, .int .i64 0, .int .i64 0], .int .i64 0], []⟩ 8 (by kernel_rfl) (by kernel_rfl) (by kernel_rfl) (by kernel_rfl)) ?_
  intro W base args ds gs before hval hW hcnd _
  exact law_contract (A := (aCons cI3 (aCons cI3 (aOne (cInt .i64))))) (AOpens.cons op23 (AOpens.cons op23 (AOpens.one op2)) : AOpens Try.prog Try.f7.params.toList _ _) (fun x hx w vs hp => by
      have h := l17_IntsMakes_c x w vs hp
      rwa [IntsMakes_true] at h) laid (by kernel_rfl) (tb := 4) rfl Try.underlying4 rfl
    (fun ds h => match ds, h with
      | [_, _, _], _ => rfl) hval hW
theorem over : Rows.intsMakesRow.holds Try.pinned (OpenSpec.ofChange Rows.intsMakesSpec) :=
  OpenClaim.holds_of_wide 7 Try.f7 rfl rfl rfl rfl rfl rfl rfl ⟨rfl, rfl, rfl, rfl, rfl⟩ rfl rfl rfl rfl rfl (by kernel_rfl) Try.func7 (by kernel_rfl)
    (of_decide_eq_true (by kernel_rfl)) (by unfold Func.isWrapper; first | (rw [if_pos (by decide +kernel)]; kernel_rfl) | (rw [if_neg (by decide +kernel)]; exact ⟨rfl, rfl⟩))
    (fun os started H enc _ => lifted os started H enc)
theorem proved : Rows.IntsMakesSaid :=
  over
end Go.Proofs.Ytfbpklopnnnniaa.intsMakes
