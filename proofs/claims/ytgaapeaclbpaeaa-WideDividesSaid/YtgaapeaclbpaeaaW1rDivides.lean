/- Quotients of two words by one and of three words by two, and what is left, are just what the document says; by nought they are noughts. Holds at every input, without condition. -/
import Derived.Test.YtgaapeaclbpaeaaW1c
import Derived.Test.YtgaapeaclbpaeaaWB2
import Derived.Test.YtgaapeaclbpaeaaTyRW
namespace Go.Proofs.Ytgaapeaclbpaeaa.wideDivides
open Go.Ev Go.Fb Go.ChangeShapes Go.WideShapes Go.ChangeAt Go.RowKit
set_option maxRecDepth 100000 in
theorem lifted (os : Os) (started : os.Started) (H : Type) (enc : TypeId × Value → H) :
    ReturnsInHanded {} Try.checked os 9 .any (Rows.wideDividesSpec.pre6 enc Try.prog Try.f9 Rows.wideDividesRow.domain false) (Rows.wideDividesSpec.post enc Try.prog Try.f9 false true false false) := by
  refine returnsInHanded_of_change (C := Try.checked) own started (by kernel_rfl) Try.func9
    (ChangeSpec.witness6 (enc := enc) (C := Try.checked) false ⟨#[], #[.agg #[.int .u64 0, .int .u64 0], .int .u64 0, .agg #[.int .u64 0, .int .u64 0, .int .u64 0], .agg #[.int .u64 0, .int .u64 0]], []⟩ 8 (by kernel_rfl) (by kernel_rfl) (by kernel_rfl) (by kernel_rfl)) ?_
  intro W base args ds gs before hval hW hcnd _
  exact law_contract (A := (aCons cU2 (aCons (cInt .u64) (aCons cU3 (aOne cU2))))) (AOpens.cons op24 (AOpens.cons op22 (AOpens.cons op34 (AOpens.one op24))) : AOpens Try.prog Try.f9.params.toList _ _) (fun x hx w vs hp => by
      have h := l1_WideDivides_c x (WideDivides_both (w2_ok hx.1) (wd_ok hx.2.1) (w3_ok hx.2.2.1) (w2_ok hx.2.2.2)).2 w vs hp
      rwa [(WideDivides_both (w2_ok hx.1) (wd_ok hx.2.1) (w3_ok hx.2.2.1) (w2_ok hx.2.2.2)).1] at h) laid (by kernel_rfl) (tb := 4) rfl Try.underlying4 rfl
    (fun ds h => match ds, h with
      | [_, _, _, _], _ => rfl) hval hW
theorem over : Rows.wideDividesRow.holds Try.pinned (OpenSpec.ofChange Rows.wideDividesSpec) :=
  OpenClaim.holds_of_wide 9 Try.f9 rfl rfl rfl rfl rfl rfl rfl ⟨rfl, rfl, rfl, rfl, rfl⟩ rfl rfl rfl rfl rfl (by kernel_rfl) Try.func9 (by kernel_rfl)
    (of_decide_eq_true (by kernel_rfl)) (by unfold Func.isWrapper; first | (rw [if_pos (by decide +kernel)]; kernel_rfl) | (rw [if_neg (by decide +kernel)]; exact ⟨rfl, rfl⟩))
    (fun os started H enc _ => lifted os started H enc)
theorem proved : Rows.WideDividesSaid :=
  over
end Go.Proofs.Ytgaapeaclbpaeaa.wideDivides
