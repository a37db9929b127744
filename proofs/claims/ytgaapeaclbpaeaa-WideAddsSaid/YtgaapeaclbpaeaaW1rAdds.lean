/- The law WideAdds holds of the given program at every input: sums, differences and how numbers compare are what the document says. Conditions: none. -/
import Derived.Test.YtgaapeaclbpaeaaW1c
import Derived.Test.YtgaapeaclbpaeaaW1m
import Derived.Test.YtgaapeaclbpaeaaTyRW
namespace Go.Proofs.Ytgaapeaclbpaeaa.wideAdds
open Go.Ev Go.Fb Go.ChangeShapes Go.WideShapes Go.ChangeAt Go.RowKit
set_option maxRecDepth 100000 in
theorem lifted (os : Os) (started : os.Started) (H : Type) (enc : TypeId × Value → H) :
    ReturnsInHanded {} Try.checked os 5 .any (Rows.wideAddsSpec.pre6 enc Try.prog Try.f5 Rows.wideAddsRow.domain false) (Rows.wideAddsSpec.post enc Try.prog Try.f5 false true false false) := by
  refine returnsInHanded_of_change (C := Try.checked) own started (by kernel_rfl) Try.func5
    (ChangeSpec.witness6 (enc := enc) (C := Try.checked) false ⟨#[], #[.agg #[.int .u64 0, .int .u64 0], .agg #[.int .u64 0, .int .u64 0]], []⟩ 8 (by kernel_rfl) (by kernel_rfl) (by kernel_rfl) (by kernel_rfl)) ?_
  intro W base args ds gs before hval hW hcnd _
  exact law_contract (A := (aCons cU2 (aOne cU2))) (AOpens.cons op24 (AOpens.one op24) : AOpens Try.prog Try.f5.params.toList _ _) (fun x hx w vs hp => by
      have h := l1_WideAdds_c x (WideAdds_both (w2_ok hx.1) (w2_ok hx.2)).2 w vs hp
      rwa [(WideAdds_both (w2_ok hx.1) (w2_ok hx.2)).1] at h) laid (by kernel_rfl) (tb := 4) rfl Try.underlying4 rfl
    (fun ds h => match ds, h with
      | [_, _], _ => rfl) hval hW
theorem over : Rows.wideAddsRow.holds Try.pinned (OpenSpec.ofChange Rows.wideAddsSpec) :=
  OpenClaim.holds_of_wide 5 Try.f5 rfl rfl rfl rfl rfl rfl rfl ⟨rfl, rfl, rfl, rfl, rfl⟩ rfl rfl rfl rfl rfl (by kernel_rfl) Try.func5 (by kernel_rfl)
    (of_decide_eq_true (by kernel_rfl)) (by unfold Func.isWrapper; first | (rw [if_pos (by decide +kernel)]; kernel_rfl) | (rw [if_neg (by decide +kernel)]; exact ⟨rfl, rfl⟩))
    (fun os started H enc _ => lifted os started H enc)
theorem proved : Rows.WideAddsSaid :=
  over
end Go.Proofs.Ytgaapeaclbpaeaa.wideAdds
