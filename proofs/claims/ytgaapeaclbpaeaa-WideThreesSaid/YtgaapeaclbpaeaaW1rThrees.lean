/- Of three words: sums, differences, how they compare and how long they are, are just what the document says; a sum of many is all together, modulo. Holds at every input, without condition. -/
import Derived.Test.YtgaapeaclbpaeaaW1c
import Derived.Test.YtgaapeaclbpaeaaWB3
import Derived.Test.YtgaapeaclbpaeaaTyRW
namespace Go.Proofs.Ytgaapeaclbpaeaa.wideThrees
open Go.Ev Go.Fb Go.ChangeShapes Go.WideShapes Go.ChangeAt Go.RowKit
set_option maxRecDepth 100000 in
theorem lifted (os : Os) (started : os.Started) (H : Type) (enc : TypeId × Value → H) :
    ReturnsInHanded {} Try.checked os 7 .any (Rows.wideThreesSpec.pre6 enc Try.prog Try.f7 Rows.wideThreesRow.domain false) (Rows.wideThreesSpec.post enc Try.prog Try.f7 false true false false) := by
  refine returnsInHanded_of_change (C := Try.checked) own started (by kernel_rfl) Try.func7
    (ChangeSpec.witness6 (enc := enc) (C := Try.checked) false ⟨#[], #[.agg #[.int .u64 0, .int .u64 0, .int .u64 0], .agg #[.int .u64 0, .int .u64 0, .int .u64 0], .slice none 0 0], []⟩ 8 (by kernel_rfl) (by kernel_rfl) (by kernel_rfl) (by kernel_rfl)) ?_
  intro W base args ds gs before hval hW hcnd _
  exact law_contract (A := (aCons cU3 (aCons cU3 (aOne (cRow [.int .u64, .int .u64]))))) (AOpens.cons op34 (AOpens.cons op34 (AOpens.one opUL)) : AOpens Try.prog Try.f7.params.toList _ _) (fun x hx w vs hp => by
      have h := l1_WideThrees_c x (WideThrees_both (w3_ok hx.1) (w3_ok hx.2.1) (ul_ok hx.2.2.2)).2 w vs hp
      rwa [(WideThrees_both (w3_ok hx.1) (w3_ok hx.2.1) (ul_ok hx.2.2.2)).1] at h) laid (by kernel_rfl) (tb := 4) rfl Try.underlying4 rfl
    (fun ds h => match ds, h with
      | [_, _, _], _ => rfl) hval hW
theorem over : Rows.wideThreesRow.holds Try.pinned (OpenSpec.ofChange Rows.wideThreesSpec) :=
  OpenClaim.holds_of_wide 7 Try.f7 rfl rfl rfl rfl rfl rfl rfl ⟨rfl, rfl, rfl, rfl, rfl⟩ rfl rfl rfl rfl rfl (by kernel_rfl) Try.func7 (by kernel_rfl)
    (of_decide_eq_true (by kernel_rfl)) (by unfold Func.isWrapper; first | (rw [if_pos (by decide +kernel)]; kernel_rfl) | (rw [if_neg (by decide +kernel)]; exact ⟨rfl, rfl⟩))
    (fun os started H enc _ => lifted os started H enc)
theorem proved : Rows.WideThreesSaid :=
  over
end Go.Proofs.Ytgaapeaclbpaeaa.wideThrees
