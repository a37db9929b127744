/- The law WideRoots holds of the given program at every input: a root, its square and what is left. Conditions: none. -/
import Derived.Test.YtgaapeaclbpaeaaW1c
import Derived.Test.YtgaapeaclbpaeaaW1j
import Derived.Test.YtgaapeaclbpaeaaTyRW
namespace Go.Proofs.Ytgaapeaclbpaeaa.wideRoots
open Go.Ev Go.Fb Go.ChangeShapes Go.WideShapes Go.ChangeAt Go.RowKit
set_option maxRecDepth 100000 in
theorem lifted (os : Os) (started : os.Started) (H : Type) (enc : TypeId × Value → H) :
    ReturnsInHanded {} Try.checked os 6 .any (Rows.wideRootsSpec.pre6 enc Try.prog Try.f6 Rows.wideRootsRow.domain false) (Rows.wideRootsSpec.post enc Try.prog Try.f6 false true false false) := by
  refine returnsInHanded_of_change (C := Try.checked) own started (by kernel_rfl) Try.func6
    (ChangeSpec.witness6 (enc := enc) (C := Try.checked) false ⟨#[], #[.agg #[.int .u64 0, .int .u64 0]], []⟩ 8 (by kernel_rfl) (by kernel_rfl) (by kernel_rfl) (by kernel_rfl)) ?_
  intro W base args ds gs before hval hW hcnd _
  exact law_contract (A := (aOne cU2)) (AOpens.one op24 : AOpens Try.prog Try.f6.params.toList _ _) (fun x hx w vs hp => by
      have h := l1_WideRoots_c x (WideRoots_both (w2_ok hx)).2 w vs hp
      rwa [(WideRoots_both (w2_ok hx)).1] at h) laid (by kernel_rfl) (tb := 4) rfl Try.underlying4 rfl
    (fun ds h => match ds, h with
      | [_], _ => rfl) hval hW
theorem over : Rows.wideRootsRow.holds Try.pinned (OpenSpec.ofChange Rows.wideRootsSpec) :=
  OpenClaim.holds_of_wide 6 Try.f6 rfl rfl rfl rfl rfl rfl rfl ⟨rfl, rfl, rfl, rfl, rfl⟩ rfl rfl rfl rfl rfl (by kernel_rfl) Try.func6 (by kernel_rfl)
    (of_decide_eq_true (by kernel_rfl)) (by unfold Func.isWrapper; first | (rw [if_pos (by decide +kernel)]; kernel_rfl) | (rw [if_neg (by decide +kernel)]; exact ⟨rfl, rfl⟩))
    (fun os started H enc _ => lifted os started H enc)
theorem proved : Rows.WideRootsSaid :=
  over
end Go.Proofs.Ytgaapeaclbpaeaa.wideRoots
