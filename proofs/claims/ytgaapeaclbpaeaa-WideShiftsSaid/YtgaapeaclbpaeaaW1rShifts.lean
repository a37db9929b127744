/- What is shifted, to whichever side and by however much, is just what the document says; it is told whether something was lost. Holds at every input, without condition. -/
import Derived.Test.YtgaapeaclbpaeaaW1c
import Derived.Test.YtgaapeaclbpaeaaWC2
import Derived.Test.YtgaapeaclbpaeaaTyRW
namespace Go.Proofs.Ytgaapeaclbpaeaa.wideShifts
open Go.Ev Go.Fb Go.ChangeShapes Go.WideShapes Go.ChangeAt Go.RowKit
set_option maxRecDepth 100000 in
theorem lifted (os : Os) (started : os.Started) (H : Type) (enc : TypeId × Value → H) :
    ReturnsInHanded {} Try.checked os 8 .any (Rows.wideShiftsSpec.pre6 enc Try.prog Try.f8 Rows.wideShiftsRow.domain false) (Rows.wideShiftsSpec.post enc Try.prog Try.f8 false true false false) := by
  refine returnsInHanded_of_change (C := Try.checked) own started (by kernel_rfl) Try.func8
    (ChangeSpec.witness6 (enc := enc) (C := Try.checked) false ⟨#[], #[.agg #[.int .u64 0, .int .u64 0], .agg #[.int .u64 0, .int .u64 0, .int .u64 0], .int .i64 0], []⟩ 8 (by kernel_rfl) (by kernel_rfl) (by kernel_rfl) (by kernel_rfl)) ?_
  intro W base args ds gs before hval hW hcnd _
  exact law_contract (A := (aCons cU2 (aCons cU3 (aOne (cInt .i64))))) (AOpens.cons op24 (AOpens.cons op34 (AOpens.one op3)) : AOpens Try.prog Try.f8.params.toList _ _) (fun x hx w vs hp => by
      have h := l1_WideShifts_c x (WideShifts_both (w2_ok hx.1) (w3_ok hx.2.1) (by have := hx.2.2; simpa [okInt, Lit.wf, IntKind.min, IntKind.max, IntKind.signed, IntKind.bits] using this)).2 w vs hp
      rwa [(WideShifts_both (w2_ok hx.1) (w3_ok hx.2.1) (by have := hx.2.2; simpa [okInt, Lit.wf, IntKind.min, IntKind.max, IntKind.signed, IntKind.bits] using this)).1] at h) laid (by kernel_rfl) (tb := 4) rfl Try.underlying4 rfl
    (fun ds h => match ds, h with
      | [_, _, _], _ => rfl) hval hW
theorem over : Rows.wideShiftsRow.holds Try.pinned (OpenSpec.ofChange Rows.wideShiftsSpec) :=
  OpenClaim.holds_of_wide 8 Try.f8 rfl rfl rfl rfl rfl rfl rfl ⟨rfl, rfl, rfl, rfl, rfl⟩ rfl rfl rfl rfl rfl (by kernel_rfl) Try.func8 (by kernel_rfl)
    (of_decide_eq_true (by kernel_rfl)) (by unfold Func.isWrapper; first | (rw [if_pos (by decide +kernel)]; kernel_rfl) | (rw [if_neg (by decide +kernel)]; exact ⟨rfl, rfl⟩))
    (fun os started H enc _ => lifted os started H enc)
theorem proved : Rows.WideShiftsSaid :=
  over
end Go.Proofs.Ytgaapeaclbpaeaa.wideShifts
