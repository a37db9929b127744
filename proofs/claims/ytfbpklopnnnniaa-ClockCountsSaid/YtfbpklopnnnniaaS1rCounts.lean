/- The law ClockCounts holds of the given program at every input: a counter is as great as ticks were. Conditions: none. -/
import Derived.Test.YtfbpklopnnnniaaS1p
import Derived.Test.YtfbpklopnnnniaaTyR
import Derived.Test.YtfbpklopnnnniaaEvN
namespace Go.Proofs.Ytfbpklopnnnniaa.clockCounts
open Go.Ev Go.Fb Go.ChangeShapes Go.WideShapes Go.ChangeAt Go.RowKit
set_option maxRecDepth 100000 in
theorem lifted (os : Os) (started : os.Started) (H : Type) (enc : TypeId × Value → H) :
    ReturnsInHanded {} Try.checked os 6 .any (Rows.clockCountsSpec.pre6 enc Try.prog Try.f6 Rows.clockCountsRow.domain false) (Rows.clockCountsSpec.post enc Try.prog Try.f6 false true false false) := by
  refine returnsInHanded_of_change (C := Try.checked) own started (by kernel_rfl) Try.func6
    (ChangeSpec.witness6 (enc := enc) (C := Try.checked) false ⟨#[], #[.int .i32 0, .int .i64 0], []⟩ 8 (by kernel_rfl) (by kernel_rfl) (by kernel_rfl) (by kernel_rfl)) ?_
  intro W base args ds gs before hval hW hcnd _
  exact law_contract (A := (aCons (cInt .i32) (aOne (cInt .i64)))) (AOpens.cons (opens_int Try.underlying21) (AOpens.one (opens_int Try.underlying3)) : AOpens Try.prog Try.f6.params.toList _ _) (fun x hx w vs hp => by
      have h := l21_ClockCounts_c x (ClockCounts_both x.1 x.2 (by have := hx.1; simpa [okInt, Lit.wf, IntKind.min, IntKind.max, IntKind.signed, IntKind.bits] using this)).2 w vs hp
      rwa [(ClockCounts_both x.1 x.2 (by have := hx.1; simpa [okInt, Lit.wf, IntKind.min, IntKind.max, IntKind.signed, IntKind.bits] using this)).1] at h) laid (by kernel_rfl) (tb := 4) rfl Try.underlying4 rfl
    (fun ds h => match ds, h with
      | [_, _], _ => rfl) hval hW
theorem over : Rows.clockCountsRow.holds Try.pinned (OpenSpec.ofChange Rows.clockCountsSpec) :=
  OpenClaim.holds_of_wide 6 Try.f6 rfl rfl rfl rfl rfl rfl rfl ⟨rfl, rfl, rfl, rfl, rfl⟩ rfl rfl rfl rfl rfl (by kernel_rfl) Try.func6 (by kernel_rfl)
    (of_decide_eq_true (by kernel_rfl)) (by unfold Func.isWrapper; first | (rw [if_pos (by decide +kernel)]; kernel_rfl) | (rw [if_neg (by decide +kernel)]; exact ⟨rfl, rfl⟩))
    (fun os started H enc _ => lifted os started H enc)
theorem proved : Rows.ClockCountsSaid :=
  over
end Go.Proofs.Ytfbpklopnnnniaa.clockCounts
