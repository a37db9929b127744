/- Contracts and laws of functions of the program, on the way to the claim. Conditions: as each theorem states. -/
import Derived.Test.YtgaapeaclbpaeaaTyKW
import Derived.Test.YtgaapeaclbpaeaaEvP
import Derived.Test.YtgaapeaclbpaeaaWB3
import Derived.Test.YtgaapeaclbpaeaaRows
namespace Go.Proofs.Ytgaapeaclbpaeaa
open Go.Ev Go.Fb
theorem own : ownKnob Try.prog.godebug = none := by kernel_rfl
theorem laid : laidOutB Try.prog = true := by kernel_rfl
theorem op24 : Opens Try.prog 24 cU2 okU2 := opens_U2 Try.underlying24 Try.underlying22 Try.underlying22 ⟨by kernel_rfl, by kernel_rfl, by kernel_rfl⟩
theorem op34 : Opens Try.prog 34 cU3 okU3 := opens_U3 Try.underlying34 Try.underlying22 Try.underlying22 Try.underlying22 ⟨by kernel_rfl, by kernel_rfl, by kernel_rfl, by kernel_rfl⟩
theorem op22 : Opens Try.prog 22 (cInt .u64) (okInt .u64) := opens_int Try.underlying22
theorem op3 : Opens Try.prog 3 (cInt .i64) (okInt .i64) := opens_int Try.underlying3
theorem opUL : Opens Try.prog 54 (cRow [.int .u64, .int .u64]) (fun l => l.length ≤ maxLen ∧ ∀ r ∈ l, ∃ y : Int × Int, (okInt .u64 y.1 ∧ okInt .u64 y.2) ∧ r = [.i y.1, .i y.2]) := opens_rows Try.underlying54 (opensR_struct2 Try.underlying24 (opensR_int Try.underlying22) (opensR_int Try.underlying22) ⟨by kernel_rfl, by kernel_rfl, by kernel_rfl⟩) (fun y => [.i y.1, .i y.2]) (fun _ => rfl) (by kernel_rfl) (by decide)
theorem wd_ok {x : Int} (h : okInt .u64 x) : Wd x := by
  have := h
  simp [okInt, Lit.wf, IntKind.min, IntKind.max, IntKind.signed, IntKind.bits] at this
  unfold Wd; omega
theorem w2_ok {x : U2} (h : okU2 x) : W2 x := ⟨wd_ok h.1, wd_ok h.2⟩
theorem w3_ok {x : U3} (h : okU3 x) : W3 x := ⟨wd_ok h.1, wd_ok h.2.1, wd_ok h.2.2⟩
theorem ul_ok {l : List (List Cv)} (h : ∀ r ∈ l, ∃ y : Int × Int, (okInt .u64 y.1 ∧ okInt .u64 y.2) ∧ r = [.i y.1, .i y.2]) : ok2 l := fun r hr => by
  obtain ⟨y, ⟨h1, h2⟩, rfl⟩ := h r hr
  exact ⟨wd_ok h1, wd_ok h2⟩
end Go.Proofs.Ytgaapeaclbpaeaa
