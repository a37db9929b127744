/- Layer 2: the laws hold, in plain Lean. Conditions: as each theorem states. -/
import Derived.Test.YtdkbeajkedffeaaNl
import Derived.Test.YtdkbeajkedffeaaNp
namespace Go.Fb
open Go.Ev
theorem t1 : n_Text [1000] = [49,48,48,48] ∧ n_Text_s [1000] = true := by decide +kernel
end Go.Fb
namespace Go.Fb
open Go.Ev
end Go.Fb
namespace Go.Fb
open Go.Ev
end Go.Fb
namespace Go.Fb
open Go.Ev
end Go.Fb
namespace Go.Fb
open Go.Ev
theorem shr63 {n j : Nat} (hj : j ≤ 64) : shrI .i64 (n : Int) (j : Int) = ((n / 2 ^ j : Nat) : Int) := by
  unfold shrI
  rw [Int.toNat_natCast, show IntKind.i64.bits = 64 from rfl, Nat.min_eq_left hj, Int.fdiv_eq_ediv_of_nonneg _ (by exact Int.natCast_nonneg (2 ^ j))]
  rw [Int.natCast_ediv]; simp
end Go.Fb
namespace Go.Fb
open Go.Ev
end Go.Fb
namespace Go.Fb
open Go.Ev
end Go.Fb
