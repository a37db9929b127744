/- Layer 4: the laws hold, in plain Lean. Conditions: as each theorem states. -/
import Derived.Test.YtggmmkdfgjnjfaaPl
import Derived.Test.YtggmmkdfgjnjfaaPp
namespace Go.Fb
open Go.Ev
end Go.Fb
namespace Go.Fb
open Go.Ev
end Go.Fb
namespace Go.Fb
open Go.Ev
def WdL (l : List Int) : Prop := ∀ x ∈ l, Wd x
theorem WdL.at {l : List Int} (h : WdL l) {i : Nat} (hi : i < l.length) : Wd (l.getD i 0) := h _ (by simp [List.getD, hi])
end Go.Fb
