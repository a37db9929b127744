/- Layer 5: the laws hold, in plain Lean. Conditions: as each theorem states. -/
import Derived.Test.YtdkbeajkedffeaaUl
import Derived.Test.YtdkbeajkedffeaaUp
namespace Go.Fb
open Go.Ev
end Go.Fb
namespace Go.Fb
open Go.Ev
def xV (S : Nat) (x : Rat) : Xn := xQ S x.num.natAbs x.den
end Go.Fb
namespace Go.Fb
open Go.Ev
end Go.Fb
namespace Go.Fb
open Go.Ev
end Go.Fb
