/- Layer 3: the laws hold, in plain Lean. Conditions: as each theorem states. -/
import Derived.Test.YtdkbeajkedffeaaGreatRl
import Derived.Test.YtdkbeajkedffeaaGreatRp
namespace Go.Fb
open Go.Ev
end Go.Fb
namespace Go.Fb
open Go.Ev
end Go.Fb
namespace Go.Fb
open Go.Ev
def dy (neg : Bool) (m : Nat) (e : Int) : Rat := rq neg (2 ^ e.toNat * m) (2 ^ (-e).toNat)
end Go.Fb
