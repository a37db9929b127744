/- Layer 4: what the laws compute, as definitions. Conditions: none. -/
import Derived.Test.YtdkbeajkedffeaaGreatPd
namespace Go.Fb
open Go.Ev
end Go.Fb
