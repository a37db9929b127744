/- Layer 3: what the laws compute, as definitions. Conditions: none. -/
import Derived.Test.YtdkbeajkedffeaaGreatRd
namespace Go.Fb
open Go.Ev
end Go.Fb
