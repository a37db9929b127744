/- Layer 5: what the laws compute, as definitions. Conditions: none. -/
import Derived.Test.YtdkbeajkedffeaaGreatUd
namespace Go.Fb
open Go.Ev
end Go.Fb
