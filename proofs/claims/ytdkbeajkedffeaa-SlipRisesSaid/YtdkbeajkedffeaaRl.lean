/- Layer 3: what the laws compute, as definitions. Conditions: none. -/
import Derived.Test.YtdkbeajkedffeaaRd
namespace Go.Fb
open Go.Ev
end Go.Fb
