/- Layer 2: what the laws compute, as definitions. Conditions: none. -/
import Derived.Test.YtdkbeajkedffeaaGreatNd
namespace Go.Fb
open Go.Ev
end Go.Fb
