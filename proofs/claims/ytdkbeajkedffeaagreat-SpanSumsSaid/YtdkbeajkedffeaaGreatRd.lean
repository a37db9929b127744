/- Layer 3: what the functions compute, as definitions. Conditions: none. -/
import Derived.Test.YtdkbeajkedffeaaGreatNd
namespace Go.Fb
open Go.Ev
end Go.Fb
