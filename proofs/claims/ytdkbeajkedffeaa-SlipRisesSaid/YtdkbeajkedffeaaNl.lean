/- Layer 2: what the laws compute, as definitions. Conditions: none. -/
import Derived.Test.YtdkbeajkedffeaaNd
namespace Go.Fb
open Go.Ev
end Go.Fb
