/- Layer 4: what the laws compute, as definitions. Conditions: none. -/
import Derived.Test.YtdkbeajkedffeaaPd
namespace Go.Fb
open Go.Ev
end Go.Fb
