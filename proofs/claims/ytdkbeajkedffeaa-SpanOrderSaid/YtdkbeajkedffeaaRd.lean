/- Layer 3: what the functions compute, as definitions. Conditions: none. -/
import Derived.Test.YtdkbeajkedffeaaNd
namespace Go.Fb
open Go.Ev
end Go.Fb
