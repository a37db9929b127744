/- Spans: what the laws compute, as definitions. Conditions: none. -/
import Derived.Test.YtdkbeajkedffeaaFd
namespace Go.Fb
open Go.Ev
end Go.Fb
namespace Go.Fb
open Go.Ev
end Go.Fb
