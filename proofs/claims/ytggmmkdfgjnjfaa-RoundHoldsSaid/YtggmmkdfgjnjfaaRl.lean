/- Layer 3: what the laws compute, as definitions. Conditions: none. -/
import Derived.Test.YtggmmkdfgjnjfaaRd
namespace Go.Fb
open Go.Ev
end Go.Fb
