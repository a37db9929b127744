/- Layer 3: contracts of the functions. Conditions: as each theorem states. -/
import Derived.Test.YtdkbeajkedffeaaGreatXc
import Derived.Test.YtdkbeajkedffeaaGreatRd
namespace Go.Proofs.YtdkbeajkedffeaaGreat
open Go.Ev Go.Fb
end Go.Proofs.YtdkbeajkedffeaaGreat
