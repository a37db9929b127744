/- Layer 2: contracts of the functions, part two. Conditions: as each theorem states. -/
import Derived.Test.YtdkbeajkedffeaaGreatNd
import Derived.Test.YtdkbeajkedffeaaGreatXb
namespace Go.Proofs.YtdkbeajkedffeaaGreat
open Go.Ev Go.Fb
end Go.Proofs.YtdkbeajkedffeaaGreat
