/- Layer 3: contracts of the functions. Conditions: as each theorem states. -/
import Derived.Test.YtdkbeajkedffeaaXc
import Derived.Test.YtdkbeajkedffeaaRd
namespace Go.Proofs.Ytdkbeajkedffeaa
open Go.Ev Go.Fb
end Go.Proofs.Ytdkbeajkedffeaa
