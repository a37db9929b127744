/- Layer 2: contracts of the functions, part two. Conditions: as each theorem states. -/
import Derived.Test.YtdkbeajkedffeaaNd
import Derived.Test.YtdkbeajkedffeaaXb
namespace Go.Proofs.Ytdkbeajkedffeaa
open Go.Ev Go.Fb
end Go.Proofs.Ytdkbeajkedffeaa
