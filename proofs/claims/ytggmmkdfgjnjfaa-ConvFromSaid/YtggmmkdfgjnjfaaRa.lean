/- Layer 3: contracts of the functions. Conditions: as each theorem states. -/
import Derived.Test.YtggmmkdfgjnjfaaXc
import Derived.Test.YtggmmkdfgjnjfaaRd
namespace Go.Proofs.Ytggmmkdfgjnjfaa
open Go.Ev Go.Fb
end Go.Proofs.Ytggmmkdfgjnjfaa
