/- Layer 2: contracts of the functions, part two. Conditions: as each theorem states. -/
import Derived.Test.YtggmmkdfgjnjfaaNd
import Derived.Test.YtggmmkdfgjnjfaaXb
namespace Go.Proofs.Ytggmmkdfgjnjfaa
open Go.Ev Go.Fb
end Go.Proofs.Ytggmmkdfgjnjfaa
