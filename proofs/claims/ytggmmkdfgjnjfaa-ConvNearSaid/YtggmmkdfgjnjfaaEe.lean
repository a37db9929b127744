/- The symbolic evaluator: functions that answer a list of Bools of their own making. Conditions: as each theorem states. -/
import Derived.Test.YtggmmkdfgjnjfaaEc
namespace Go.Ev
open Go.RowKit
variable {P : Program} {C : Ctx} {B : Nat} {w0 : World}
end Go.Ev
