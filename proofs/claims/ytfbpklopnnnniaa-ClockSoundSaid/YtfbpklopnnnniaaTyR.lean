/- The seat's own facts: the program's knobs and the types of the arguments. -/
import Derived.Test.YtfbpklopnnnniaaTyK
import Derived.Test.YtfbpklopnnnniaaRows
namespace Go.Proofs.Ytfbpklopnnnniaa
open Go.Ev Go.Fb
theorem own : ownKnob Try.prog.godebug = none := by kernel_rfl
theorem laid : laidOutB Try.prog = true := by kernel_rfl
theorem op23 : Opens Try.prog 23 cI3 okI3 := opens_I3 Try.underlying23 Try.underlying4 Try.underlying2 Try.underlying2 ⟨by kernel_rfl, by kernel_rfl, by kernel_rfl, by kernel_rfl⟩
theorem op2 : Opens Try.prog 2 (cInt .i64) (okInt .i64) := opens_int Try.underlying2
theorem op25 : Opens Try.prog 25 cCK okCK := opens_CK (u := 23) rfl rfl Try.underlying25 Try.underlying23 Try.underlying4 Try.underlying2 Try.underlying2 ⟨by kernel_rfl, by kernel_rfl, by kernel_rfl, by kernel_rfl⟩ ⟨by kernel_rfl, by kernel_rfl, by kernel_rfl⟩
end Go.Proofs.Ytfbpklopnnnniaa
