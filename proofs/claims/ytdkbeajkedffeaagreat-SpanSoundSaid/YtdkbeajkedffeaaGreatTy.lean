/- The seat's own facts: the program's knobs and the types of the arguments. Conditions: none. -/
import Derived.Test.YtdkbeajkedffeaaGreatEd
import Derived.Test.YtdkbeajkedffeaaGreatFp
import Derived.ChangeArms
import Derived.Test.YtdkbeajkedffeaaGreatRows
namespace Go.Proofs.YtdkbeajkedffeaaGreat
open Go.Ev Go.Fb
theorem own : ownKnob Tryz.prog.godebug = none := by kernel_rfl
theorem laid : laidOutB Tryz.prog = true := by kernel_rfl
theorem j2 : (mapsRowed Tryz.prog) = true := by kernel_rfl
theorem j6 : (Tryz.prog.stops == []) = true := by kernel_rfl
theorem j8 : (Tryz.prog.stopKnobs == []) = true := by kernel_rfl
theorem j24 : Tryz.prog.stopsHeard = true := by kernel_rfl
set_option maxRecDepth 100000 in
theorem io : Tryz.prog.initOrder = "harness b6b999fd7ae912194ee6b64bccfeb556ee51ac1025285b62274d2c324f5c3892 cut at flyball/flyballlaw16.SpanProducts flyball/flyballlaw16.SpanSums flyball/flyballlaw16.SpanTight flyball/flyballlaw16.SpanSound" := by kernel_rfl
set_option maxRecDepth 100000 in
theorem words3 : ∃ s R, wordsSigns Tryz.prog.initOrder.toList = "harness".toList :: s :: "cut".toList :: R ∧ isSumSigns s = true := by
  rw [io, signs_of (s := "harness b6b999fd7ae912194ee6b64bccfeb556ee51ac1025285b62274d2c324f5c3892 cut at flyball/flyballlaw16.SpanProducts flyball/flyballlaw16.SpanSums flyball/flyballlaw16.SpanTight flyball/flyballlaw16.SpanSound") (by rfl)]
  exact words_three (by kernel_rfl) (by kernel_rfl) (by kernel_rfl) (by kernel_rfl) (by kernel_rfl) (by kernel_rfl)
theorem bcut : ∃ R, behindMainWord (wordsSigns Tryz.prog.initOrder.toList) = "cut".toList :: R := behind_cut words3
theorem a1 : Tryz.prog.laysLater = false := by kernel_rfl
theorem a2 : Tryz.prog.bearsReflect = false := by kernel_rfl
theorem a3 : Tryz.prog.doorFits [] = true := by kernel_rfl
theorem j25 : Tryz.prog.mayEnter = true := mayEnter_cut bcut a1 a2 a3
theorem wd_ok {x : Int} (h : okInt .u64 x) : Wd x := by
  have := h
  simp [okInt, Lit.wf, IntKind.min, IntKind.max, IntKind.signed, IntKind.bits] at this
  unfold Wd; omega
def okSP (s : SP) : Prop := okInt .u64 s.lo ∧ okInt .u64 s.hi
theorem ws_ok {s : SP} (h : okSP s) : WS s := ⟨wd_ok h.1, wd_ok h.2⟩
theorem opSP : Opens Tryz.prog 25 cSP okSP :=
  opens_struct Tryz.underlying25 (opensC_struct3 Tryz.underlying25 (opensC_bool Tryz.underlying4) (opensC_int Tryz.underlying23) (opensC_int Tryz.underlying23) ⟨by kernel_rfl, by kernel_rfl, by kernel_rfl, by kernel_rfl⟩) (fun x => ⟨x.1, x.2.1, x.2.2⟩) (fun _ => rfl) fun _ h => ⟨h.2.1, h.2.2⟩
theorem opF : Opens Tryz.prog 23 (cInt .u64) (okInt .u64) := opens_int Tryz.underlying23
end Go.Proofs.YtdkbeajkedffeaaGreat
