/- The seat's own facts: the program's knobs and the types of the arguments. Conditions: none. -/
import Derived.Test.YtdkbeajkedffeaaEd
import Derived.Test.YtdkbeajkedffeaaFp
import Derived.ChangeArms
import Derived.Test.YtdkbeajkedffeaaRows
namespace Go.Proofs.Ytdkbeajkedffeaa
open Go.Ev Go.Fb
theorem own : ownKnob Try.prog.godebug = none := by kernel_rfl
theorem laid : laidOutB Try.prog = true := by kernel_rfl
theorem j2 : (mapsRowed Try.prog) = true := by kernel_rfl
theorem j6 : (Try.prog.stops == []) = true := by kernel_rfl
theorem j8 : (Try.prog.stopKnobs == []) = true := by kernel_rfl
theorem j24 : Try.prog.stopsHeard = true := by kernel_rfl
set_option maxRecDepth 100000 in
theorem io : Try.prog.initOrder = "harness 4b3bad8a40e085a16e30a73c0dc9c1c60c43ebfbc7c5ed310dad7d2a44ea765b cut at flyball/flyballlaw16.SpanMakes flyball/flyballlaw16.SpanTests flyball/flyballlaw16.SpanKeeps flyball/flyballlaw16.SpanWidens flyball/flyballlaw16.SpanOrder flyball/flyballlaw19.SlipWidens flyball/flyballlaw19.SlipRises flyball/flyballlaw19.SlipDivides" := by kernel_rfl
set_option maxRecDepth 100000 in
theorem words3 : ∃ s R, wordsSigns Try.prog.initOrder.toList = "harness".toList :: s :: "cut".toList :: R ∧ isSumSigns s = true := by
  rw [io, signs_of (s := "harness 4b3bad8a40e085a16e30a73c0dc9c1c60c43ebfbc7c5ed310dad7d2a44ea765b cut at flyball/flyballlaw16.SpanMakes flyball/flyballlaw16.SpanTests flyball/flyballlaw16.SpanKeeps flyball/flyballlaw16.SpanWidens flyball/flyballlaw16.SpanOrder flyball/flyballlaw19.SlipWidens flyball/flyballlaw19.SlipRises flyball/flyballlaw19.SlipDivides") (by rfl)]
  exact words_three (by kernel_rfl) (by kernel_rfl) (by kernel_rfl) (by kernel_rfl) (by kernel_rfl) (by kernel_rfl)
theorem bcut : ∃ R, behindMainWord (wordsSigns Try.prog.initOrder.toList) = "cut".toList :: R := behind_cut words3
theorem a1 : Try.prog.laysLater = false := by kernel_rfl
theorem a2 : Try.prog.bearsReflect = false := by kernel_rfl
theorem a3 : Try.prog.doorFits [] = true := by kernel_rfl
theorem j25 : Try.prog.mayEnter = true := mayEnter_cut bcut a1 a2 a3
theorem wd_ok {x : Int} (h : okInt .u64 x) : Wd x := by
  have := h
  simp [okInt, Lit.wf, IntKind.min, IntKind.max, IntKind.signed, IntKind.bits] at this
  unfold Wd; omega
def okSP (s : SP) : Prop := okInt .u64 s.lo ∧ okInt .u64 s.hi
theorem ws_ok {s : SP} (h : okSP s) : WS s := ⟨wd_ok h.1, wd_ok h.2⟩
theorem opSP : Opens Try.prog 25 cSP okSP :=
  opens_struct Try.underlying25 (opensC_struct3 Try.underlying25 (opensC_bool Try.underlying4) (opensC_int Try.underlying23) (opensC_int Try.underlying23) ⟨by kernel_rfl, by kernel_rfl, by kernel_rfl, by kernel_rfl⟩) (fun x => ⟨x.1, x.2.1, x.2.2⟩) (fun _ => rfl) fun _ h => ⟨h.2.1, h.2.2⟩
theorem opF : Opens Try.prog 23 (cInt .u64) (okInt .u64) := opens_int Try.underlying23
theorem opOp : Opens Try.prog 37 (cInt .u8) (okInt .u8) := opens_int Try.underlying37
theorem opFs : Opens Try.prog 46 (cInts .u64) (okInts .u64) := opens_ints Try.underlying46 Try.underlying23 (by kernel_rfl)
theorem wdl_ok {l : List Int} (h : okInts .u64 l) : WdL l := fun x hx => wd_ok (h.2 x hx)
end Go.Proofs.Ytdkbeajkedffeaa
