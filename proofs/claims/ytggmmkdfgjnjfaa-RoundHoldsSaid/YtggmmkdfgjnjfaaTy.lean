/- The seat's own facts: the program's knobs and the types of the arguments. Conditions: none. -/
import Derived.Test.YtggmmkdfgjnjfaaEd
import Derived.Test.YtggmmkdfgjnjfaaNp
import Derived.Test.YtggmmkdfgjnjfaaRq
import Derived.Test.YtggmmkdfgjnjfaaPq
import Derived.Test.YtggmmkdfgjnjfaaUq
import Derived.ChangeArms
import Derived.Test.YtggmmkdfgjnjfaaRows
namespace Go.Ev
open Go.RowKit Go.ChangeShapes Go.WideShapes
end Go.Ev
namespace Go.Proofs.Ytggmmkdfgjnjfaa
open Go.Ev Go.Fb
theorem own : ownKnob Try.prog.godebug = none := by kernel_rfl
theorem laid : laidOutB Try.prog = true := by kernel_rfl
theorem j2 : (mapsRowed Try.prog) = true := by kernel_rfl
theorem j6 : (Try.prog.stops == []) = true := by kernel_rfl
theorem j8 : (Try.prog.stopKnobs == []) = true := by kernel_rfl
theorem j24 : Try.prog.stopsHeard = true := by kernel_rfl
set_option maxRecDepth 100000 in
theorem io : Try.prog.initOrder = "harness 633d312655009c5cc885aada5d405f5ae0b3df2cfd45f1c51dda1b2e09edc208 cut at flyball/flyballlaw02.NatAdds flyball/flyballlaw02.NatDivides flyball/flyballlaw02.NatShifts flyball/flyballlaw02.NatTexts flyball/flyballlaw02.NatPowers flyball/flyballlaw02.NatLaws flyball/flyballlaw02.NatCommon flyball/flyballlaw03.RatioAdds flyball/flyballlaw03.RatioMuls flyball/flyballlaw03.RatioOrders flyball/flyballlaw03.RatioMakes flyball/flyballlaw03.RatioField flyball/flyballlaw03.RatioMost flyball/flyballlaw04.PatternParts flyball/flyballlaw04.PatternValues flyball/flyballlaw04.PatternNeighbours flyball/flyballlaw04.PatternBetween flyball/flyballlaw04.PatternSigns flyball/flyballlaw04.PatternMost flyball/flyballlaw04.PatternOrders flyball/flyballlaw05.RoundRounds flyball/flyballlaw05.RoundExacts flyball/flyballlaw05.RoundUlps flyball/flyballlaw05.RoundStays flyball/flyballlaw05.RoundRises flyball/flyballlaw05.RoundHolds flyball/flyballlaw06.SoftAdds flyball/flyballlaw06.SoftMuls flyball/flyballlaw06.SoftDivides flyball/flyballlaw06.SoftRoots flyball/flyballlaw06.SoftSums flyball/flyballlaw06.SoftTurns flyball/flyballlaw06.SoftRises flyball/flyballlaw06.SoftSquares flyball/flyballlaw06.SoftExact flyball/flyballlaw07.ConvFrom flyball/flyballlaw07.ConvTo flyball/flyballlaw07.ConvWhole flyball/flyballlaw07.ConvBack flyball/flyballlaw07.ConvNear" := by kernel_rfl
set_option maxRecDepth 100000 in
theorem words3 : ∃ s R, wordsSigns Try.prog.initOrder.toList = "harness".toList :: s :: "cut".toList :: R ∧ isSumSigns s = true := by
  rw [io, signs_of (s := "harness 633d312655009c5cc885aada5d405f5ae0b3df2cfd45f1c51dda1b2e09edc208 cut at flyball/flyballlaw02.NatAdds flyball/flyballlaw02.NatDivides flyball/flyballlaw02.NatShifts flyball/flyballlaw02.NatTexts flyball/flyballlaw02.NatPowers flyball/flyballlaw02.NatLaws flyball/flyballlaw02.NatCommon flyball/flyballlaw03.RatioAdds flyball/flyballlaw03.RatioMuls flyball/flyballlaw03.RatioOrders flyball/flyballlaw03.RatioMakes flyball/flyballlaw03.RatioField flyball/flyballlaw03.RatioMost flyball/flyballlaw04.PatternParts flyball/flyballlaw04.PatternValues flyball/flyballlaw04.PatternNeighbours flyball/flyballlaw04.PatternBetween flyball/flyballlaw04.PatternSigns flyball/flyballlaw04.PatternMost flyball/flyballlaw04.PatternOrders flyball/flyballlaw05.RoundRounds flyball/flyballlaw05.RoundExacts flyball/flyballlaw05.RoundUlps flyball/flyballlaw05.RoundStays flyball/flyballlaw05.RoundRises flyball/flyballlaw05.RoundHolds flyball/flyballlaw06.SoftAdds flyball/flyballlaw06.SoftMuls flyball/flyballlaw06.SoftDivides flyball/flyballlaw06.SoftRoots flyball/flyballlaw06.SoftSums flyball/flyballlaw06.SoftTurns flyball/flyballlaw06.SoftRises flyball/flyballlaw06.SoftSquares flyball/flyballlaw06.SoftExact flyball/flyballlaw07.ConvFrom flyball/flyballlaw07.ConvTo flyball/flyballlaw07.ConvWhole flyball/flyballlaw07.ConvBack flyball/flyballlaw07.ConvNear") (by rfl)]
  exact words_three (by kernel_rfl) (by kernel_rfl) (by kernel_rfl) (by kernel_rfl) (by kernel_rfl) (by kernel_rfl)
theorem bcut : ∃ R, behindMainWord (wordsSigns Try.prog.initOrder.toList) = "cut".toList :: R := behind_cut words3
theorem a1 : Try.prog.laysLater = false := by kernel_rfl
theorem a2 : Try.prog.bearsReflect = false := by kernel_rfl
theorem a3 : Try.prog.doorFits [] = true := by kernel_rfl
theorem j25 : Try.prog.mayEnter = true := mayEnter_cut bcut a1 a2 a3
theorem wd_ok {x : Int} (h : okInt .u64 x) : Wd x := by
  have := h
  simp [okInt, Lit.wf, IntKind.min, IntKind.max, IntKind.signed, IntKind.bits] at this
  unfold Wd; omega
theorem wds_ok {l : List Int} (h : okInts .u32 l) : Wds l := fun x hx => by
  have := h.2 x hx
  simp [Lit.wf, IntKind.min, IntKind.max, IntKind.signed, IntKind.bits] at this
  unfold W32; omega
end Go.Proofs.Ytggmmkdfgjnjfaa
namespace Go.Proofs.Ytggmmkdfgjnjfaa
open Go.Ev Go.Fb
theorem opR : OpensR Try.prog 68 (fun x : Bool × List Int × List Int => [.bool x.1] ++ ([.vec false (.int .u32 x.2.1)] ++ [.vec false (.int .u32 x.2.2)])) (fun x => True ∧ okInts .u32 x.2.1 ∧ okInts .u32 x.2.2) :=
  opensR_struct3 Try.underlying68 (opensR_bool Try.underlying4) (opensR_ints Try.underlying23 Try.underlying148 (by kernel_rfl)) (opensR_ints Try.underlying23 Try.underlying148 (by kernel_rfl)) ⟨by kernel_rfl, by kernel_rfl, by kernel_rfl, by kernel_rfl⟩
def okRR (a : RR) : Prop := okInts .u32 a.num ∧ okInts .u32 a.den
theorem op68 : Opens Try.prog 68 cRR okRR :=
  opens_cells Try.underlying68 opR (fun x => ⟨x.1, x.2.1, x.2.2⟩) (fun _ => rfl) (fun x s hs => by
    simp only [List.cons_append, List.nil_append, List.mem_cons, List.not_mem_nil, or_false] at hs
    rcases hs with rfl | rfl | rfl
    · exact ⟨.inl rfl, rfl⟩
    · exact ⟨.inr ⟨_, _, rfl⟩, rfl⟩
    · exact ⟨.inr ⟨_, _, rfl⟩, rfl⟩) (fun _ h => h.2)
theorem wr_ok {a : RR} (h : okRR a) : WR a := ⟨wds_ok h.1, wds_ok h.2⟩
end Go.Proofs.Ytggmmkdfgjnjfaa
namespace Go.Proofs.Ytggmmkdfgjnjfaa
open Go.Ev Go.Fb
theorem op94 : Opens Try.prog 94 (cInt .u64) (okInt .u64) := opens_int Try.underlying94
end Go.Proofs.Ytggmmkdfgjnjfaa
namespace Go.Proofs.Ytggmmkdfgjnjfaa
open Go.Ev Go.Fb
end Go.Proofs.Ytggmmkdfgjnjfaa
