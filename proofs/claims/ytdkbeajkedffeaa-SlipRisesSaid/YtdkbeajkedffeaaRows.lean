/-
  No cell of these rows narrows 'for every input' (looked for: loops, veiled, ifaces, maps, wideKeys, modest, calm, conditions, laid).
  DERIVED. THE GIVEN ROWS OF THIS SEAT. 8 by the template 'for every input the law returns true; each argument reads behind the call as it read before'; 0 by the template 'total and deterministic' (their statements: YtdkbeajkedffeaaTotals.lean).
  GIVEN WITH THE SEED: the statements are not yours to turn. If you find one false, say at which input.
  Laid BY PROGRAM, IN A SANDBOX (cutbox-rows.mjs): the forced cells as the released guide's own fill.sh prints them over the translation dbc4b78627ee9602… (all of the seat's roots in one cut). By AI agents, Wed Nov 11 2026. No macro, syntax, notation, axiom, sorry.
-/
import Derived.Test.YtdkbeajkedffeaaChecked
import GoSem.Claim
import GoSem.ClaimJoined
import GoSem.ClaimMapViews
import Derived.JoinedTies
import Derived.KernelRfl
namespace Go.Proofs.Ytdkbeajkedffeaa
/- THE CELL 'sum', in the pinned program and in every row, IS THE sha256 OF THE DUMP (.gsa) THAT YtdkbeajkedffeaaProg.lean LOADS. Nothing in Lean hashes anything: it is a label: what it is worth is what the hold of that sum in a sandbox is worth. -/
noncomputable def Try.pinned : Pinned := { name := "ytdkbeajkedffeaa", sum := "dbc4b78627ee9602b785f4647b0951b34a75cfd82f73f8bfbf7ab78ad7a3bc4d", checked := Try.checked }
namespace Rows
def none {H : Type} : Left H := { results := [], args := [] }

/-- 'flyballlaw16.SpanMakes': WHATEVER THE INPUT: true; the input reads as it did. -/
def spanMakesSpec : ChangeSpec := { name := "spanMakes", fn := fun _ => fun
  | [d1, d2, d3] => { results := [.lit (.bool true)], args := [d1, d2, d3] }
  | _ => none }
def spanMakesRow : OpenClaim := { program := "ytdkbeajkedffeaa", sum := "dbc4b78627ee9602b785f4647b0951b34a75cfd82f73f8bfbf7ab78ad7a3bc4d", func := "flyball/flyballlaw16.SpanMakes", spec := "spanMakes", unfollowed := true, recurses := true, named := ["math/bits.divideError", "math/bits.overflowError"], apart := false }
def SpanMakesSaid : Prop := spanMakesRow.holds Try.pinned (OpenSpec.ofChange spanMakesSpec)

/-- ITS FALSE NEIGHBOUR: 'it returns false'. Refute it at one input. -/
def spanMakesWrong : ChangeSpec := { name := "spanMakes", fn := fun _ => fun
  | [d1, d2, d3] => { results := [.lit (.bool false)], args := [d1, d2, d3] }
  | _ => none }
def SpanMakesWrongFalsely : Prop := spanMakesRow.holds Try.pinned (OpenSpec.ofChange spanMakesWrong)

/-- 'flyballlaw16.SpanTests': WHATEVER THE INPUT: true; the input reads as it did. -/
def spanTestsSpec : ChangeSpec := { name := "spanTests", fn := fun _ => fun
  | [d1, d2, d3] => { results := [.lit (.bool true)], args := [d1, d2, d3] }
  | _ => none }
def spanTestsRow : OpenClaim := { program := "ytdkbeajkedffeaa", sum := "dbc4b78627ee9602b785f4647b0951b34a75cfd82f73f8bfbf7ab78ad7a3bc4d", func := "flyball/flyballlaw16.SpanTests", spec := "spanTests", unfollowed := true, recurses := true, named := ["math/bits.divideError", "math/bits.overflowError"], apart := false }
def SpanTestsSaid : Prop := spanTestsRow.holds Try.pinned (OpenSpec.ofChange spanTestsSpec)

/-- ITS FALSE NEIGHBOUR: 'it returns false'. Refute it at one input. -/
def spanTestsWrong : ChangeSpec := { name := "spanTests", fn := fun _ => fun
  | [d1, d2, d3] => { results := [.lit (.bool false)], args := [d1, d2, d3] }
  | _ => none }
def SpanTestsWrongFalsely : Prop := spanTestsRow.holds Try.pinned (OpenSpec.ofChange spanTestsWrong)

/-- 'flyballlaw16.SpanKeeps': WHATEVER THE INPUT: true; the input reads as it did. -/
def spanKeepsSpec : ChangeSpec := { name := "spanKeeps", fn := fun _ => fun
  | [d1, d2, d3, d4, d5] => { results := [.lit (.bool true)], args := [d1, d2, d3, d4, d5] }
  | _ => none }
def spanKeepsRow : OpenClaim := { program := "ytdkbeajkedffeaa", sum := "dbc4b78627ee9602b785f4647b0951b34a75cfd82f73f8bfbf7ab78ad7a3bc4d", func := "flyball/flyballlaw16.SpanKeeps", spec := "spanKeeps", unfollowed := true, recurses := true, named := ["math/bits.divideError", "math/bits.overflowError"], apart := false }
def SpanKeepsSaid : Prop := spanKeepsRow.holds Try.pinned (OpenSpec.ofChange spanKeepsSpec)

/-- ITS FALSE NEIGHBOUR: 'it returns false'. Refute it at one input. -/
def spanKeepsWrong : ChangeSpec := { name := "spanKeeps", fn := fun _ => fun
  | [d1, d2, d3, d4, d5] => { results := [.lit (.bool false)], args := [d1, d2, d3, d4, d5] }
  | _ => none }
def SpanKeepsWrongFalsely : Prop := spanKeepsRow.holds Try.pinned (OpenSpec.ofChange spanKeepsWrong)

/-- 'flyballlaw16.SpanWidens': WHATEVER THE INPUT: true; the input reads as it did. -/
def spanWidensSpec : ChangeSpec := { name := "spanWidens", fn := fun _ => fun
  | [d1, d2, d3] => { results := [.lit (.bool true)], args := [d1, d2, d3] }
  | _ => none }
def spanWidensRow : OpenClaim := { program := "ytdkbeajkedffeaa", sum := "dbc4b78627ee9602b785f4647b0951b34a75cfd82f73f8bfbf7ab78ad7a3bc4d", func := "flyball/flyballlaw16.SpanWidens", spec := "spanWidens", unfollowed := true, recurses := true, named := ["math/bits.divideError", "math/bits.overflowError"], apart := false }
def SpanWidensSaid : Prop := spanWidensRow.holds Try.pinned (OpenSpec.ofChange spanWidensSpec)

/-- ITS FALSE NEIGHBOUR: 'it returns false'. Refute it at one input. -/
def spanWidensWrong : ChangeSpec := { name := "spanWidens", fn := fun _ => fun
  | [d1, d2, d3] => { results := [.lit (.bool false)], args := [d1, d2, d3] }
  | _ => none }
def SpanWidensWrongFalsely : Prop := spanWidensRow.holds Try.pinned (OpenSpec.ofChange spanWidensWrong)

/-- 'flyballlaw16.SpanOrder': WHATEVER THE INPUT: true; the input reads as it did. -/
def spanOrderSpec : ChangeSpec := { name := "spanOrder", fn := fun _ => fun
  | [d1, d2, d3, d4] => { results := [.lit (.bool true)], args := [d1, d2, d3, d4] }
  | _ => none }
def spanOrderRow : OpenClaim := { program := "ytdkbeajkedffeaa", sum := "dbc4b78627ee9602b785f4647b0951b34a75cfd82f73f8bfbf7ab78ad7a3bc4d", func := "flyball/flyballlaw16.SpanOrder", spec := "spanOrder", inPlace := ["math/bits.Add64", "math/bits.Sub64"], unfollowed := true, recurses := true, named := ["math/bits.divideError", "math/bits.overflowError"], apart := false }
def SpanOrderSaid : Prop := spanOrderRow.holds Try.pinned (OpenSpec.ofChange spanOrderSpec)

/-- ITS FALSE NEIGHBOUR: 'it returns false'. Refute it at one input. -/
def spanOrderWrong : ChangeSpec := { name := "spanOrder", fn := fun _ => fun
  | [d1, d2, d3, d4] => { results := [.lit (.bool false)], args := [d1, d2, d3, d4] }
  | _ => none }
def SpanOrderWrongFalsely : Prop := spanOrderRow.holds Try.pinned (OpenSpec.ofChange spanOrderWrong)

/-- 'flyballlaw19.SlipWidens': WHATEVER THE INPUT: true; the input reads as it did. -/
def slipWidensSpec : ChangeSpec := { name := "slipWidens", fn := fun _ => fun
  | [d1, d2, d3] => { results := [.lit (.bool true)], args := [d1, d2, d3] }
  | _ => none }
def slipWidensRow : OpenClaim := { program := "ytdkbeajkedffeaa", sum := "dbc4b78627ee9602b785f4647b0951b34a75cfd82f73f8bfbf7ab78ad7a3bc4d", func := "flyball/flyballlaw19.SlipWidens", spec := "slipWidens", inPlace := ["math/bits.Add64", "math/bits.Sub64"], unfollowed := true, recurses := true, named := ["math/bits.divideError", "math/bits.overflowError"], apart := false }
def SlipWidensSaid : Prop := slipWidensRow.holds Try.pinned (OpenSpec.ofChange slipWidensSpec)

/-- ITS FALSE NEIGHBOUR: 'it returns false'. Refute it at one input. -/
def slipWidensWrong : ChangeSpec := { name := "slipWidens", fn := fun _ => fun
  | [d1, d2, d3] => { results := [.lit (.bool false)], args := [d1, d2, d3] }
  | _ => none }
def SlipWidensWrongFalsely : Prop := slipWidensRow.holds Try.pinned (OpenSpec.ofChange slipWidensWrong)

/-- 'flyballlaw19.SlipRises': WHATEVER THE INPUT: true; the input reads as it did. -/
def slipRisesSpec : ChangeSpec := { name := "slipRises", fn := fun _ => fun
  | [d1, d2, d3, d4, d5, d6, d7, d8] => { results := [.lit (.bool true)], args := [d1, d2, d3, d4, d5, d6, d7, d8] }
  | _ => none }
def slipRisesRow : OpenClaim := { program := "ytdkbeajkedffeaa", sum := "dbc4b78627ee9602b785f4647b0951b34a75cfd82f73f8bfbf7ab78ad7a3bc4d", func := "flyball/flyballlaw19.SlipRises", spec := "slipRises", inPlace := ["math/bits.Add64", "math/bits.Sub64"], unfollowed := true, recurses := true, named := ["math/bits.divideError", "math/bits.overflowError"], apart := false }
def SlipRisesSaid : Prop := slipRisesRow.holds Try.pinned (OpenSpec.ofChange slipRisesSpec)

/-- ITS FALSE NEIGHBOUR: 'it returns false'. Refute it at one input. -/
def slipRisesWrong : ChangeSpec := { name := "slipRises", fn := fun _ => fun
  | [d1, d2, d3, d4, d5, d6, d7, d8] => { results := [.lit (.bool false)], args := [d1, d2, d3, d4, d5, d6, d7, d8] }
  | _ => none }
def SlipRisesWrongFalsely : Prop := slipRisesRow.holds Try.pinned (OpenSpec.ofChange slipRisesWrong)

/-- 'flyballlaw19.SlipDivides': WHATEVER THE INPUT: true; the input reads as it did. -/
def slipDividesSpec : ChangeSpec := { name := "slipDivides", fn := fun _ => fun
  | [d1, d2, d3, d4, d5] => { results := [.lit (.bool true)], args := [d1, d2, d3, d4, d5] }
  | _ => none }
def slipDividesRow : OpenClaim := { program := "ytdkbeajkedffeaa", sum := "dbc4b78627ee9602b785f4647b0951b34a75cfd82f73f8bfbf7ab78ad7a3bc4d", func := "flyball/flyballlaw19.SlipDivides", spec := "slipDivides", inPlace := ["math/bits.Add64", "math/bits.Sub64"], unfollowed := true, recurses := true, named := ["math/bits.divideError", "math/bits.overflowError"], apart := false }
def SlipDividesSaid : Prop := slipDividesRow.holds Try.pinned (OpenSpec.ofChange slipDividesSpec)

/-- ITS FALSE NEIGHBOUR: 'it returns false'. Refute it at one input. -/
def slipDividesWrong : ChangeSpec := { name := "slipDivides", fn := fun _ => fun
  | [d1, d2, d3, d4, d5] => { results := [.lit (.bool false)], args := [d1, d2, d3, d4, d5] }
  | _ => none }
def SlipDividesWrongFalsely : Prop := slipDividesRow.holds Try.pinned (OpenSpec.ofChange slipDividesWrong)

/- THE SECOND FORM. 'bulk': how many values and letters a reading holds, each counted each time it is reached (what is shared counts as often as it is met; a slice's spare places count too). A statement '..UptoSaid' is the law's where the arguments, and the package variables that the reading takes, are together of bulk at most 1048576: NARROWER than '..Said'. Prove '..Said' where nothing that the law and all that it calls make is longer than what came in: it says more and counts as full. Else prove '..UptoSaid'. A law counts once. -/
mutual
def uptoBulk {H : Type} : DataW H → Nat
  | .lit (.string bytes) => bytes.length + 1
  | .lit _ => 1
  | .nil => 1
  | .ptr d => uptoBulk d + 1
  | .slice elems spare => uptoBulkAll elems + uptoBulkAll spare + 1
  | .agg parts => uptoBulkAll parts + 1
  | .iface _ d => uptoBulk d + 1
  | .map entries => uptoBulkEntries entries + 1
  | .held _ => 1
def uptoBulkAll {H : Type} : List (DataW H) → Nat
  | [] => 0
  | d :: r => uptoBulk d + uptoBulkAll r
def uptoBulkEntries {H : Type} : List (Lit × DataW H) → Nat
  | [] => 0
  | x :: r => uptoBulkEntry x + uptoBulkEntries r
def uptoBulkEntry {H : Type} : Lit × DataW H → Nat
  | (.string bytes, d) => bytes.length + uptoBulk d + 1
  | (_, d) => uptoBulk d + 1
 end
def uptoSmall : (H : Type) → List (DataW H) → Bool := fun _ ds => decide (uptoBulkAll ds ≤ 1048576)
def OpenSpec.upto (s : _root_.Go.ChangeSpec) : _root_.Go.OpenSpec := { _root_.Go.OpenSpec.ofChange s with cond := some uptoSmall }

/-- 'flyballlaw16.SpanMakes', WHERE WHAT IT READS IS OF BULK AT MOST 1048576: true; the input reads as it did. -/
def spanMakesUptoRow : OpenClaim := { program := "ytdkbeajkedffeaa", sum := "dbc4b78627ee9602b785f4647b0951b34a75cfd82f73f8bfbf7ab78ad7a3bc4d", func := "flyball/flyballlaw16.SpanMakes", spec := "spanMakes", unfollowed := true, recurses := true, named := ["math/bits.divideError", "math/bits.overflowError"], apart := false, narrowed := true }
def SpanMakesUptoSaid : Prop := spanMakesUptoRow.holds Try.pinned (OpenSpec.upto spanMakesSpec)

/-- 'flyballlaw16.SpanTests', WHERE WHAT IT READS IS OF BULK AT MOST 1048576: true; the input reads as it did. -/
def spanTestsUptoRow : OpenClaim := { program := "ytdkbeajkedffeaa", sum := "dbc4b78627ee9602b785f4647b0951b34a75cfd82f73f8bfbf7ab78ad7a3bc4d", func := "flyball/flyballlaw16.SpanTests", spec := "spanTests", unfollowed := true, recurses := true, named := ["math/bits.divideError", "math/bits.overflowError"], apart := false, narrowed := true }
def SpanTestsUptoSaid : Prop := spanTestsUptoRow.holds Try.pinned (OpenSpec.upto spanTestsSpec)

/-- 'flyballlaw16.SpanKeeps', WHERE WHAT IT READS IS OF BULK AT MOST 1048576: true; the input reads as it did. -/
def spanKeepsUptoRow : OpenClaim := { program := "ytdkbeajkedffeaa", sum := "dbc4b78627ee9602b785f4647b0951b34a75cfd82f73f8bfbf7ab78ad7a3bc4d", func := "flyball/flyballlaw16.SpanKeeps", spec := "spanKeeps", unfollowed := true, recurses := true, named := ["math/bits.divideError", "math/bits.overflowError"], apart := false, narrowed := true }
def SpanKeepsUptoSaid : Prop := spanKeepsUptoRow.holds Try.pinned (OpenSpec.upto spanKeepsSpec)

/-- 'flyballlaw16.SpanWidens', WHERE WHAT IT READS IS OF BULK AT MOST 1048576: true; the input reads as it did. -/
def spanWidensUptoRow : OpenClaim := { program := "ytdkbeajkedffeaa", sum := "dbc4b78627ee9602b785f4647b0951b34a75cfd82f73f8bfbf7ab78ad7a3bc4d", func := "flyball/flyballlaw16.SpanWidens", spec := "spanWidens", unfollowed := true, recurses := true, named := ["math/bits.divideError", "math/bits.overflowError"], apart := false, narrowed := true }
def SpanWidensUptoSaid : Prop := spanWidensUptoRow.holds Try.pinned (OpenSpec.upto spanWidensSpec)

/-- 'flyballlaw16.SpanOrder', WHERE WHAT IT READS IS OF BULK AT MOST 1048576: true; the input reads as it did. -/
def spanOrderUptoRow : OpenClaim := { program := "ytdkbeajkedffeaa", sum := "dbc4b78627ee9602b785f4647b0951b34a75cfd82f73f8bfbf7ab78ad7a3bc4d", func := "flyball/flyballlaw16.SpanOrder", spec := "spanOrder", inPlace := ["math/bits.Add64", "math/bits.Sub64"], unfollowed := true, recurses := true, named := ["math/bits.divideError", "math/bits.overflowError"], apart := false, narrowed := true }
def SpanOrderUptoSaid : Prop := spanOrderUptoRow.holds Try.pinned (OpenSpec.upto spanOrderSpec)

/-- 'flyballlaw19.SlipWidens', WHERE WHAT IT READS IS OF BULK AT MOST 1048576: true; the input reads as it did. -/
def slipWidensUptoRow : OpenClaim := { program := "ytdkbeajkedffeaa", sum := "dbc4b78627ee9602b785f4647b0951b34a75cfd82f73f8bfbf7ab78ad7a3bc4d", func := "flyball/flyballlaw19.SlipWidens", spec := "slipWidens", inPlace := ["math/bits.Add64", "math/bits.Sub64"], unfollowed := true, recurses := true, named := ["math/bits.divideError", "math/bits.overflowError"], apart := false, narrowed := true }
def SlipWidensUptoSaid : Prop := slipWidensUptoRow.holds Try.pinned (OpenSpec.upto slipWidensSpec)

/-- 'flyballlaw19.SlipRises', WHERE WHAT IT READS IS OF BULK AT MOST 1048576: true; the input reads as it did. -/
def slipRisesUptoRow : OpenClaim := { program := "ytdkbeajkedffeaa", sum := "dbc4b78627ee9602b785f4647b0951b34a75cfd82f73f8bfbf7ab78ad7a3bc4d", func := "flyball/flyballlaw19.SlipRises", spec := "slipRises", inPlace := ["math/bits.Add64", "math/bits.Sub64"], unfollowed := true, recurses := true, named := ["math/bits.divideError", "math/bits.overflowError"], apart := false, narrowed := true }
def SlipRisesUptoSaid : Prop := slipRisesUptoRow.holds Try.pinned (OpenSpec.upto slipRisesSpec)

/-- 'flyballlaw19.SlipDivides', WHERE WHAT IT READS IS OF BULK AT MOST 1048576: true; the input reads as it did. -/
def slipDividesUptoRow : OpenClaim := { program := "ytdkbeajkedffeaa", sum := "dbc4b78627ee9602b785f4647b0951b34a75cfd82f73f8bfbf7ab78ad7a3bc4d", func := "flyball/flyballlaw19.SlipDivides", spec := "slipDivides", inPlace := ["math/bits.Add64", "math/bits.Sub64"], unfollowed := true, recurses := true, named := ["math/bits.divideError", "math/bits.overflowError"], apart := false, narrowed := true }
def SlipDividesUptoSaid : Prop := slipDividesUptoRow.holds Try.pinned (OpenSpec.upto slipDividesSpec)

end Rows
end Go.Proofs.Ytdkbeajkedffeaa
