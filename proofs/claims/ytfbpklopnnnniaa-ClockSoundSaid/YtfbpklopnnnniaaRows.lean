/-
  No cell of these rows narrows 'for every input' (looked for: loops, veiled, ifaces, maps, wideKeys, modest, calm, conditions, laid).
  DERIVED. THE GIVEN ROWS OF THIS SEAT. 10 by the template 'for every input the law returns true; each argument reads behind the call as it read before'; 0 by the template 'total and deterministic' (their statements: YtfbpklopnnnniaaTotals.lean).
  GIVEN WITH THE SEED: the statements are not yours to turn. If you find one false, say at which input.
  Laid BY PROGRAM, IN A SANDBOX (cutbox-rows.mjs): the forced cells as the released guide's own fill.sh prints them over the translation a90bf5389898621b… (all of the seat's roots in one cut). By AI agents, Wed Nov 11 2026. No macro, syntax, notation, axiom, sorry.
-/
import Derived.Test.YtfbpklopnnnniaaChecked
import GoSem.Claim
import GoSem.ClaimJoined
import GoSem.ClaimMapViews
import Derived.JoinedTies
import Derived.KernelRfl
namespace Go.Proofs.Ytfbpklopnnnniaa
/- THE CELL 'sum', in the pinned program and in every row, IS THE sha256 OF THE DUMP (.gsa) THAT YtfbpklopnnnniaaProg.lean LOADS. Nothing in Lean hashes anything: it is a label: what it is worth is what the hold of that sum in a sandbox is worth. -/
noncomputable def Try.pinned : Pinned := { name := "ytfbpklopnnnniaa", sum := "a90bf5389898621b2840dced7fdd90829b8e48492f7bc825a98bead56c5f0f0d", checked := Try.checked }
namespace Rows
def none {H : Type} : Left H := { results := [], args := [] }

/-- 'flyballlaw21.ClockDoes': WHATEVER THE INPUT: true; the input reads as it did. -/
def clockDoesSpec : ChangeSpec := { name := "clockDoes", fn := fun _ => fun
  | [d1, d2, d3] => { results := [.lit (.bool true)], args := [d1, d2, d3] }
  | _ => none }
def clockDoesRow : OpenClaim := { program := "ytfbpklopnnnniaa", sum := "a90bf5389898621b2840dced7fdd90829b8e48492f7bc825a98bead56c5f0f0d", func := "flyball/flyballlaw21.ClockDoes", spec := "clockDoes", unfollowed := true, recurses := true, apart := false }
def ClockDoesSaid : Prop := clockDoesRow.holds Try.pinned (OpenSpec.ofChange clockDoesSpec)

/-- ITS FALSE NEIGHBOUR: 'it returns false'. Refute it at one input. -/
def clockDoesWrong : ChangeSpec := { name := "clockDoes", fn := fun _ => fun
  | [d1, d2, d3] => { results := [.lit (.bool false)], args := [d1, d2, d3] }
  | _ => none }
def ClockDoesWrongFalsely : Prop := clockDoesRow.holds Try.pinned (OpenSpec.ofChange clockDoesWrong)

/-- 'flyballlaw21.ClockJoins': WHATEVER THE INPUT: true; the input reads as it did. -/
def clockJoinsSpec : ChangeSpec := { name := "clockJoins", fn := fun _ => fun
  | [d1, d2, d3, d4, d5] => { results := [.lit (.bool true)], args := [d1, d2, d3, d4, d5] }
  | _ => none }
def clockJoinsRow : OpenClaim := { program := "ytfbpklopnnnniaa", sum := "a90bf5389898621b2840dced7fdd90829b8e48492f7bc825a98bead56c5f0f0d", func := "flyball/flyballlaw21.ClockJoins", spec := "clockJoins", unfollowed := true, recurses := true, apart := false }
def ClockJoinsSaid : Prop := clockJoinsRow.holds Try.pinned (OpenSpec.ofChange clockJoinsSpec)

/-- ITS FALSE NEIGHBOUR: 'it returns false'. Refute it at one input. -/
def clockJoinsWrong : ChangeSpec := { name := "clockJoins", fn := fun _ => fun
  | [d1, d2, d3, d4, d5] => { results := [.lit (.bool false)], args := [d1, d2, d3, d4, d5] }
  | _ => none }
def ClockJoinsWrongFalsely : Prop := clockJoinsRow.holds Try.pinned (OpenSpec.ofChange clockJoinsWrong)

/-- 'flyballlaw21.ClockSound': WHATEVER THE INPUT: true; the input reads as it did. -/
def clockSoundSpec : ChangeSpec := { name := "clockSound", fn := fun _ => fun
  | [d1, d2, d3, d4, d5, d6, d7, d8] => { results := [.lit (.bool true)], args := [d1, d2, d3, d4, d5, d6, d7, d8] }
  | _ => none }
def clockSoundRow : OpenClaim := { program := "ytfbpklopnnnniaa", sum := "a90bf5389898621b2840dced7fdd90829b8e48492f7bc825a98bead56c5f0f0d", func := "flyball/flyballlaw21.ClockSound", spec := "clockSound", unfollowed := true, recurses := true, apart := false }
def ClockSoundSaid : Prop := clockSoundRow.holds Try.pinned (OpenSpec.ofChange clockSoundSpec)

/-- ITS FALSE NEIGHBOUR: 'it returns false'. Refute it at one input. -/
def clockSoundWrong : ChangeSpec := { name := "clockSound", fn := fun _ => fun
  | [d1, d2, d3, d4, d5, d6, d7, d8] => { results := [.lit (.bool false)], args := [d1, d2, d3, d4, d5, d6, d7, d8] }
  | _ => none }
def ClockSoundWrongFalsely : Prop := clockSoundRow.holds Try.pinned (OpenSpec.ofChange clockSoundWrong)

/-- 'flyballlaw21.ClockCounts': WHATEVER THE INPUT: true; the input reads as it did. -/
def clockCountsSpec : ChangeSpec := { name := "clockCounts", fn := fun _ => fun
  | [d1, d2] => { results := [.lit (.bool true)], args := [d1, d2] }
  | _ => none }
def clockCountsRow : OpenClaim := { program := "ytfbpklopnnnniaa", sum := "a90bf5389898621b2840dced7fdd90829b8e48492f7bc825a98bead56c5f0f0d", func := "flyball/flyballlaw21.ClockCounts", spec := "clockCounts", unfollowed := true, recurses := true, apart := false }
def ClockCountsSaid : Prop := clockCountsRow.holds Try.pinned (OpenSpec.ofChange clockCountsSpec)

/-- ITS FALSE NEIGHBOUR: 'it returns false'. Refute it at one input. -/
def clockCountsWrong : ChangeSpec := { name := "clockCounts", fn := fun _ => fun
  | [d1, d2] => { results := [.lit (.bool false)], args := [d1, d2] }
  | _ => none }
def ClockCountsWrongFalsely : Prop := clockCountsRow.holds Try.pinned (OpenSpec.ofChange clockCountsWrong)

/-- 'flyballlaw17.IntsMakes': WHATEVER THE INPUT: true; the input reads as it did. -/
def intsMakesSpec : ChangeSpec := { name := "intsMakes", fn := fun _ => fun
  | [d1, d2, d3] => { results := [.lit (.bool true)], args := [d1, d2, d3] }
  | _ => none }
def intsMakesRow : OpenClaim := { program := "ytfbpklopnnnniaa", sum := "a90bf5389898621b2840dced7fdd90829b8e48492f7bc825a98bead56c5f0f0d", func := "flyball/flyballlaw17.IntsMakes", spec := "intsMakes", unfollowed := true, recurses := true, apart := false }
def IntsMakesSaid : Prop := intsMakesRow.holds Try.pinned (OpenSpec.ofChange intsMakesSpec)

/-- ITS FALSE NEIGHBOUR: 'it returns false'. Refute it at one input. -/
def intsMakesWrong : ChangeSpec := { name := "intsMakes", fn := fun _ => fun
  | [d1, d2, d3] => { results := [.lit (.bool false)], args := [d1, d2, d3] }
  | _ => none }
def IntsMakesWrongFalsely : Prop := intsMakesRow.holds Try.pinned (OpenSpec.ofChange intsMakesWrong)

/-- 'flyballlaw17.IntsHulls': WHATEVER THE INPUT: true; the input reads as it did. -/
def intsHullsSpec : ChangeSpec := { name := "intsHulls", fn := fun _ => fun
  | [d1, d2] => { results := [.lit (.bool true)], args := [d1, d2] }
  | _ => none }
def intsHullsRow : OpenClaim := { program := "ytfbpklopnnnniaa", sum := "a90bf5389898621b2840dced7fdd90829b8e48492f7bc825a98bead56c5f0f0d", func := "flyball/flyballlaw17.IntsHulls", spec := "intsHulls", unfollowed := true, recurses := true, apart := false }
def IntsHullsSaid : Prop := intsHullsRow.holds Try.pinned (OpenSpec.ofChange intsHullsSpec)

/-- ITS FALSE NEIGHBOUR: 'it returns false'. Refute it at one input. -/
def intsHullsWrong : ChangeSpec := { name := "intsHulls", fn := fun _ => fun
  | [d1, d2] => { results := [.lit (.bool false)], args := [d1, d2] }
  | _ => none }
def IntsHullsWrongFalsely : Prop := intsHullsRow.holds Try.pinned (OpenSpec.ofChange intsHullsWrong)

/-- 'flyballlaw17.IntsSound': WHATEVER THE INPUT: true; the input reads as it did. -/
def intsSoundSpec : ChangeSpec := { name := "intsSound", fn := fun _ => fun
  | [d1, d2, d3, d4] => { results := [.lit (.bool true)], args := [d1, d2, d3, d4] }
  | _ => none }
def intsSoundRow : OpenClaim := { program := "ytfbpklopnnnniaa", sum := "a90bf5389898621b2840dced7fdd90829b8e48492f7bc825a98bead56c5f0f0d", func := "flyball/flyballlaw17.IntsSound", spec := "intsSound", unfollowed := true, recurses := true, apart := false }
def IntsSoundSaid : Prop := intsSoundRow.holds Try.pinned (OpenSpec.ofChange intsSoundSpec)

/-- ITS FALSE NEIGHBOUR: 'it returns false'. Refute it at one input. -/
def intsSoundWrong : ChangeSpec := { name := "intsSound", fn := fun _ => fun
  | [d1, d2, d3, d4] => { results := [.lit (.bool false)], args := [d1, d2, d3, d4] }
  | _ => none }
def IntsSoundWrongFalsely : Prop := intsSoundRow.holds Try.pinned (OpenSpec.ofChange intsSoundWrong)

/-- 'flyballlaw17.IntsOrder': WHATEVER THE INPUT: true; the input reads as it did. -/
def intsOrderSpec : ChangeSpec := { name := "intsOrder", fn := fun _ => fun
  | [d1, d2, d3, d4] => { results := [.lit (.bool true)], args := [d1, d2, d3, d4] }
  | _ => none }
def intsOrderRow : OpenClaim := { program := "ytfbpklopnnnniaa", sum := "a90bf5389898621b2840dced7fdd90829b8e48492f7bc825a98bead56c5f0f0d", func := "flyball/flyballlaw17.IntsOrder", spec := "intsOrder", unfollowed := true, recurses := true, apart := false }
def IntsOrderSaid : Prop := intsOrderRow.holds Try.pinned (OpenSpec.ofChange intsOrderSpec)

/-- ITS FALSE NEIGHBOUR: 'it returns false'. Refute it at one input. -/
def intsOrderWrong : ChangeSpec := { name := "intsOrder", fn := fun _ => fun
  | [d1, d2, d3, d4] => { results := [.lit (.bool false)], args := [d1, d2, d3, d4] }
  | _ => none }
def IntsOrderWrongFalsely : Prop := intsOrderRow.holds Try.pinned (OpenSpec.ofChange intsOrderWrong)

/-- 'flyballlaw17.IntsEnds': WHATEVER THE INPUT: true; the input reads as it did. -/
def intsEndsSpec : ChangeSpec := { name := "intsEnds", fn := fun _ => fun
  | [d1, d2] => { results := [.lit (.bool true)], args := [d1, d2] }
  | _ => none }
def intsEndsRow : OpenClaim := { program := "ytfbpklopnnnniaa", sum := "a90bf5389898621b2840dced7fdd90829b8e48492f7bc825a98bead56c5f0f0d", func := "flyball/flyballlaw17.IntsEnds", spec := "intsEnds", unfollowed := true, recurses := true, apart := false }
def IntsEndsSaid : Prop := intsEndsRow.holds Try.pinned (OpenSpec.ofChange intsEndsSpec)

/-- ITS FALSE NEIGHBOUR: 'it returns false'. Refute it at one input. -/
def intsEndsWrong : ChangeSpec := { name := "intsEnds", fn := fun _ => fun
  | [d1, d2] => { results := [.lit (.bool false)], args := [d1, d2] }
  | _ => none }
def IntsEndsWrongFalsely : Prop := intsEndsRow.holds Try.pinned (OpenSpec.ofChange intsEndsWrong)

/-- 'flyballlaw17.IntsWidens': WHATEVER THE INPUT: true; the input reads as it did. -/
def intsWidensSpec : ChangeSpec := { name := "intsWidens", fn := fun _ => fun
  | [d1, d2, d3] => { results := [.lit (.bool true)], args := [d1, d2, d3] }
  | _ => none }
def intsWidensRow : OpenClaim := { program := "ytfbpklopnnnniaa", sum := "a90bf5389898621b2840dced7fdd90829b8e48492f7bc825a98bead56c5f0f0d", func := "flyball/flyballlaw17.IntsWidens", spec := "intsWidens", unfollowed := true, recurses := true, apart := false }
def IntsWidensSaid : Prop := intsWidensRow.holds Try.pinned (OpenSpec.ofChange intsWidensSpec)

/-- ITS FALSE NEIGHBOUR: 'it returns false'. Refute it at one input. -/
def intsWidensWrong : ChangeSpec := { name := "intsWidens", fn := fun _ => fun
  | [d1, d2, d3] => { results := [.lit (.bool false)], args := [d1, d2, d3] }
  | _ => none }
def IntsWidensWrongFalsely : Prop := intsWidensRow.holds Try.pinned (OpenSpec.ofChange intsWidensWrong)

/- THE SECOND FORM. 'bulk': how many values and letters a reading holds, each counted each time it is reached (what is shared counts as often as it is met; a slice's spare places count too). A statement '..UptoSaid' is the law's where the arguments, and the package variables that the reading takes, are together of bulk at most 1048576: NARROWER than '..Said'. Prove '..Said' where nothing that the law and all that it calls make is longer than what came in: it says more and counts as full. Else prove '..UptoSaid'. A law counts once. -/
mutual
def uptoBulk {H : Type} : DataW H → Nat
  | .lit (.string bytes) => bytes.length + 1
  | .lit _ => 1
  | .nil => 1
  | .ptr d => uptoBulk d + 1
  | .slice elems spare => uptoBulkAll elems + uptoBulkAll spare + 1
  | .agg parts => uptoBulkAll parts + 1
  | .iface _ d => uptoBulk d + 1
  | .map entries => uptoBulkEntries entries + 1
  | .held _ => 1
def uptoBulkAll {H : Type} : List (DataW H) → Nat
  | [] => 0
  | d :: r => uptoBulk d + uptoBulkAll r
def uptoBulkEntries {H : Type} : List (Lit × DataW H) → Nat
  | [] => 0
  | x :: r => uptoBulkEntry x + uptoBulkEntries r
def uptoBulkEntry {H : Type} : Lit × DataW H → Nat
  | (.string bytes, d) => bytes.length + uptoBulk d + 1
  | (_, d) => uptoBulk d + 1
 end
def uptoSmall : (H : Type) → List (DataW H) → Bool := fun _ ds => decide (uptoBulkAll ds ≤ 1048576)
def OpenSpec.upto (s : _root_.Go.ChangeSpec) : _root_.Go.OpenSpec := { _root_.Go.OpenSpec.ofChange s with cond := some uptoSmall }

/-- 'flyballlaw21.ClockDoes', WHERE WHAT IT READS IS OF BULK AT MOST 1048576: true; the input reads as it did. -/
def clockDoesUptoRow : OpenClaim := { program := "ytfbpklopnnnniaa", sum := "a90bf5389898621b2840dced7fdd90829b8e48492f7bc825a98bead56c5f0f0d", func := "flyball/flyballlaw21.ClockDoes", spec := "clockDoes", unfollowed := true, recurses := true, apart := false, narrowed := true }
def ClockDoesUptoSaid : Prop := clockDoesUptoRow.holds Try.pinned (OpenSpec.upto clockDoesSpec)

/-- 'flyballlaw21.ClockJoins', WHERE WHAT IT READS IS OF BULK AT MOST 1048576: true; the input reads as it did. -/
def clockJoinsUptoRow : OpenClaim := { program := "ytfbpklopnnnniaa", sum := "a90bf5389898621b2840dced7fdd90829b8e48492f7bc825a98bead56c5f0f0d", func := "flyball/flyballlaw21.ClockJoins", spec := "clockJoins", unfollowed := true, recurses := true, apart := false, narrowed := true }
def ClockJoinsUptoSaid : Prop := clockJoinsUptoRow.holds Try.pinned (OpenSpec.upto clockJoinsSpec)

/-- 'flyballlaw21.ClockSound', WHERE WHAT IT READS IS OF BULK AT MOST 1048576: true; the input reads as it did. -/
def clockSoundUptoRow : OpenClaim := { program := "ytfbpklopnnnniaa", sum := "a90bf5389898621b2840dced7fdd90829b8e48492f7bc825a98bead56c5f0f0d", func := "flyball/flyballlaw21.ClockSound", spec := "clockSound", unfollowed := true, recurses := true, apart := false, narrowed := true }
def ClockSoundUptoSaid : Prop := clockSoundUptoRow.holds Try.pinned (OpenSpec.upto clockSoundSpec)

/-- 'flyballlaw21.ClockCounts', WHERE WHAT IT READS IS OF BULK AT MOST 1048576: true; the input reads as it did. -/
def clockCountsUptoRow : OpenClaim := { program := "ytfbpklopnnnniaa", sum := "a90bf5389898621b2840dced7fdd90829b8e48492f7bc825a98bead56c5f0f0d", func := "flyball/flyballlaw21.ClockCounts", spec := "clockCounts", unfollowed := true, recurses := true, apart := false, narrowed := true }
def ClockCountsUptoSaid : Prop := clockCountsUptoRow.holds Try.pinned (OpenSpec.upto clockCountsSpec)

/-- 'flyballlaw17.IntsMakes', WHERE WHAT IT READS IS OF BULK AT MOST 1048576: true; the input reads as it did. -/
def intsMakesUptoRow : OpenClaim := { program := "ytfbpklopnnnniaa", sum := "a90bf5389898621b2840dced7fdd90829b8e48492f7bc825a98bead56c5f0f0d", func := "flyball/flyballlaw17.IntsMakes", spec := "intsMakes", unfollowed := true, recurses := true, apart := false, narrowed := true }
def IntsMakesUptoSaid : Prop := intsMakesUptoRow.holds Try.pinned (OpenSpec.upto intsMakesSpec)

/-- 'flyballlaw17.IntsHulls', WHERE WHAT IT READS IS OF BULK AT MOST 1048576: true; the input reads as it did. -/
def intsHullsUptoRow : OpenClaim := { program := "ytfbpklopnnnniaa", sum := "a90bf5389898621b2840dced7fdd90829b8e48492f7bc825a98bead56c5f0f0d", func := "flyball/flyballlaw17.IntsHulls", spec := "intsHulls", unfollowed := true, recurses := true, apart := false, narrowed := true }
def IntsHullsUptoSaid : Prop := intsHullsUptoRow.holds Try.pinned (OpenSpec.upto intsHullsSpec)

/-- 'flyballlaw17.IntsSound', WHERE WHAT IT READS IS OF BULK AT MOST 1048576: true; the input reads as it did. -/
def intsSoundUptoRow : OpenClaim := { program := "ytfbpklopnnnniaa", sum := "a90bf5389898621b2840dced7fdd90829b8e48492f7bc825a98bead56c5f0f0d", func := "flyball/flyballlaw17.IntsSound", spec := "intsSound", unfollowed := true, recurses := true, apart := false, narrowed := true }
def IntsSoundUptoSaid : Prop := intsSoundUptoRow.holds Try.pinned (OpenSpec.upto intsSoundSpec)

/-- 'flyballlaw17.IntsOrder', WHERE WHAT IT READS IS OF BULK AT MOST 1048576: true; the input reads as it did. -/
def intsOrderUptoRow : OpenClaim := { program := "ytfbpklopnnnniaa", sum := "a90bf5389898621b2840dced7fdd90829b8e48492f7bc825a98bead56c5f0f0d", func := "flyball/flyballlaw17.IntsOrder", spec := "intsOrder", unfollowed := true, recurses := true, apart := false, narrowed := true }
def IntsOrderUptoSaid : Prop := intsOrderUptoRow.holds Try.pinned (OpenSpec.upto intsOrderSpec)

/-- 'flyballlaw17.IntsEnds', WHERE WHAT IT READS IS OF BULK AT MOST 1048576: true; the input reads as it did. -/
def intsEndsUptoRow : OpenClaim := { program := "ytfbpklopnnnniaa", sum := "a90bf5389898621b2840dced7fdd90829b8e48492f7bc825a98bead56c5f0f0d", func := "flyball/flyballlaw17.IntsEnds", spec := "intsEnds", unfollowed := true, recurses := true, apart := false, narrowed := true }
def IntsEndsUptoSaid : Prop := intsEndsUptoRow.holds Try.pinned (OpenSpec.upto intsEndsSpec)

/-- 'flyballlaw17.IntsWidens', WHERE WHAT IT READS IS OF BULK AT MOST 1048576: true; the input reads as it did. -/
def intsWidensUptoRow : OpenClaim := { program := "ytfbpklopnnnniaa", sum := "a90bf5389898621b2840dced7fdd90829b8e48492f7bc825a98bead56c5f0f0d", func := "flyball/flyballlaw17.IntsWidens", spec := "intsWidens", unfollowed := true, recurses := true, apart := false, narrowed := true }
def IntsWidensUptoSaid : Prop := intsWidensUptoRow.holds Try.pinned (OpenSpec.upto intsWidensSpec)

end Rows
end Go.Proofs.Ytfbpklopnnnniaa
