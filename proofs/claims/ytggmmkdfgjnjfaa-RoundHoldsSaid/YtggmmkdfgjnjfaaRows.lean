/-
  No cell of these rows narrows 'for every input' (looked for: loops, veiled, ifaces, maps, wideKeys, modest, calm, conditions, laid).
  DERIVED. THE GIVEN ROWS OF THIS SEAT. 40 by the template 'for every input the law returns true; each argument reads behind the call as it read before'; 0 by the template 'total and deterministic' (their statements: YtggmmkdfgjnjfaaTotals.lean).
  GIVEN WITH THE SEED: the statements are not yours to turn. If you find one false, say at which input.
  Laid BY PROGRAM, IN A SANDBOX (cutbox-rows.mjs): the forced cells as the released guide's own fill.sh prints them over the translation 22272ce55cdc3fba… (all of the seat's roots in one cut). By AI agents, Wed Nov 11 2026. No macro, syntax, notation, axiom, sorry.
-/
import Derived.Test.YtggmmkdfgjnjfaaChecked
import GoSem.Claim
import GoSem.ClaimJoined
import GoSem.ClaimMapViews
import Derived.JoinedTies
import Derived.KernelRfl
namespace Go.Proofs.Ytggmmkdfgjnjfaa
/- THE CELL 'sum', in the pinned program and in every row, IS THE sha256 OF THE DUMP (.gsa) THAT YtggmmkdfgjnjfaaProg.lean LOADS. Nothing in Lean hashes anything: it is a label: what it is worth is what the hold of that sum in a sandbox is worth. -/
noncomputable def Try.pinned : Pinned := { name := "ytggmmkdfgjnjfaa", sum := "22272ce55cdc3fba6ab5c940e7f84d91b437a4d9b4d4722bab789a8c4653984d", checked := Try.checked }
namespace Rows
def none {H : Type} : Left H := { results := [], args := [] }

/-- 'flyballlaw02.NatAdds': WHATEVER THE INPUT: true; the input reads as it did. -/
def natAddsSpec : ChangeSpec := { name := "natAdds", fn := fun _ => fun
  | [d1, d2] => { results := [.lit (.bool true)], args := [d1, d2] }
  | _ => none }
def natAddsRow : OpenClaim := { program := "ytggmmkdfgjnjfaa", sum := "22272ce55cdc3fba6ab5c940e7f84d91b437a4d9b4d4722bab789a8c4653984d", func := "flyball/flyballlaw02.NatAdds", spec := "natAdds", unfollowed := true, recurses := true, apart := false }
def NatAddsSaid : Prop := natAddsRow.holds Try.pinned (OpenSpec.ofChange natAddsSpec)

/-- ITS FALSE NEIGHBOUR: 'it returns false'. Refute it at one input. -/
def natAddsWrong : ChangeSpec := { name := "natAdds", fn := fun _ => fun
  | [d1, d2] => { results := [.lit (.bool false)], args := [d1, d2] }
  | _ => none }
def NatAddsWrongFalsely : Prop := natAddsRow.holds Try.pinned (OpenSpec.ofChange natAddsWrong)

/-- 'flyballlaw02.NatDivides': WHATEVER THE INPUT: true; the input reads as it did. -/
def natDividesSpec : ChangeSpec := { name := "natDivides", fn := fun _ => fun
  | [d1, d2] => { results := [.lit (.bool true)], args := [d1, d2] }
  | _ => none }
def natDividesRow : OpenClaim := { program := "ytggmmkdfgjnjfaa", sum := "22272ce55cdc3fba6ab5c940e7f84d91b437a4d9b4d4722bab789a8c4653984d", func := "flyball/flyballlaw02.NatDivides", spec := "natDivides", unfollowed := true, recurses := true, apart := false }
def NatDividesSaid : Prop := natDividesRow.holds Try.pinned (OpenSpec.ofChange natDividesSpec)

/-- ITS FALSE NEIGHBOUR: 'it returns false'. Refute it at one input. -/
def natDividesWrong : ChangeSpec := { name := "natDivides", fn := fun _ => fun
  | [d1, d2] => { results := [.lit (.bool false)], args := [d1, d2] }
  | _ => none }
def NatDividesWrongFalsely : Prop := natDividesRow.holds Try.pinned (OpenSpec.ofChange natDividesWrong)

/-- 'flyballlaw02.NatShifts': WHATEVER THE INPUT: true; the input reads as it did. -/
def natShiftsSpec : ChangeSpec := { name := "natShifts", fn := fun _ => fun
  | [d1, d2, d3] => { results := [.lit (.bool true)], args := [d1, d2, d3] }
  | _ => none }
def natShiftsRow : OpenClaim := { program := "ytggmmkdfgjnjfaa", sum := "22272ce55cdc3fba6ab5c940e7f84d91b437a4d9b4d4722bab789a8c4653984d", func := "flyball/flyballlaw02.NatShifts", spec := "natShifts", unfollowed := true, recurses := true, apart := false }
def NatShiftsSaid : Prop := natShiftsRow.holds Try.pinned (OpenSpec.ofChange natShiftsSpec)

/-- ITS FALSE NEIGHBOUR: 'it returns false'. Refute it at one input. -/
def natShiftsWrong : ChangeSpec := { name := "natShifts", fn := fun _ => fun
  | [d1, d2, d3] => { results := [.lit (.bool false)], args := [d1, d2, d3] }
  | _ => none }
def NatShiftsWrongFalsely : Prop := natShiftsRow.holds Try.pinned (OpenSpec.ofChange natShiftsWrong)

/-- 'flyballlaw02.NatTexts': WHATEVER THE INPUT: true; the input reads as it did. -/
def natTextsSpec : ChangeSpec := { name := "natTexts", fn := fun _ => fun
  | [d1, d2] => { results := [.lit (.bool true)], args := [d1, d2] }
  | _ => none }
def natTextsRow : OpenClaim := { program := "ytggmmkdfgjnjfaa", sum := "22272ce55cdc3fba6ab5c940e7f84d91b437a4d9b4d4722bab789a8c4653984d", func := "flyball/flyballlaw02.NatTexts", spec := "natTexts", unfollowed := true, recurses := true, apart := false }
def NatTextsSaid : Prop := natTextsRow.holds Try.pinned (OpenSpec.ofChange natTextsSpec)

/-- ITS FALSE NEIGHBOUR: 'it returns false'. Refute it at one input. -/
def natTextsWrong : ChangeSpec := { name := "natTexts", fn := fun _ => fun
  | [d1, d2] => { results := [.lit (.bool false)], args := [d1, d2] }
  | _ => none }
def NatTextsWrongFalsely : Prop := natTextsRow.holds Try.pinned (OpenSpec.ofChange natTextsWrong)

/-- 'flyballlaw02.NatPowers': WHATEVER THE INPUT: true; the input reads as it did. -/
def natPowersSpec : ChangeSpec := { name := "natPowers", fn := fun _ => fun
  | [d1, d2] => { results := [.lit (.bool true)], args := [d1, d2] }
  | _ => none }
def natPowersRow : OpenClaim := { program := "ytggmmkdfgjnjfaa", sum := "22272ce55cdc3fba6ab5c940e7f84d91b437a4d9b4d4722bab789a8c4653984d", func := "flyball/flyballlaw02.NatPowers", spec := "natPowers", unfollowed := true, recurses := true, apart := false }
def NatPowersSaid : Prop := natPowersRow.holds Try.pinned (OpenSpec.ofChange natPowersSpec)

/-- ITS FALSE NEIGHBOUR: 'it returns false'. Refute it at one input. -/
def natPowersWrong : ChangeSpec := { name := "natPowers", fn := fun _ => fun
  | [d1, d2] => { results := [.lit (.bool false)], args := [d1, d2] }
  | _ => none }
def NatPowersWrongFalsely : Prop := natPowersRow.holds Try.pinned (OpenSpec.ofChange natPowersWrong)

/-- 'flyballlaw02.NatLaws': WHATEVER THE INPUT: true; the input reads as it did. -/
def natLawsSpec : ChangeSpec := { name := "natLaws", fn := fun _ => fun
  | [d1, d2, d3] => { results := [.lit (.bool true)], args := [d1, d2, d3] }
  | _ => none }
def natLawsRow : OpenClaim := { program := "ytggmmkdfgjnjfaa", sum := "22272ce55cdc3fba6ab5c940e7f84d91b437a4d9b4d4722bab789a8c4653984d", func := "flyball/flyballlaw02.NatLaws", spec := "natLaws", unfollowed := true, recurses := true, apart := false }
def NatLawsSaid : Prop := natLawsRow.holds Try.pinned (OpenSpec.ofChange natLawsSpec)

/-- ITS FALSE NEIGHBOUR: 'it returns false'. Refute it at one input. -/
def natLawsWrong : ChangeSpec := { name := "natLaws", fn := fun _ => fun
  | [d1, d2, d3] => { results := [.lit (.bool false)], args := [d1, d2, d3] }
  | _ => none }
def NatLawsWrongFalsely : Prop := natLawsRow.holds Try.pinned (OpenSpec.ofChange natLawsWrong)

/-- 'flyballlaw02.NatCommon': WHATEVER THE INPUT: true; the input reads as it did. -/
def natCommonSpec : ChangeSpec := { name := "natCommon", fn := fun _ => fun
  | [d1, d2] => { results := [.lit (.bool true)], args := [d1, d2] }
  | _ => none }
def natCommonRow : OpenClaim := { program := "ytggmmkdfgjnjfaa", sum := "22272ce55cdc3fba6ab5c940e7f84d91b437a4d9b4d4722bab789a8c4653984d", func := "flyball/flyballlaw02.NatCommon", spec := "natCommon", unfollowed := true, recurses := true, apart := false }
def NatCommonSaid : Prop := natCommonRow.holds Try.pinned (OpenSpec.ofChange natCommonSpec)

/-- ITS FALSE NEIGHBOUR: 'it returns false'. Refute it at one input. -/
def natCommonWrong : ChangeSpec := { name := "natCommon", fn := fun _ => fun
  | [d1, d2] => { results := [.lit (.bool false)], args := [d1, d2] }
  | _ => none }
def NatCommonWrongFalsely : Prop := natCommonRow.holds Try.pinned (OpenSpec.ofChange natCommonWrong)

/-- 'flyballlaw03.RatioAdds': WHATEVER THE INPUT: true; the input reads as it did. -/
def ratioAddsSpec : ChangeSpec := { name := "ratioAdds", fn := fun _ => fun
  | [d1, d2] => { results := [.lit (.bool true)], args := [d1, d2] }
  | _ => none }
def ratioAddsRow : OpenClaim := { program := "ytggmmkdfgjnjfaa", sum := "22272ce55cdc3fba6ab5c940e7f84d91b437a4d9b4d4722bab789a8c4653984d", func := "flyball/flyballlaw03.RatioAdds", spec := "ratioAdds", unfollowed := true, recurses := true, apart := false }
def RatioAddsSaid : Prop := ratioAddsRow.holds Try.pinned (OpenSpec.ofChange ratioAddsSpec)

/-- ITS FALSE NEIGHBOUR: 'it returns false'. Refute it at one input. -/
def ratioAddsWrong : ChangeSpec := { name := "ratioAdds", fn := fun _ => fun
  | [d1, d2] => { results := [.lit (.bool false)], args := [d1, d2] }
  | _ => none }
def RatioAddsWrongFalsely : Prop := ratioAddsRow.holds Try.pinned (OpenSpec.ofChange ratioAddsWrong)

/-- 'flyballlaw03.RatioMuls': WHATEVER THE INPUT: true; the input reads as it did. -/
def ratioMulsSpec : ChangeSpec := { name := "ratioMuls", fn := fun _ => fun
  | [d1, d2] => { results := [.lit (.bool true)], args := [d1, d2] }
  | _ => none }
def ratioMulsRow : OpenClaim := { program := "ytggmmkdfgjnjfaa", sum := "22272ce55cdc3fba6ab5c940e7f84d91b437a4d9b4d4722bab789a8c4653984d", func := "flyball/flyballlaw03.RatioMuls", spec := "ratioMuls", unfollowed := true, recurses := true, apart := false }
def RatioMulsSaid : Prop := ratioMulsRow.holds Try.pinned (OpenSpec.ofChange ratioMulsSpec)

/-- ITS FALSE NEIGHBOUR: 'it returns false'. Refute it at one input. -/
def ratioMulsWrong : ChangeSpec := { name := "ratioMuls", fn := fun _ => fun
  | [d1, d2] => { results := [.lit (.bool false)], args := [d1, d2] }
  | _ => none }
def RatioMulsWrongFalsely : Prop := ratioMulsRow.holds Try.pinned (OpenSpec.ofChange ratioMulsWrong)

/-- 'flyballlaw03.RatioOrders': WHATEVER THE INPUT: true; the input reads as it did. -/
def ratioOrdersSpec : ChangeSpec := { name := "ratioOrders", fn := fun _ => fun
  | [d1, d2] => { results := [.lit (.bool true)], args := [d1, d2] }
  | _ => none }
def ratioOrdersRow : OpenClaim := { program := "ytggmmkdfgjnjfaa", sum := "22272ce55cdc3fba6ab5c940e7f84d91b437a4d9b4d4722bab789a8c4653984d", func := "flyball/flyballlaw03.RatioOrders", spec := "ratioOrders", unfollowed := true, recurses := true, apart := false }
def RatioOrdersSaid : Prop := ratioOrdersRow.holds Try.pinned (OpenSpec.ofChange ratioOrdersSpec)

/-- ITS FALSE NEIGHBOUR: 'it returns false'. Refute it at one input. -/
def ratioOrdersWrong : ChangeSpec := { name := "ratioOrders", fn := fun _ => fun
  | [d1, d2] => { results := [.lit (.bool false)], args := [d1, d2] }
  | _ => none }
def RatioOrdersWrongFalsely : Prop := ratioOrdersRow.holds Try.pinned (OpenSpec.ofChange ratioOrdersWrong)

/-- 'flyballlaw03.RatioMakes': WHATEVER THE INPUT: true; the input reads as it did. -/
def ratioMakesSpec : ChangeSpec := { name := "ratioMakes", fn := fun _ => fun
  | [d1, d2, d3, d4, d5, d6] => { results := [.lit (.bool true)], args := [d1, d2, d3, d4, d5, d6] }
  | _ => none }
def ratioMakesRow : OpenClaim := { program := "ytggmmkdfgjnjfaa", sum := "22272ce55cdc3fba6ab5c940e7f84d91b437a4d9b4d4722bab789a8c4653984d", func := "flyball/flyballlaw03.RatioMakes", spec := "ratioMakes", unfollowed := true, recurses := true, apart := false }
def RatioMakesSaid : Prop := ratioMakesRow.holds Try.pinned (OpenSpec.ofChange ratioMakesSpec)

/-- ITS FALSE NEIGHBOUR: 'it returns false'. Refute it at one input. -/
def ratioMakesWrong : ChangeSpec := { name := "ratioMakes", fn := fun _ => fun
  | [d1, d2, d3, d4, d5, d6] => { results := [.lit (.bool false)], args := [d1, d2, d3, d4, d5, d6] }
  | _ => none }
def RatioMakesWrongFalsely : Prop := ratioMakesRow.holds Try.pinned (OpenSpec.ofChange ratioMakesWrong)

/-- 'flyballlaw03.RatioField': WHATEVER THE INPUT: true; the input reads as it did. -/
def ratioFieldSpec : ChangeSpec := { name := "ratioField", fn := fun _ => fun
  | [d1, d2, d3] => { results := [.lit (.bool true)], args := [d1, d2, d3] }
  | _ => none }
def ratioFieldRow : OpenClaim := { program := "ytggmmkdfgjnjfaa", sum := "22272ce55cdc3fba6ab5c940e7f84d91b437a4d9b4d4722bab789a8c4653984d", func := "flyball/flyballlaw03.RatioField", spec := "ratioField", unfollowed := true, recurses := true, apart := false }
def RatioFieldSaid : Prop := ratioFieldRow.holds Try.pinned (OpenSpec.ofChange ratioFieldSpec)

/-- ITS FALSE NEIGHBOUR: 'it returns false'. Refute it at one input. -/
def ratioFieldWrong : ChangeSpec := { name := "ratioField", fn := fun _ => fun
  | [d1, d2, d3] => { results := [.lit (.bool false)], args := [d1, d2, d3] }
  | _ => none }
def RatioFieldWrongFalsely : Prop := ratioFieldRow.holds Try.pinned (OpenSpec.ofChange ratioFieldWrong)

/-- 'flyballlaw03.RatioMost': WHATEVER THE INPUT: true; the input reads as it did. -/
def ratioMostSpec : ChangeSpec := { name := "ratioMost", fn := fun _ => fun
  | [d] => { results := [.lit (.bool true)], args := [d] }
  | _ => none }
def ratioMostRow : OpenClaim := { program := "ytggmmkdfgjnjfaa", sum := "22272ce55cdc3fba6ab5c940e7f84d91b437a4d9b4d4722bab789a8c4653984d", func := "flyball/flyballlaw03.RatioMost", spec := "ratioMost", unfollowed := true, recurses := true, apart := false }
def RatioMostSaid : Prop := ratioMostRow.holds Try.pinned (OpenSpec.ofChange ratioMostSpec)

/-- ITS FALSE NEIGHBOUR: 'it returns false'. Refute it at one input. -/
def ratioMostWrong : ChangeSpec := { name := "ratioMost", fn := fun _ => fun
  | [d] => { results := [.lit (.bool false)], args := [d] }
  | _ => none }
def RatioMostWrongFalsely : Prop := ratioMostRow.holds Try.pinned (OpenSpec.ofChange ratioMostWrong)

/-- 'flyballlaw04.PatternParts': WHATEVER THE INPUT: true; the input reads as it did. -/
def patternPartsSpec : ChangeSpec := { name := "patternParts", fn := fun _ => fun
  | [d1, d2, d3, d4] => { results := [.lit (.bool true)], args := [d1, d2, d3, d4] }
  | _ => none }
def patternPartsRow : OpenClaim := { program := "ytggmmkdfgjnjfaa", sum := "22272ce55cdc3fba6ab5c940e7f84d91b437a4d9b4d4722bab789a8c4653984d", func := "flyball/flyballlaw04.PatternParts", spec := "patternParts", unfollowed := true, recurses := true, apart := false }
def PatternPartsSaid : Prop := patternPartsRow.holds Try.pinned (OpenSpec.ofChange patternPartsSpec)

/-- ITS FALSE NEIGHBOUR: 'it returns false'. Refute it at one input. -/
def patternPartsWrong : ChangeSpec := { name := "patternParts", fn := fun _ => fun
  | [d1, d2, d3, d4] => { results := [.lit (.bool false)], args := [d1, d2, d3, d4] }
  | _ => none }
def PatternPartsWrongFalsely : Prop := patternPartsRow.holds Try.pinned (OpenSpec.ofChange patternPartsWrong)

/-- 'flyballlaw04.PatternValues': WHATEVER THE INPUT: true; the input reads as it did. -/
def patternValuesSpec : ChangeSpec := { name := "patternValues", fn := fun _ => fun
  | [d] => { results := [.lit (.bool true)], args := [d] }
  | _ => none }
def patternValuesRow : OpenClaim := { program := "ytggmmkdfgjnjfaa", sum := "22272ce55cdc3fba6ab5c940e7f84d91b437a4d9b4d4722bab789a8c4653984d", func := "flyball/flyballlaw04.PatternValues", spec := "patternValues", unfollowed := true, recurses := true, apart := false }
def PatternValuesSaid : Prop := patternValuesRow.holds Try.pinned (OpenSpec.ofChange patternValuesSpec)

/-- ITS FALSE NEIGHBOUR: 'it returns false'. Refute it at one input. -/
def patternValuesWrong : ChangeSpec := { name := "patternValues", fn := fun _ => fun
  | [d] => { results := [.lit (.bool false)], args := [d] }
  | _ => none }
def PatternValuesWrongFalsely : Prop := patternValuesRow.holds Try.pinned (OpenSpec.ofChange patternValuesWrong)

/-- 'flyballlaw04.PatternNeighbours': WHATEVER THE INPUT: true; the input reads as it did. -/
def patternNeighboursSpec : ChangeSpec := { name := "patternNeighbours", fn := fun _ => fun
  | [d] => { results := [.lit (.bool true)], args := [d] }
  | _ => none }
def patternNeighboursRow : OpenClaim := { program := "ytggmmkdfgjnjfaa", sum := "22272ce55cdc3fba6ab5c940e7f84d91b437a4d9b4d4722bab789a8c4653984d", func := "flyball/flyballlaw04.PatternNeighbours", spec := "patternNeighbours", unfollowed := true, recurses := true, apart := false }
def PatternNeighboursSaid : Prop := patternNeighboursRow.holds Try.pinned (OpenSpec.ofChange patternNeighboursSpec)

/-- ITS FALSE NEIGHBOUR: 'it returns false'. Refute it at one input. -/
def patternNeighboursWrong : ChangeSpec := { name := "patternNeighbours", fn := fun _ => fun
  | [d] => { results := [.lit (.bool false)], args := [d] }
  | _ => none }
def PatternNeighboursWrongFalsely : Prop := patternNeighboursRow.holds Try.pinned (OpenSpec.ofChange patternNeighboursWrong)

/-- 'flyballlaw04.PatternBetween': WHATEVER THE INPUT: true; the input reads as it did. -/
def patternBetweenSpec : ChangeSpec := { name := "patternBetween", fn := fun _ => fun
  | [d1, d2] => { results := [.lit (.bool true)], args := [d1, d2] }
  | _ => none }
def patternBetweenRow : OpenClaim := { program := "ytggmmkdfgjnjfaa", sum := "22272ce55cdc3fba6ab5c940e7f84d91b437a4d9b4d4722bab789a8c4653984d", func := "flyball/flyballlaw04.PatternBetween", spec := "patternBetween", unfollowed := true, recurses := true, apart := false }
def PatternBetweenSaid : Prop := patternBetweenRow.holds Try.pinned (OpenSpec.ofChange patternBetweenSpec)

/-- ITS FALSE NEIGHBOUR: 'it returns false'. Refute it at one input. -/
def patternBetweenWrong : ChangeSpec := { name := "patternBetween", fn := fun _ => fun
  | [d1, d2] => { results := [.lit (.bool false)], args := [d1, d2] }
  | _ => none }
def PatternBetweenWrongFalsely : Prop := patternBetweenRow.holds Try.pinned (OpenSpec.ofChange patternBetweenWrong)

/-- 'flyballlaw04.PatternSigns': WHATEVER THE INPUT: true; the input reads as it did. -/
def patternSignsSpec : ChangeSpec := { name := "patternSigns", fn := fun _ => fun
  | [d] => { results := [.lit (.bool true)], args := [d] }
  | _ => none }
def patternSignsRow : OpenClaim := { program := "ytggmmkdfgjnjfaa", sum := "22272ce55cdc3fba6ab5c940e7f84d91b437a4d9b4d4722bab789a8c4653984d", func := "flyball/flyballlaw04.PatternSigns", spec := "patternSigns", unfollowed := true, recurses := true, apart := false }
def PatternSignsSaid : Prop := patternSignsRow.holds Try.pinned (OpenSpec.ofChange patternSignsSpec)

/-- ITS FALSE NEIGHBOUR: 'it returns false'. Refute it at one input. -/
def patternSignsWrong : ChangeSpec := { name := "patternSigns", fn := fun _ => fun
  | [d] => { results := [.lit (.bool false)], args := [d] }
  | _ => none }
def PatternSignsWrongFalsely : Prop := patternSignsRow.holds Try.pinned (OpenSpec.ofChange patternSignsWrong)

/-- 'flyballlaw04.PatternMost': WHATEVER THE INPUT: true; the input reads as it did. -/
def patternMostSpec : ChangeSpec := { name := "patternMost", fn := fun _ => fun
  | [d] => { results := [.lit (.bool true)], args := [d] }
  | _ => none }
def patternMostRow : OpenClaim := { program := "ytggmmkdfgjnjfaa", sum := "22272ce55cdc3fba6ab5c940e7f84d91b437a4d9b4d4722bab789a8c4653984d", func := "flyball/flyballlaw04.PatternMost", spec := "patternMost", unfollowed := true, recurses := true, apart := false }
def PatternMostSaid : Prop := patternMostRow.holds Try.pinned (OpenSpec.ofChange patternMostSpec)

/-- ITS FALSE NEIGHBOUR: 'it returns false'. Refute it at one input. -/
def patternMostWrong : ChangeSpec := { name := "patternMost", fn := fun _ => fun
  | [d] => { results := [.lit (.bool false)], args := [d] }
  | _ => none }
def PatternMostWrongFalsely : Prop := patternMostRow.holds Try.pinned (OpenSpec.ofChange patternMostWrong)

/-- 'flyballlaw04.PatternOrders': WHATEVER THE INPUT: true; the input reads as it did. -/
def patternOrdersSpec : ChangeSpec := { name := "patternOrders", fn := fun _ => fun
  | [d1, d2] => { results := [.lit (.bool true)], args := [d1, d2] }
  | _ => none }
def patternOrdersRow : OpenClaim := { program := "ytggmmkdfgjnjfaa", sum := "22272ce55cdc3fba6ab5c940e7f84d91b437a4d9b4d4722bab789a8c4653984d", func := "flyball/flyballlaw04.PatternOrders", spec := "patternOrders", unfollowed := true, recurses := true, apart := false }
def PatternOrdersSaid : Prop := patternOrdersRow.holds Try.pinned (OpenSpec.ofChange patternOrdersSpec)

/-- ITS FALSE NEIGHBOUR: 'it returns false'. Refute it at one input. -/
def patternOrdersWrong : ChangeSpec := { name := "patternOrders", fn := fun _ => fun
  | [d1, d2] => { results := [.lit (.bool false)], args := [d1, d2] }
  | _ => none }
def PatternOrdersWrongFalsely : Prop := patternOrdersRow.holds Try.pinned (OpenSpec.ofChange patternOrdersWrong)

/-- 'flyballlaw05.RoundRounds': WHATEVER THE INPUT: true; the input reads as it did. -/
def roundRoundsSpec : ChangeSpec := { name := "roundRounds", fn := fun _ => fun
  | [d1, d2, d3, d4, d5] => { results := [.lit (.bool true)], args := [d1, d2, d3, d4, d5] }
  | _ => none }
def roundRoundsRow : OpenClaim := { program := "ytggmmkdfgjnjfaa", sum := "22272ce55cdc3fba6ab5c940e7f84d91b437a4d9b4d4722bab789a8c4653984d", func := "flyball/flyballlaw05.RoundRounds", spec := "roundRounds", unfollowed := true, recurses := true, apart := false }
def RoundRoundsSaid : Prop := roundRoundsRow.holds Try.pinned (OpenSpec.ofChange roundRoundsSpec)

/-- ITS FALSE NEIGHBOUR: 'it returns false'. Refute it at one input. -/
def roundRoundsWrong : ChangeSpec := { name := "roundRounds", fn := fun _ => fun
  | [d1, d2, d3, d4, d5] => { results := [.lit (.bool false)], args := [d1, d2, d3, d4, d5] }
  | _ => none }
def RoundRoundsWrongFalsely : Prop := roundRoundsRow.holds Try.pinned (OpenSpec.ofChange roundRoundsWrong)

/-- 'flyballlaw05.RoundExacts': WHATEVER THE INPUT: true; the input reads as it did. -/
def roundExactsSpec : ChangeSpec := { name := "roundExacts", fn := fun _ => fun
  | [d1, d2] => { results := [.lit (.bool true)], args := [d1, d2] }
  | _ => none }
def roundExactsRow : OpenClaim := { program := "ytggmmkdfgjnjfaa", sum := "22272ce55cdc3fba6ab5c940e7f84d91b437a4d9b4d4722bab789a8c4653984d", func := "flyball/flyballlaw05.RoundExacts", spec := "roundExacts", unfollowed := true, recurses := true, apart := false }
def RoundExactsSaid : Prop := roundExactsRow.holds Try.pinned (OpenSpec.ofChange roundExactsSpec)

/-- ITS FALSE NEIGHBOUR: 'it returns false'. Refute it at one input. -/
def roundExactsWrong : ChangeSpec := { name := "roundExacts", fn := fun _ => fun
  | [d1, d2] => { results := [.lit (.bool false)], args := [d1, d2] }
  | _ => none }
def RoundExactsWrongFalsely : Prop := roundExactsRow.holds Try.pinned (OpenSpec.ofChange roundExactsWrong)

/-- 'flyballlaw05.RoundUlps': WHATEVER THE INPUT: true; the input reads as it did. -/
def roundUlpsSpec : ChangeSpec := { name := "roundUlps", fn := fun _ => fun
  | [d] => { results := [.lit (.bool true)], args := [d] }
  | _ => none }
def roundUlpsRow : OpenClaim := { program := "ytggmmkdfgjnjfaa", sum := "22272ce55cdc3fba6ab5c940e7f84d91b437a4d9b4d4722bab789a8c4653984d", func := "flyball/flyballlaw05.RoundUlps", spec := "roundUlps", unfollowed := true, recurses := true, apart := false }
def RoundUlpsSaid : Prop := roundUlpsRow.holds Try.pinned (OpenSpec.ofChange roundUlpsSpec)

/-- ITS FALSE NEIGHBOUR: 'it returns false'. Refute it at one input. -/
def roundUlpsWrong : ChangeSpec := { name := "roundUlps", fn := fun _ => fun
  | [d] => { results := [.lit (.bool false)], args := [d] }
  | _ => none }
def RoundUlpsWrongFalsely : Prop := roundUlpsRow.holds Try.pinned (OpenSpec.ofChange roundUlpsWrong)

/-- 'flyballlaw05.RoundStays': WHATEVER THE INPUT: true; the input reads as it did. -/
def roundStaysSpec : ChangeSpec := { name := "roundStays", fn := fun _ => fun
  | [d1, d2] => { results := [.lit (.bool true)], args := [d1, d2] }
  | _ => none }
def roundStaysRow : OpenClaim := { program := "ytggmmkdfgjnjfaa", sum := "22272ce55cdc3fba6ab5c940e7f84d91b437a4d9b4d4722bab789a8c4653984d", func := "flyball/flyballlaw05.RoundStays", spec := "roundStays", unfollowed := true, recurses := true, apart := false }
def RoundStaysSaid : Prop := roundStaysRow.holds Try.pinned (OpenSpec.ofChange roundStaysSpec)

/-- ITS FALSE NEIGHBOUR: 'it returns false'. Refute it at one input. -/
def roundStaysWrong : ChangeSpec := { name := "roundStays", fn := fun _ => fun
  | [d1, d2] => { results := [.lit (.bool false)], args := [d1, d2] }
  | _ => none }
def RoundStaysWrongFalsely : Prop := roundStaysRow.holds Try.pinned (OpenSpec.ofChange roundStaysWrong)

/-- 'flyballlaw05.RoundRises': WHATEVER THE INPUT: true; the input reads as it did. -/
def roundRisesSpec : ChangeSpec := { name := "roundRises", fn := fun _ => fun
  | [d1, d2, d3] => { results := [.lit (.bool true)], args := [d1, d2, d3] }
  | _ => none }
def roundRisesRow : OpenClaim := { program := "ytggmmkdfgjnjfaa", sum := "22272ce55cdc3fba6ab5c940e7f84d91b437a4d9b4d4722bab789a8c4653984d", func := "flyball/flyballlaw05.RoundRises", spec := "roundRises", unfollowed := true, recurses := true, apart := false }
def RoundRisesSaid : Prop := roundRisesRow.holds Try.pinned (OpenSpec.ofChange roundRisesSpec)

/-- ITS FALSE NEIGHBOUR: 'it returns false'. Refute it at one input. -/
def roundRisesWrong : ChangeSpec := { name := "roundRises", fn := fun _ => fun
  | [d1, d2, d3] => { results := [.lit (.bool false)], args := [d1, d2, d3] }
  | _ => none }
def RoundRisesWrongFalsely : Prop := roundRisesRow.holds Try.pinned (OpenSpec.ofChange roundRisesWrong)

/-- 'flyballlaw05.RoundHolds': WHATEVER THE INPUT: true; the input reads as it did. -/
def roundHoldsSpec : ChangeSpec := { name := "roundHolds", fn := fun _ => fun
  | [d1, d2] => { results := [.lit (.bool true)], args := [d1, d2] }
  | _ => none }
def roundHoldsRow : OpenClaim := { program := "ytggmmkdfgjnjfaa", sum := "22272ce55cdc3fba6ab5c940e7f84d91b437a4d9b4d4722bab789a8c4653984d", func := "flyball/flyballlaw05.RoundHolds", spec := "roundHolds", unfollowed := true, recurses := true, apart := false }
def RoundHoldsSaid : Prop := roundHoldsRow.holds Try.pinned (OpenSpec.ofChange roundHoldsSpec)

/-- ITS FALSE NEIGHBOUR: 'it returns false'. Refute it at one input. -/
def roundHoldsWrong : ChangeSpec := { name := "roundHolds", fn := fun _ => fun
  | [d1, d2] => { results := [.lit (.bool false)], args := [d1, d2] }
  | _ => none }
def RoundHoldsWrongFalsely : Prop := roundHoldsRow.holds Try.pinned (OpenSpec.ofChange roundHoldsWrong)

/-- 'flyballlaw06.SoftAdds': WHATEVER THE INPUT: true; the input reads as it did. -/
def softAddsSpec : ChangeSpec := { name := "softAdds", fn := fun _ => fun
  | [d1, d2, d3] => { results := [.lit (.bool true)], args := [d1, d2, d3] }
  | _ => none }
def softAddsRow : OpenClaim := { program := "ytggmmkdfgjnjfaa", sum := "22272ce55cdc3fba6ab5c940e7f84d91b437a4d9b4d4722bab789a8c4653984d", func := "flyball/flyballlaw06.SoftAdds", spec := "softAdds", inPlace := ["math/bits.Add64", "math/bits.Sub64"], named := ["math/bits.divideError", "math/bits.overflowError"], apart := false }
def SoftAddsSaid : Prop := softAddsRow.holds Try.pinned (OpenSpec.ofChange softAddsSpec)

/-- ITS FALSE NEIGHBOUR: 'it returns false'. Refute it at one input. -/
def softAddsWrong : ChangeSpec := { name := "softAdds", fn := fun _ => fun
  | [d1, d2, d3] => { results := [.lit (.bool false)], args := [d1, d2, d3] }
  | _ => none }
def SoftAddsWrongFalsely : Prop := softAddsRow.holds Try.pinned (OpenSpec.ofChange softAddsWrong)

/-- 'flyballlaw06.SoftMuls': WHATEVER THE INPUT: true; the input reads as it did. -/
def softMulsSpec : ChangeSpec := { name := "softMuls", fn := fun _ => fun
  | [d1, d2, d3] => { results := [.lit (.bool true)], args := [d1, d2, d3] }
  | _ => none }
def softMulsRow : OpenClaim := { program := "ytggmmkdfgjnjfaa", sum := "22272ce55cdc3fba6ab5c940e7f84d91b437a4d9b4d4722bab789a8c4653984d", func := "flyball/flyballlaw06.SoftMuls", spec := "softMuls", inPlace := ["math/bits.Add64", "math/bits.Sub64"], named := ["math/bits.divideError", "math/bits.overflowError"], apart := false }
def SoftMulsSaid : Prop := softMulsRow.holds Try.pinned (OpenSpec.ofChange softMulsSpec)

/-- ITS FALSE NEIGHBOUR: 'it returns false'. Refute it at one input. -/
def softMulsWrong : ChangeSpec := { name := "softMuls", fn := fun _ => fun
  | [d1, d2, d3] => { results := [.lit (.bool false)], args := [d1, d2, d3] }
  | _ => none }
def SoftMulsWrongFalsely : Prop := softMulsRow.holds Try.pinned (OpenSpec.ofChange softMulsWrong)

/-- 'flyballlaw06.SoftDivides': WHATEVER THE INPUT: true; the input reads as it did. -/
def softDividesSpec : ChangeSpec := { name := "softDivides", fn := fun _ => fun
  | [d1, d2, d3] => { results := [.lit (.bool true)], args := [d1, d2, d3] }
  | _ => none }
def softDividesRow : OpenClaim := { program := "ytggmmkdfgjnjfaa", sum := "22272ce55cdc3fba6ab5c940e7f84d91b437a4d9b4d4722bab789a8c4653984d", func := "flyball/flyballlaw06.SoftDivides", spec := "softDivides", inPlace := ["math/bits.Add64", "math/bits.Sub64"], named := ["math/bits.divideError", "math/bits.overflowError"], apart := false }
def SoftDividesSaid : Prop := softDividesRow.holds Try.pinned (OpenSpec.ofChange softDividesSpec)

/-- ITS FALSE NEIGHBOUR: 'it returns false'. Refute it at one input. -/
def softDividesWrong : ChangeSpec := { name := "softDivides", fn := fun _ => fun
  | [d1, d2, d3] => { results := [.lit (.bool false)], args := [d1, d2, d3] }
  | _ => none }
def SoftDividesWrongFalsely : Prop := softDividesRow.holds Try.pinned (OpenSpec.ofChange softDividesWrong)

/-- 'flyballlaw06.SoftRoots': WHATEVER THE INPUT: true; the input reads as it did. -/
def softRootsSpec : ChangeSpec := { name := "softRoots", fn := fun _ => fun
  | [d1, d2] => { results := [.lit (.bool true)], args := [d1, d2] }
  | _ => none }
def softRootsRow : OpenClaim := { program := "ytggmmkdfgjnjfaa", sum := "22272ce55cdc3fba6ab5c940e7f84d91b437a4d9b4d4722bab789a8c4653984d", func := "flyball/flyballlaw06.SoftRoots", spec := "softRoots", inPlace := ["math/bits.Add64", "math/bits.Sub64"], named := ["math/bits.divideError", "math/bits.overflowError"], apart := false }
def SoftRootsSaid : Prop := softRootsRow.holds Try.pinned (OpenSpec.ofChange softRootsSpec)

/-- ITS FALSE NEIGHBOUR: 'it returns false'. Refute it at one input. -/
def softRootsWrong : ChangeSpec := { name := "softRoots", fn := fun _ => fun
  | [d1, d2] => { results := [.lit (.bool false)], args := [d1, d2] }
  | _ => none }
def SoftRootsWrongFalsely : Prop := softRootsRow.holds Try.pinned (OpenSpec.ofChange softRootsWrong)

/-- 'flyballlaw06.SoftSums': WHATEVER THE INPUT: true; the input reads as it did. -/
def softSumsSpec : ChangeSpec := { name := "softSums", fn := fun _ => fun
  | [d1, d2] => { results := [.lit (.bool true)], args := [d1, d2] }
  | _ => none }
def softSumsRow : OpenClaim := { program := "ytggmmkdfgjnjfaa", sum := "22272ce55cdc3fba6ab5c940e7f84d91b437a4d9b4d4722bab789a8c4653984d", func := "flyball/flyballlaw06.SoftSums", spec := "softSums", inPlace := ["math/bits.Add64", "math/bits.Sub64"], named := ["math/bits.divideError", "math/bits.overflowError"], apart := false }
def SoftSumsSaid : Prop := softSumsRow.holds Try.pinned (OpenSpec.ofChange softSumsSpec)

/-- ITS FALSE NEIGHBOUR: 'it returns false'. Refute it at one input. -/
def softSumsWrong : ChangeSpec := { name := "softSums", fn := fun _ => fun
  | [d1, d2] => { results := [.lit (.bool false)], args := [d1, d2] }
  | _ => none }
def SoftSumsWrongFalsely : Prop := softSumsRow.holds Try.pinned (OpenSpec.ofChange softSumsWrong)

/-- 'flyballlaw06.SoftTurns': WHATEVER THE INPUT: true; the input reads as it did. -/
def softTurnsSpec : ChangeSpec := { name := "softTurns", fn := fun _ => fun
  | [d1, d2, d3] => { results := [.lit (.bool true)], args := [d1, d2, d3] }
  | _ => none }
def softTurnsRow : OpenClaim := { program := "ytggmmkdfgjnjfaa", sum := "22272ce55cdc3fba6ab5c940e7f84d91b437a4d9b4d4722bab789a8c4653984d", func := "flyball/flyballlaw06.SoftTurns", spec := "softTurns", inPlace := ["math/bits.Add64", "math/bits.Sub64"], named := ["math/bits.divideError", "math/bits.overflowError"], apart := false }
def SoftTurnsSaid : Prop := softTurnsRow.holds Try.pinned (OpenSpec.ofChange softTurnsSpec)

/-- ITS FALSE NEIGHBOUR: 'it returns false'. Refute it at one input. -/
def softTurnsWrong : ChangeSpec := { name := "softTurns", fn := fun _ => fun
  | [d1, d2, d3] => { results := [.lit (.bool false)], args := [d1, d2, d3] }
  | _ => none }
def SoftTurnsWrongFalsely : Prop := softTurnsRow.holds Try.pinned (OpenSpec.ofChange softTurnsWrong)

/-- 'flyballlaw06.SoftRises': WHATEVER THE INPUT: true; the input reads as it did. -/
def softRisesSpec : ChangeSpec := { name := "softRises", fn := fun _ => fun
  | [d1, d2, d3, d4] => { results := [.lit (.bool true)], args := [d1, d2, d3, d4] }
  | _ => none }
def softRisesRow : OpenClaim := { program := "ytggmmkdfgjnjfaa", sum := "22272ce55cdc3fba6ab5c940e7f84d91b437a4d9b4d4722bab789a8c4653984d", func := "flyball/flyballlaw06.SoftRises", spec := "softRises", inPlace := ["math/bits.Add64", "math/bits.Sub64"], named := ["math/bits.divideError", "math/bits.overflowError"], apart := false }
def SoftRisesSaid : Prop := softRisesRow.holds Try.pinned (OpenSpec.ofChange softRisesSpec)

/-- ITS FALSE NEIGHBOUR: 'it returns false'. Refute it at one input. -/
def softRisesWrong : ChangeSpec := { name := "softRises", fn := fun _ => fun
  | [d1, d2, d3, d4] => { results := [.lit (.bool false)], args := [d1, d2, d3, d4] }
  | _ => none }
def SoftRisesWrongFalsely : Prop := softRisesRow.holds Try.pinned (OpenSpec.ofChange softRisesWrong)

/-- 'flyballlaw06.SoftSquares': WHATEVER THE INPUT: true; the input reads as it did. -/
def softSquaresSpec : ChangeSpec := { name := "softSquares", fn := fun _ => fun
  | [d] => { results := [.lit (.bool true)], args := [d] }
  | _ => none }
def softSquaresRow : OpenClaim := { program := "ytggmmkdfgjnjfaa", sum := "22272ce55cdc3fba6ab5c940e7f84d91b437a4d9b4d4722bab789a8c4653984d", func := "flyball/flyballlaw06.SoftSquares", spec := "softSquares", inPlace := ["math/bits.Add64", "math/bits.Sub64"], unfollowed := true, recurses := true, named := ["math/bits.divideError", "math/bits.overflowError"], apart := false }
def SoftSquaresSaid : Prop := softSquaresRow.holds Try.pinned (OpenSpec.ofChange softSquaresSpec)

/-- ITS FALSE NEIGHBOUR: 'it returns false'. Refute it at one input. -/
def softSquaresWrong : ChangeSpec := { name := "softSquares", fn := fun _ => fun
  | [d] => { results := [.lit (.bool false)], args := [d] }
  | _ => none }
def SoftSquaresWrongFalsely : Prop := softSquaresRow.holds Try.pinned (OpenSpec.ofChange softSquaresWrong)

/-- 'flyballlaw06.SoftExact': WHATEVER THE INPUT: true; the input reads as it did. -/
def softExactSpec : ChangeSpec := { name := "softExact", fn := fun _ => fun
  | [d1, d2, d3] => { results := [.lit (.bool true)], args := [d1, d2, d3] }
  | _ => none }
def softExactRow : OpenClaim := { program := "ytggmmkdfgjnjfaa", sum := "22272ce55cdc3fba6ab5c940e7f84d91b437a4d9b4d4722bab789a8c4653984d", func := "flyball/flyballlaw06.SoftExact", spec := "softExact", inPlace := ["math/bits.Add64", "math/bits.Sub64"], unfollowed := true, recurses := true, named := ["math/bits.divideError", "math/bits.overflowError"], apart := false }
def SoftExactSaid : Prop := softExactRow.holds Try.pinned (OpenSpec.ofChange softExactSpec)

/-- ITS FALSE NEIGHBOUR: 'it returns false'. Refute it at one input. -/
def softExactWrong : ChangeSpec := { name := "softExact", fn := fun _ => fun
  | [d1, d2, d3] => { results := [.lit (.bool false)], args := [d1, d2, d3] }
  | _ => none }
def SoftExactWrongFalsely : Prop := softExactRow.holds Try.pinned (OpenSpec.ofChange softExactWrong)

/-- 'flyballlaw07.ConvFrom': WHATEVER THE INPUT: true; the input reads as it did. -/
def convFromSpec : ChangeSpec := { name := "convFrom", fn := fun _ => fun
  | [d1, d2] => { results := [.lit (.bool true)], args := [d1, d2] }
  | _ => none }
def convFromRow : OpenClaim := { program := "ytggmmkdfgjnjfaa", sum := "22272ce55cdc3fba6ab5c940e7f84d91b437a4d9b4d4722bab789a8c4653984d", func := "flyball/flyballlaw07.ConvFrom", spec := "convFrom", apart := false }
def ConvFromSaid : Prop := convFromRow.holds Try.pinned (OpenSpec.ofChange convFromSpec)

/-- ITS FALSE NEIGHBOUR: 'it returns false'. Refute it at one input. -/
def convFromWrong : ChangeSpec := { name := "convFrom", fn := fun _ => fun
  | [d1, d2] => { results := [.lit (.bool false)], args := [d1, d2] }
  | _ => none }
def ConvFromWrongFalsely : Prop := convFromRow.holds Try.pinned (OpenSpec.ofChange convFromWrong)

/-- 'flyballlaw07.ConvTo': WHATEVER THE INPUT: true; the input reads as it did. -/
def convToSpec : ChangeSpec := { name := "convTo", fn := fun _ => fun
  | [d] => { results := [.lit (.bool true)], args := [d] }
  | _ => none }
def convToRow : OpenClaim := { program := "ytggmmkdfgjnjfaa", sum := "22272ce55cdc3fba6ab5c940e7f84d91b437a4d9b4d4722bab789a8c4653984d", func := "flyball/flyballlaw07.ConvTo", spec := "convTo", apart := false }
def ConvToSaid : Prop := convToRow.holds Try.pinned (OpenSpec.ofChange convToSpec)

/-- ITS FALSE NEIGHBOUR: 'it returns false'. Refute it at one input. -/
def convToWrong : ChangeSpec := { name := "convTo", fn := fun _ => fun
  | [d] => { results := [.lit (.bool false)], args := [d] }
  | _ => none }
def ConvToWrongFalsely : Prop := convToRow.holds Try.pinned (OpenSpec.ofChange convToWrong)

/-- 'flyballlaw07.ConvWhole': WHATEVER THE INPUT: true; the input reads as it did. -/
def convWholeSpec : ChangeSpec := { name := "convWhole", fn := fun _ => fun
  | [d1, d2] => { results := [.lit (.bool true)], args := [d1, d2] }
  | _ => none }
def convWholeRow : OpenClaim := { program := "ytggmmkdfgjnjfaa", sum := "22272ce55cdc3fba6ab5c940e7f84d91b437a4d9b4d4722bab789a8c4653984d", func := "flyball/flyballlaw07.ConvWhole", spec := "convWhole", apart := false }
def ConvWholeSaid : Prop := convWholeRow.holds Try.pinned (OpenSpec.ofChange convWholeSpec)

/-- ITS FALSE NEIGHBOUR: 'it returns false'. Refute it at one input. -/
def convWholeWrong : ChangeSpec := { name := "convWhole", fn := fun _ => fun
  | [d1, d2] => { results := [.lit (.bool false)], args := [d1, d2] }
  | _ => none }
def ConvWholeWrongFalsely : Prop := convWholeRow.holds Try.pinned (OpenSpec.ofChange convWholeWrong)

/-- 'flyballlaw07.ConvBack': WHATEVER THE INPUT: true; the input reads as it did. -/
def convBackSpec : ChangeSpec := { name := "convBack", fn := fun _ => fun
  | [d1, d2] => { results := [.lit (.bool true)], args := [d1, d2] }
  | _ => none }
def convBackRow : OpenClaim := { program := "ytggmmkdfgjnjfaa", sum := "22272ce55cdc3fba6ab5c940e7f84d91b437a4d9b4d4722bab789a8c4653984d", func := "flyball/flyballlaw07.ConvBack", spec := "convBack", apart := false }
def ConvBackSaid : Prop := convBackRow.holds Try.pinned (OpenSpec.ofChange convBackSpec)

/-- ITS FALSE NEIGHBOUR: 'it returns false'. Refute it at one input. -/
def convBackWrong : ChangeSpec := { name := "convBack", fn := fun _ => fun
  | [d1, d2] => { results := [.lit (.bool false)], args := [d1, d2] }
  | _ => none }
def ConvBackWrongFalsely : Prop := convBackRow.holds Try.pinned (OpenSpec.ofChange convBackWrong)

/-- 'flyballlaw07.ConvNear': WHATEVER THE INPUT: true; the input reads as it did. -/
def convNearSpec : ChangeSpec := { name := "convNear", fn := fun _ => fun
  | [d1, d2] => { results := [.lit (.bool true)], args := [d1, d2] }
  | _ => none }
def convNearRow : OpenClaim := { program := "ytggmmkdfgjnjfaa", sum := "22272ce55cdc3fba6ab5c940e7f84d91b437a4d9b4d4722bab789a8c4653984d", func := "flyball/flyballlaw07.ConvNear", spec := "convNear", unfollowed := true, recurses := true, apart := false }
def ConvNearSaid : Prop := convNearRow.holds Try.pinned (OpenSpec.ofChange convNearSpec)

/-- ITS FALSE NEIGHBOUR: 'it returns false'. Refute it at one input. -/
def convNearWrong : ChangeSpec := { name := "convNear", fn := fun _ => fun
  | [d1, d2] => { results := [.lit (.bool false)], args := [d1, d2] }
  | _ => none }
def ConvNearWrongFalsely : Prop := convNearRow.holds Try.pinned (OpenSpec.ofChange convNearWrong)

/- THE SECOND FORM. 'bulk': how many values and letters a reading holds, each counted each time it is reached (what is shared counts as often as it is met; a slice's spare places count too). A statement '..UptoSaid' is the law's where the arguments, and the package variables that the reading takes, are together of bulk at most 1048576: NARROWER than '..Said'. Prove '..Said' where nothing that the law and all that it calls make is longer than what came in: it says more and counts as full. Else prove '..UptoSaid'. A law counts once. -/
mutual
def uptoBulk {H : Type} : DataW H → Nat
  | .lit (.string bytes) => bytes.length + 1
  | .lit _ => 1
  | .nil => 1
  | .ptr d => uptoBulk d + 1
  | .slice elems spare => uptoBulkAll elems + uptoBulkAll spare + 1
  | .agg parts => uptoBulkAll parts + 1
  | .iface _ d => uptoBulk d + 1
  | .map entries => uptoBulkEntries entries + 1
  | .held _ => 1
def uptoBulkAll {H : Type} : List (DataW H) → Nat
  | [] => 0
  | d :: r => uptoBulk d + uptoBulkAll r
def uptoBulkEntries {H : Type} : List (Lit × DataW H) → Nat
  | [] => 0
  | x :: r => uptoBulkEntry x + uptoBulkEntries r
def uptoBulkEntry {H : Type} : Lit × DataW H → Nat
  | (.string bytes, d) => bytes.length + uptoBulk d + 1
  | (_, d) => uptoBulk d + 1
 end
def uptoSmall : (H : Type) → List (DataW H) → Bool := fun _ ds => decide (uptoBulkAll ds ≤ 1048576)
def OpenSpec.upto (s : _root_.Go.ChangeSpec) : _root_.Go.OpenSpec := { _root_.Go.OpenSpec.ofChange s with cond := some uptoSmall }

/-- 'flyballlaw02.NatAdds', WHERE WHAT IT READS IS OF BULK AT MOST 1048576: true; the input reads as it did. -/
def natAddsUptoRow : OpenClaim := { program := "ytggmmkdfgjnjfaa", sum := "22272ce55cdc3fba6ab5c940e7f84d91b437a4d9b4d4722bab789a8c4653984d", func := "flyball/flyballlaw02.NatAdds", spec := "natAdds", unfollowed := true, recurses := true, apart := false, narrowed := true }
def NatAddsUptoSaid : Prop := natAddsUptoRow.holds Try.pinned (OpenSpec.upto natAddsSpec)

/-- 'flyballlaw02.NatDivides', WHERE WHAT IT READS IS OF BULK AT MOST 1048576: true; the input reads as it did. -/
def natDividesUptoRow : OpenClaim := { program := "ytggmmkdfgjnjfaa", sum := "22272ce55cdc3fba6ab5c940e7f84d91b437a4d9b4d4722bab789a8c4653984d", func := "flyball/flyballlaw02.NatDivides", spec := "natDivides", unfollowed := true, recurses := true, apart := false, narrowed := true }
def NatDividesUptoSaid : Prop := natDividesUptoRow.holds Try.pinned (OpenSpec.upto natDividesSpec)

/-- 'flyballlaw02.NatShifts', WHERE WHAT IT READS IS OF BULK AT MOST 1048576: true; the input reads as it did. -/
def natShiftsUptoRow : OpenClaim := { program := "ytggmmkdfgjnjfaa", sum := "22272ce55cdc3fba6ab5c940e7f84d91b437a4d9b4d4722bab789a8c4653984d", func := "flyball/flyballlaw02.NatShifts", spec := "natShifts", unfollowed := true, recurses := true, apart := false, narrowed := true }
def NatShiftsUptoSaid : Prop := natShiftsUptoRow.holds Try.pinned (OpenSpec.upto natShiftsSpec)

/-- 'flyballlaw02.NatTexts', WHERE WHAT IT READS IS OF BULK AT MOST 1048576: true; the input reads as it did. -/
def natTextsUptoRow : OpenClaim := { program := "ytggmmkdfgjnjfaa", sum := "22272ce55cdc3fba6ab5c940e7f84d91b437a4d9b4d4722bab789a8c4653984d", func := "flyball/flyballlaw02.NatTexts", spec := "natTexts", unfollowed := true, recurses := true, apart := false, narrowed := true }
def NatTextsUptoSaid : Prop := natTextsUptoRow.holds Try.pinned (OpenSpec.upto natTextsSpec)

/-- 'flyballlaw02.NatPowers', WHERE WHAT IT READS IS OF BULK AT MOST 1048576: true; the input reads as it did. -/
def natPowersUptoRow : OpenClaim := { program := "ytggmmkdfgjnjfaa", sum := "22272ce55cdc3fba6ab5c940e7f84d91b437a4d9b4d4722bab789a8c4653984d", func := "flyball/flyballlaw02.NatPowers", spec := "natPowers", unfollowed := true, recurses := true, apart := false, narrowed := true }
def NatPowersUptoSaid : Prop := natPowersUptoRow.holds Try.pinned (OpenSpec.upto natPowersSpec)

/-- 'flyballlaw02.NatLaws', WHERE WHAT IT READS IS OF BULK AT MOST 1048576: true; the input reads as it did. -/
def natLawsUptoRow : OpenClaim := { program := "ytggmmkdfgjnjfaa", sum := "22272ce55cdc3fba6ab5c940e7f84d91b437a4d9b4d4722bab789a8c4653984d", func := "flyball/flyballlaw02.NatLaws", spec := "natLaws", unfollowed := true, recurses := true, apart := false, narrowed := true }
def NatLawsUptoSaid : Prop := natLawsUptoRow.holds Try.pinned (OpenSpec.upto natLawsSpec)

/-- 'flyballlaw02.NatCommon', WHERE WHAT IT READS IS OF BULK AT MOST 1048576: true; the input reads as it did. -/
def natCommonUptoRow : OpenClaim := { program := "ytggmmkdfgjnjfaa", sum := "22272ce55cdc3fba6ab5c940e7f84d91b437a4d9b4d4722bab789a8c4653984d", func := "flyball/flyballlaw02.NatCommon", spec := "natCommon", unfollowed := true, recurses := true, apart := false, narrowed := true }
def NatCommonUptoSaid : Prop := natCommonUptoRow.holds Try.pinned (OpenSpec.upto natCommonSpec)

/-- 'flyballlaw03.RatioAdds', WHERE WHAT IT READS IS OF BULK AT MOST 1048576: true; the input reads as it did. -/
def ratioAddsUptoRow : OpenClaim := { program := "ytggmmkdfgjnjfaa", sum := "22272ce55cdc3fba6ab5c940e7f84d91b437a4d9b4d4722bab789a8c4653984d", func := "flyball/flyballlaw03.RatioAdds", spec := "ratioAdds", unfollowed := true, recurses := true, apart := false, narrowed := true }
def RatioAddsUptoSaid : Prop := ratioAddsUptoRow.holds Try.pinned (OpenSpec.upto ratioAddsSpec)

/-- 'flyballlaw03.RatioMuls', WHERE WHAT IT READS IS OF BULK AT MOST 1048576: true; the input reads as it did. -/
def ratioMulsUptoRow : OpenClaim := { program := "ytggmmkdfgjnjfaa", sum := "22272ce55cdc3fba6ab5c940e7f84d91b437a4d9b4d4722bab789a8c4653984d", func := "flyball/flyballlaw03.RatioMuls", spec := "ratioMuls", unfollowed := true, recurses := true, apart := false, narrowed := true }
def RatioMulsUptoSaid : Prop := ratioMulsUptoRow.holds Try.pinned (OpenSpec.upto ratioMulsSpec)

/-- 'flyballlaw03.RatioOrders', WHERE WHAT IT READS IS OF BULK AT MOST 1048576: true; the input reads as it did. -/
def ratioOrdersUptoRow : OpenClaim := { program := "ytggmmkdfgjnjfaa", sum := "22272ce55cdc3fba6ab5c940e7f84d91b437a4d9b4d4722bab789a8c4653984d", func := "flyball/flyballlaw03.RatioOrders", spec := "ratioOrders", unfollowed := true, recurses := true, apart := false, narrowed := true }
def RatioOrdersUptoSaid : Prop := ratioOrdersUptoRow.holds Try.pinned (OpenSpec.upto ratioOrdersSpec)

/-- 'flyballlaw03.RatioMakes', WHERE WHAT IT READS IS OF BULK AT MOST 1048576: true; the input reads as it did. -/
def ratioMakesUptoRow : OpenClaim := { program := "ytggmmkdfgjnjfaa", sum := "22272ce55cdc3fba6ab5c940e7f84d91b437a4d9b4d4722bab789a8c4653984d", func := "flyball/flyballlaw03.RatioMakes", spec := "ratioMakes", unfollowed := true, recurses := true, apart := false, narrowed := true }
def RatioMakesUptoSaid : Prop := ratioMakesUptoRow.holds Try.pinned (OpenSpec.upto ratioMakesSpec)

/-- 'flyballlaw03.RatioField', WHERE WHAT IT READS IS OF BULK AT MOST 1048576: true; the input reads as it did. -/
def ratioFieldUptoRow : OpenClaim := { program := "ytggmmkdfgjnjfaa", sum := "22272ce55cdc3fba6ab5c940e7f84d91b437a4d9b4d4722bab789a8c4653984d", func := "flyball/flyballlaw03.RatioField", spec := "ratioField", unfollowed := true, recurses := true, apart := false, narrowed := true }
def RatioFieldUptoSaid : Prop := ratioFieldUptoRow.holds Try.pinned (OpenSpec.upto ratioFieldSpec)

/-- 'flyballlaw03.RatioMost', WHERE WHAT IT READS IS OF BULK AT MOST 1048576: true; the input reads as it did. -/
def ratioMostUptoRow : OpenClaim := { program := "ytggmmkdfgjnjfaa", sum := "22272ce55cdc3fba6ab5c940e7f84d91b437a4d9b4d4722bab789a8c4653984d", func := "flyball/flyballlaw03.RatioMost", spec := "ratioMost", unfollowed := true, recurses := true, apart := false, narrowed := true }
def RatioMostUptoSaid : Prop := ratioMostUptoRow.holds Try.pinned (OpenSpec.upto ratioMostSpec)

/-- 'flyballlaw04.PatternParts', WHERE WHAT IT READS IS OF BULK AT MOST 1048576: true; the input reads as it did. -/
def patternPartsUptoRow : OpenClaim := { program := "ytggmmkdfgjnjfaa", sum := "22272ce55cdc3fba6ab5c940e7f84d91b437a4d9b4d4722bab789a8c4653984d", func := "flyball/flyballlaw04.PatternParts", spec := "patternParts", unfollowed := true, recurses := true, apart := false, narrowed := true }
def PatternPartsUptoSaid : Prop := patternPartsUptoRow.holds Try.pinned (OpenSpec.upto patternPartsSpec)

/-- 'flyballlaw04.PatternValues', WHERE WHAT IT READS IS OF BULK AT MOST 1048576: true; the input reads as it did. -/
def patternValuesUptoRow : OpenClaim := { program := "ytggmmkdfgjnjfaa", sum := "22272ce55cdc3fba6ab5c940e7f84d91b437a4d9b4d4722bab789a8c4653984d", func := "flyball/flyballlaw04.PatternValues", spec := "patternValues", unfollowed := true, recurses := true, apart := false, narrowed := true }
def PatternValuesUptoSaid : Prop := patternValuesUptoRow.holds Try.pinned (OpenSpec.upto patternValuesSpec)

/-- 'flyballlaw04.PatternNeighbours', WHERE WHAT IT READS IS OF BULK AT MOST 1048576: true; the input reads as it did. -/
def patternNeighboursUptoRow : OpenClaim := { program := "ytggmmkdfgjnjfaa", sum := "22272ce55cdc3fba6ab5c940e7f84d91b437a4d9b4d4722bab789a8c4653984d", func := "flyball/flyballlaw04.PatternNeighbours", spec := "patternNeighbours", unfollowed := true, recurses := true, apart := false, narrowed := true }
def PatternNeighboursUptoSaid : Prop := patternNeighboursUptoRow.holds Try.pinned (OpenSpec.upto patternNeighboursSpec)

/-- 'flyballlaw04.PatternBetween', WHERE WHAT IT READS IS OF BULK AT MOST 1048576: true; the input reads as it did. -/
def patternBetweenUptoRow : OpenClaim := { program := "ytggmmkdfgjnjfaa", sum := "22272ce55cdc3fba6ab5c940e7f84d91b437a4d9b4d4722bab789a8c4653984d", func := "flyball/flyballlaw04.PatternBetween", spec := "patternBetween", unfollowed := true, recurses := true, apart := false, narrowed := true }
def PatternBetweenUptoSaid : Prop := patternBetweenUptoRow.holds Try.pinned (OpenSpec.upto patternBetweenSpec)

/-- 'flyballlaw04.PatternSigns', WHERE WHAT IT READS IS OF BULK AT MOST 1048576: true; the input reads as it did. -/
def patternSignsUptoRow : OpenClaim := { program := "ytggmmkdfgjnjfaa", sum := "22272ce55cdc3fba6ab5c940e7f84d91b437a4d9b4d4722bab789a8c4653984d", func := "flyball/flyballlaw04.PatternSigns", spec := "patternSigns", unfollowed := true, recurses := true, apart := false, narrowed := true }
def PatternSignsUptoSaid : Prop := patternSignsUptoRow.holds Try.pinned (OpenSpec.upto patternSignsSpec)

/-- 'flyballlaw04.PatternMost', WHERE WHAT IT READS IS OF BULK AT MOST 1048576: true; the input reads as it did. -/
def patternMostUptoRow : OpenClaim := { program := "ytggmmkdfgjnjfaa", sum := "22272ce55cdc3fba6ab5c940e7f84d91b437a4d9b4d4722bab789a8c4653984d", func := "flyball/flyballlaw04.PatternMost", spec := "patternMost", unfollowed := true, recurses := true, apart := false, narrowed := true }
def PatternMostUptoSaid : Prop := patternMostUptoRow.holds Try.pinned (OpenSpec.upto patternMostSpec)

/-- 'flyballlaw04.PatternOrders', WHERE WHAT IT READS IS OF BULK AT MOST 1048576: true; the input reads as it did. -/
def patternOrdersUptoRow : OpenClaim := { program := "ytggmmkdfgjnjfaa", sum := "22272ce55cdc3fba6ab5c940e7f84d91b437a4d9b4d4722bab789a8c4653984d", func := "flyball/flyballlaw04.PatternOrders", spec := "patternOrders", unfollowed := true, recurses := true, apart := false, narrowed := true }
def PatternOrdersUptoSaid : Prop := patternOrdersUptoRow.holds Try.pinned (OpenSpec.upto patternOrdersSpec)

/-- 'flyballlaw05.RoundRounds', WHERE WHAT IT READS IS OF BULK AT MOST 1048576: true; the input reads as it did. -/
def roundRoundsUptoRow : OpenClaim := { program := "ytggmmkdfgjnjfaa", sum := "22272ce55cdc3fba6ab5c940e7f84d91b437a4d9b4d4722bab789a8c4653984d", func := "flyball/flyballlaw05.RoundRounds", spec := "roundRounds", unfollowed := true, recurses := true, apart := false, narrowed := true }
def RoundRoundsUptoSaid : Prop := roundRoundsUptoRow.holds Try.pinned (OpenSpec.upto roundRoundsSpec)

/-- 'flyballlaw05.RoundExacts', WHERE WHAT IT READS IS OF BULK AT MOST 1048576: true; the input reads as it did. -/
def roundExactsUptoRow : OpenClaim := { program := "ytggmmkdfgjnjfaa", sum := "22272ce55cdc3fba6ab5c940e7f84d91b437a4d9b4d4722bab789a8c4653984d", func := "flyball/flyballlaw05.RoundExacts", spec := "roundExacts", unfollowed := true, recurses := true, apart := false, narrowed := true }
def RoundExactsUptoSaid : Prop := roundExactsUptoRow.holds Try.pinned (OpenSpec.upto roundExactsSpec)

/-- 'flyballlaw05.RoundUlps', WHERE WHAT IT READS IS OF BULK AT MOST 1048576: true; the input reads as it did. -/
def roundUlpsUptoRow : OpenClaim := { program := "ytggmmkdfgjnjfaa", sum := "22272ce55cdc3fba6ab5c940e7f84d91b437a4d9b4d4722bab789a8c4653984d", func := "flyball/flyballlaw05.RoundUlps", spec := "roundUlps", unfollowed := true, recurses := true, apart := false, narrowed := true }
def RoundUlpsUptoSaid : Prop := roundUlpsUptoRow.holds Try.pinned (OpenSpec.upto roundUlpsSpec)

/-- 'flyballlaw05.RoundStays', WHERE WHAT IT READS IS OF BULK AT MOST 1048576: true; the input reads as it did. -/
def roundStaysUptoRow : OpenClaim := { program := "ytggmmkdfgjnjfaa", sum := "22272ce55cdc3fba6ab5c940e7f84d91b437a4d9b4d4722bab789a8c4653984d", func := "flyball/flyballlaw05.RoundStays", spec := "roundStays", unfollowed := true, recurses := true, apart := false, narrowed := true }
def RoundStaysUptoSaid : Prop := roundStaysUptoRow.holds Try.pinned (OpenSpec.upto roundStaysSpec)

/-- 'flyballlaw05.RoundRises', WHERE WHAT IT READS IS OF BULK AT MOST 1048576: true; the input reads as it did. -/
def roundRisesUptoRow : OpenClaim := { program := "ytggmmkdfgjnjfaa", sum := "22272ce55cdc3fba6ab5c940e7f84d91b437a4d9b4d4722bab789a8c4653984d", func := "flyball/flyballlaw05.RoundRises", spec := "roundRises", unfollowed := true, recurses := true, apart := false, narrowed := true }
def RoundRisesUptoSaid : Prop := roundRisesUptoRow.holds Try.pinned (OpenSpec.upto roundRisesSpec)

/-- 'flyballlaw05.RoundHolds', WHERE WHAT IT READS IS OF BULK AT MOST 1048576: true; the input reads as it did. -/
def roundHoldsUptoRow : OpenClaim := { program := "ytggmmkdfgjnjfaa", sum := "22272ce55cdc3fba6ab5c940e7f84d91b437a4d9b4d4722bab789a8c4653984d", func := "flyball/flyballlaw05.RoundHolds", spec := "roundHolds", unfollowed := true, recurses := true, apart := false, narrowed := true }
def RoundHoldsUptoSaid : Prop := roundHoldsUptoRow.holds Try.pinned (OpenSpec.upto roundHoldsSpec)

/-- 'flyballlaw06.SoftAdds', WHERE WHAT IT READS IS OF BULK AT MOST 1048576: true; the input reads as it did. -/
def softAddsUptoRow : OpenClaim := { program := "ytggmmkdfgjnjfaa", sum := "22272ce55cdc3fba6ab5c940e7f84d91b437a4d9b4d4722bab789a8c4653984d", func := "flyball/flyballlaw06.SoftAdds", spec := "softAdds", inPlace := ["math/bits.Add64", "math/bits.Sub64"], named := ["math/bits.divideError", "math/bits.overflowError"], apart := false, narrowed := true }
def SoftAddsUptoSaid : Prop := softAddsUptoRow.holds Try.pinned (OpenSpec.upto softAddsSpec)

/-- 'flyballlaw06.SoftMuls', WHERE WHAT IT READS IS OF BULK AT MOST 1048576: true; the input reads as it did. -/
def softMulsUptoRow : OpenClaim := { program := "ytggmmkdfgjnjfaa", sum := "22272ce55cdc3fba6ab5c940e7f84d91b437a4d9b4d4722bab789a8c4653984d", func := "flyball/flyballlaw06.SoftMuls", spec := "softMuls", inPlace := ["math/bits.Add64", "math/bits.Sub64"], named := ["math/bits.divideError", "math/bits.overflowError"], apart := false, narrowed := true }
def SoftMulsUptoSaid : Prop := softMulsUptoRow.holds Try.pinned (OpenSpec.upto softMulsSpec)

/-- 'flyballlaw06.SoftDivides', WHERE WHAT IT READS IS OF BULK AT MOST 1048576: true; the input reads as it did. -/
def softDividesUptoRow : OpenClaim := { program := "ytggmmkdfgjnjfaa", sum := "22272ce55cdc3fba6ab5c940e7f84d91b437a4d9b4d4722bab789a8c4653984d", func := "flyball/flyballlaw06.SoftDivides", spec := "softDivides", inPlace := ["math/bits.Add64", "math/bits.Sub64"], named := ["math/bits.divideError", "math/bits.overflowError"], apart := false, narrowed := true }
def SoftDividesUptoSaid : Prop := softDividesUptoRow.holds Try.pinned (OpenSpec.upto softDividesSpec)

/-- 'flyballlaw06.SoftRoots', WHERE WHAT IT READS IS OF BULK AT MOST 1048576: true; the input reads as it did. -/
def softRootsUptoRow : OpenClaim := { program := "ytggmmkdfgjnjfaa", sum := "22272ce55cdc3fba6ab5c940e7f84d91b437a4d9b4d4722bab789a8c4653984d", func := "flyball/flyballlaw06.SoftRoots", spec := "softRoots", inPlace := ["math/bits.Add64", "math/bits.Sub64"], named := ["math/bits.divideError", "math/bits.overflowError"], apart := false, narrowed := true }
def SoftRootsUptoSaid : Prop := softRootsUptoRow.holds Try.pinned (OpenSpec.upto softRootsSpec)

/-- 'flyballlaw06.SoftSums', WHERE WHAT IT READS IS OF BULK AT MOST 1048576: true; the input reads as it did. -/
def softSumsUptoRow : OpenClaim := { program := "ytggmmkdfgjnjfaa", sum := "22272ce55cdc3fba6ab5c940e7f84d91b437a4d9b4d4722bab789a8c4653984d", func := "flyball/flyballlaw06.SoftSums", spec := "softSums", inPlace := ["math/bits.Add64", "math/bits.Sub64"], named := ["math/bits.divideError", "math/bits.overflowError"], apart := false, narrowed := true }
def SoftSumsUptoSaid : Prop := softSumsUptoRow.holds Try.pinned (OpenSpec.upto softSumsSpec)

/-- 'flyballlaw06.SoftTurns', WHERE WHAT IT READS IS OF BULK AT MOST 1048576: true; the input reads as it did. -/
def softTurnsUptoRow : OpenClaim := { program := "ytggmmkdfgjnjfaa", sum := "22272ce55cdc3fba6ab5c940e7f84d91b437a4d9b4d4722bab789a8c4653984d", func := "flyball/flyballlaw06.SoftTurns", spec := "softTurns", inPlace := ["math/bits.Add64", "math/bits.Sub64"], named := ["math/bits.divideError", "math/bits.overflowError"], apart := false, narrowed := true }
def SoftTurnsUptoSaid : Prop := softTurnsUptoRow.holds Try.pinned (OpenSpec.upto softTurnsSpec)

/-- 'flyballlaw06.SoftRises', WHERE WHAT IT READS IS OF BULK AT MOST 1048576: true; the input reads as it did. -/
def softRisesUptoRow : OpenClaim := { program := "ytggmmkdfgjnjfaa", sum := "22272ce55cdc3fba6ab5c940e7f84d91b437a4d9b4d4722bab789a8c4653984d", func := "flyball/flyballlaw06.SoftRises", spec := "softRises", inPlace := ["math/bits.Add64", "math/bits.Sub64"], named := ["math/bits.divideError", "math/bits.overflowError"], apart := false, narrowed := true }
def SoftRisesUptoSaid : Prop := softRisesUptoRow.holds Try.pinned (OpenSpec.upto softRisesSpec)

/-- 'flyballlaw06.SoftSquares', WHERE WHAT IT READS IS OF BULK AT MOST 1048576: true; the input reads as it did. -/
def softSquaresUptoRow : OpenClaim := { program := "ytggmmkdfgjnjfaa", sum := "22272ce55cdc3fba6ab5c940e7f84d91b437a4d9b4d4722bab789a8c4653984d", func := "flyball/flyballlaw06.SoftSquares", spec := "softSquares", inPlace := ["math/bits.Add64", "math/bits.Sub64"], unfollowed := true, recurses := true, named := ["math/bits.divideError", "math/bits.overflowError"], apart := false, narrowed := true }
def SoftSquaresUptoSaid : Prop := softSquaresUptoRow.holds Try.pinned (OpenSpec.upto softSquaresSpec)

/-- 'flyballlaw06.SoftExact', WHERE WHAT IT READS IS OF BULK AT MOST 1048576: true; the input reads as it did. -/
def softExactUptoRow : OpenClaim := { program := "ytggmmkdfgjnjfaa", sum := "22272ce55cdc3fba6ab5c940e7f84d91b437a4d9b4d4722bab789a8c4653984d", func := "flyball/flyballlaw06.SoftExact", spec := "softExact", inPlace := ["math/bits.Add64", "math/bits.Sub64"], unfollowed := true, recurses := true, named := ["math/bits.divideError", "math/bits.overflowError"], apart := false, narrowed := true }
def SoftExactUptoSaid : Prop := softExactUptoRow.holds Try.pinned (OpenSpec.upto softExactSpec)

/-- 'flyballlaw07.ConvFrom', WHERE WHAT IT READS IS OF BULK AT MOST 1048576: true; the input reads as it did. -/
def convFromUptoRow : OpenClaim := { program := "ytggmmkdfgjnjfaa", sum := "22272ce55cdc3fba6ab5c940e7f84d91b437a4d9b4d4722bab789a8c4653984d", func := "flyball/flyballlaw07.ConvFrom", spec := "convFrom", apart := false, narrowed := true }
def ConvFromUptoSaid : Prop := convFromUptoRow.holds Try.pinned (OpenSpec.upto convFromSpec)

/-- 'flyballlaw07.ConvTo', WHERE WHAT IT READS IS OF BULK AT MOST 1048576: true; the input reads as it did. -/
def convToUptoRow : OpenClaim := { program := "ytggmmkdfgjnjfaa", sum := "22272ce55cdc3fba6ab5c940e7f84d91b437a4d9b4d4722bab789a8c4653984d", func := "flyball/flyballlaw07.ConvTo", spec := "convTo", apart := false, narrowed := true }
def ConvToUptoSaid : Prop := convToUptoRow.holds Try.pinned (OpenSpec.upto convToSpec)

/-- 'flyballlaw07.ConvWhole', WHERE WHAT IT READS IS OF BULK AT MOST 1048576: true; the input reads as it did. -/
def convWholeUptoRow : OpenClaim := { program := "ytggmmkdfgjnjfaa", sum := "22272ce55cdc3fba6ab5c940e7f84d91b437a4d9b4d4722bab789a8c4653984d", func := "flyball/flyballlaw07.ConvWhole", spec := "convWhole", apart := false, narrowed := true }
def ConvWholeUptoSaid : Prop := convWholeUptoRow.holds Try.pinned (OpenSpec.upto convWholeSpec)

/-- 'flyballlaw07.ConvBack', WHERE WHAT IT READS IS OF BULK AT MOST 1048576: true; the input reads as it did. -/
def convBackUptoRow : OpenClaim := { program := "ytggmmkdfgjnjfaa", sum := "22272ce55cdc3fba6ab5c940e7f84d91b437a4d9b4d4722bab789a8c4653984d", func := "flyball/flyballlaw07.ConvBack", spec := "convBack", apart := false, narrowed := true }
def ConvBackUptoSaid : Prop := convBackUptoRow.holds Try.pinned (OpenSpec.upto convBackSpec)

/-- 'flyballlaw07.ConvNear', WHERE WHAT IT READS IS OF BULK AT MOST 1048576: true; the input reads as it did. -/
def convNearUptoRow : OpenClaim := { program := "ytggmmkdfgjnjfaa", sum := "22272ce55cdc3fba6ab5c940e7f84d91b437a4d9b4d4722bab789a8c4653984d", func := "flyball/flyballlaw07.ConvNear", spec := "convNear", unfollowed := true, recurses := true, apart := false, narrowed := true }
def ConvNearUptoSaid : Prop := convNearUptoRow.holds Try.pinned (OpenSpec.upto convNearSpec)

end Rows
end Go.Proofs.Ytggmmkdfgjnjfaa
