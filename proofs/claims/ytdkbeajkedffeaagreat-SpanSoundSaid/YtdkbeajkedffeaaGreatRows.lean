/-
  No cell of these rows narrows 'for every input' (looked for: loops, veiled, ifaces, maps, wideKeys, modest, calm, conditions, laid).
  DERIVED. THE GIVEN ROWS OF THIS SEAT. 4 by the template 'for every input the law returns true; each argument reads behind the call as it read before'; 0 by the template 'total and deterministic' (their statements: YtdkbeajkedffeaaGreatTotals.lean).
  GIVEN WITH THE SEED: the statements are not yours to turn. If you find one false, say at which input.
  Laid BY PROGRAM, IN A SANDBOX (cutbox-rows.mjs): the forced cells as the released guide's own fill.sh prints them over the translation cc342754bcc34135… (all of the seat's roots in one cut). By AI agents, Wed Nov 11 2026. No macro, syntax, notation, axiom, sorry.
-/
import Derived.Test.YtdkbeajkedffeaaGreatChecked
import GoSem.Claim
import GoSem.ClaimJoined
import GoSem.ClaimMapViews
import Derived.JoinedTies
import Derived.KernelRfl
namespace Go.Proofs.YtdkbeajkedffeaaGreat
/- THE CELL 'sum', in the pinned program and in every row, IS THE sha256 OF THE DUMP (.gsa) THAT YtdkbeajkedffeaaGreatProg.lean LOADS. Nothing in Lean hashes anything: it is a label: what it is worth is what the hold of that sum in a sandbox is worth. -/
noncomputable def Tryz.pinned : Pinned := { name := "ytdkbeajkedffeaagreat", sum := "cc342754bcc3413523b274c80a5a5ced098b809efb24b1a7dee2a9c6285bf9f0", checked := Tryz.checked }
namespace Rows
def none {H : Type} : Left H := { results := [], args := [] }

/-- 'flyballlaw16.SpanProducts': WHATEVER THE INPUT: true; the input reads as it did. -/
def spanProductsSpec : ChangeSpec := { name := "spanProducts", fn := fun _ => fun
  | [d1, d2] => { results := [.lit (.bool true)], args := [d1, d2] }
  | _ => none }
def spanProductsRow : OpenClaim := { program := "ytdkbeajkedffeaagreat", sum := "cc342754bcc3413523b274c80a5a5ced098b809efb24b1a7dee2a9c6285bf9f0", func := "flyball/flyballlaw16.SpanProducts", spec := "spanProducts", unfollowed := true, recurses := true, named := ["math/bits.divideError", "math/bits.overflowError"], apart := false }
def SpanProductsSaid : Prop := spanProductsRow.holds Tryz.pinned (OpenSpec.ofChange spanProductsSpec)

/-- ITS FALSE NEIGHBOUR: 'it returns false'. Refute it at one input. -/
def spanProductsWrong : ChangeSpec := { name := "spanProducts", fn := fun _ => fun
  | [d1, d2] => { results := [.lit (.bool false)], args := [d1, d2] }
  | _ => none }
def SpanProductsWrongFalsely : Prop := spanProductsRow.holds Tryz.pinned (OpenSpec.ofChange spanProductsWrong)

/-- 'flyballlaw16.SpanSums': WHATEVER THE INPUT: true; the input reads as it did. -/
def spanSumsSpec : ChangeSpec := { name := "spanSums", fn := fun _ => fun
  | [d1, d2] => { results := [.lit (.bool true)], args := [d1, d2] }
  | _ => none }
def spanSumsRow : OpenClaim := { program := "ytdkbeajkedffeaagreat", sum := "cc342754bcc3413523b274c80a5a5ced098b809efb24b1a7dee2a9c6285bf9f0", func := "flyball/flyballlaw16.SpanSums", spec := "spanSums", inPlace := ["math/bits.Add64", "math/bits.Sub64"], unfollowed := true, recurses := true, named := ["math/bits.divideError", "math/bits.overflowError"], apart := false }
def SpanSumsSaid : Prop := spanSumsRow.holds Tryz.pinned (OpenSpec.ofChange spanSumsSpec)

/-- ITS FALSE NEIGHBOUR: 'it returns false'. Refute it at one input. -/
def spanSumsWrong : ChangeSpec := { name := "spanSums", fn := fun _ => fun
  | [d1, d2] => { results := [.lit (.bool false)], args := [d1, d2] }
  | _ => none }
def SpanSumsWrongFalsely : Prop := spanSumsRow.holds Tryz.pinned (OpenSpec.ofChange spanSumsWrong)

/-- 'flyballlaw16.SpanTight': WHATEVER THE INPUT: true; the input reads as it did. -/
def spanTightSpec : ChangeSpec := { name := "spanTight", fn := fun _ => fun
  | [d1, d2] => { results := [.lit (.bool true)], args := [d1, d2] }
  | _ => none }
def spanTightRow : OpenClaim := { program := "ytdkbeajkedffeaagreat", sum := "cc342754bcc3413523b274c80a5a5ced098b809efb24b1a7dee2a9c6285bf9f0", func := "flyball/flyballlaw16.SpanTight", spec := "spanTight", inPlace := ["math/bits.Add64", "math/bits.Sub64"], unfollowed := true, recurses := true, named := ["math/bits.divideError", "math/bits.overflowError"], apart := false }
def SpanTightSaid : Prop := spanTightRow.holds Tryz.pinned (OpenSpec.ofChange spanTightSpec)

/-- ITS FALSE NEIGHBOUR: 'it returns false'. Refute it at one input. -/
def spanTightWrong : ChangeSpec := { name := "spanTight", fn := fun _ => fun
  | [d1, d2] => { results := [.lit (.bool false)], args := [d1, d2] }
  | _ => none }
def SpanTightWrongFalsely : Prop := spanTightRow.holds Tryz.pinned (OpenSpec.ofChange spanTightWrong)

/-- 'flyballlaw16.SpanSound': WHATEVER THE INPUT: true; the input reads as it did. -/
def spanSoundSpec : ChangeSpec := { name := "spanSound", fn := fun _ => fun
  | [d1, d2, d3, d4] => { results := [.lit (.bool true)], args := [d1, d2, d3, d4] }
  | _ => none }
def spanSoundRow : OpenClaim := { program := "ytdkbeajkedffeaagreat", sum := "cc342754bcc3413523b274c80a5a5ced098b809efb24b1a7dee2a9c6285bf9f0", func := "flyball/flyballlaw16.SpanSound", spec := "spanSound", inPlace := ["math/bits.Add64", "math/bits.Sub64"], unfollowed := true, recurses := true, named := ["math/bits.divideError", "math/bits.overflowError"], apart := false }
def SpanSoundSaid : Prop := spanSoundRow.holds Tryz.pinned (OpenSpec.ofChange spanSoundSpec)

/-- ITS FALSE NEIGHBOUR: 'it returns false'. Refute it at one input. -/
def spanSoundWrong : ChangeSpec := { name := "spanSound", fn := fun _ => fun
  | [d1, d2, d3, d4] => { results := [.lit (.bool false)], args := [d1, d2, d3, d4] }
  | _ => none }
def SpanSoundWrongFalsely : Prop := spanSoundRow.holds Tryz.pinned (OpenSpec.ofChange spanSoundWrong)

/- THE SECOND FORM. 'bulk': how many values and letters a reading holds, each counted each time it is reached (what is shared counts as often as it is met; a slice's spare places count too). A statement '..UptoSaid' is the law's where the arguments, and the package variables that the reading takes, are together of bulk at most 1048576: NARROWER than '..Said'. Prove '..Said' where nothing that the law and all that it calls make is longer than what came in: it says more and counts as full. Else prove '..UptoSaid'. A law counts once. -/
mutual
def uptoBulk {H : Type} : DataW H → Nat
  | .lit (.string bytes) => bytes.length + 1
  | .lit _ => 1
  | .nil => 1
  | .ptr d => uptoBulk d + 1
  | .slice elems spare => uptoBulkAll elems + uptoBulkAll spare + 1
  | .agg parts => uptoBulkAll parts + 1
  | .iface _ d => uptoBulk d + 1
  | .map entries => uptoBulkEntries entries + 1
  | .held _ => 1
def uptoBulkAll {H : Type} : List (DataW H) → Nat
  | [] => 0
  | d :: r => uptoBulk d + uptoBulkAll r
def uptoBulkEntries {H : Type} : List (Lit × DataW H) → Nat
  | [] => 0
  | x :: r => uptoBulkEntry x + uptoBulkEntries r
def uptoBulkEntry {H : Type} : Lit × DataW H → Nat
  | (.string bytes, d) => bytes.length + uptoBulk d + 1
  | (_, d) => uptoBulk d + 1
 end
def uptoSmall : (H : Type) → List (DataW H) → Bool := fun _ ds => decide (uptoBulkAll ds ≤ 1048576)
def OpenSpec.upto (s : _root_.Go.ChangeSpec) : _root_.Go.OpenSpec := { _root_.Go.OpenSpec.ofChange s with cond := some uptoSmall }

/-- 'flyballlaw16.SpanProducts', WHERE WHAT IT READS IS OF BULK AT MOST 1048576: true; the input reads as it did. -/
def spanProductsUptoRow : OpenClaim := { program := "ytdkbeajkedffeaagreat", sum := "cc342754bcc3413523b274c80a5a5ced098b809efb24b1a7dee2a9c6285bf9f0", func := "flyball/flyballlaw16.SpanProducts", spec := "spanProducts", unfollowed := true, recurses := true, named := ["math/bits.divideError", "math/bits.overflowError"], apart := false, narrowed := true }
def SpanProductsUptoSaid : Prop := spanProductsUptoRow.holds Tryz.pinned (OpenSpec.upto spanProductsSpec)

/-- 'flyballlaw16.SpanSums', WHERE WHAT IT READS IS OF BULK AT MOST 1048576: true; the input reads as it did. -/
def spanSumsUptoRow : OpenClaim := { program := "ytdkbeajkedffeaagreat", sum := "cc342754bcc3413523b274c80a5a5ced098b809efb24b1a7dee2a9c6285bf9f0", func := "flyball/flyballlaw16.SpanSums", spec := "spanSums", inPlace := ["math/bits.Add64", "math/bits.Sub64"], unfollowed := true, recurses := true, named := ["math/bits.divideError", "math/bits.overflowError"], apart := false, narrowed := true }
def SpanSumsUptoSaid : Prop := spanSumsUptoRow.holds Tryz.pinned (OpenSpec.upto spanSumsSpec)

/-- 'flyballlaw16.SpanTight', WHERE WHAT IT READS IS OF BULK AT MOST 1048576: true; the input reads as it did. -/
def spanTightUptoRow : OpenClaim := { program := "ytdkbeajkedffeaagreat", sum := "cc342754bcc3413523b274c80a5a5ced098b809efb24b1a7dee2a9c6285bf9f0", func := "flyball/flyballlaw16.SpanTight", spec := "spanTight", inPlace := ["math/bits.Add64", "math/bits.Sub64"], unfollowed := true, recurses := true, named := ["math/bits.divideError", "math/bits.overflowError"], apart := false, narrowed := true }
def SpanTightUptoSaid : Prop := spanTightUptoRow.holds Tryz.pinned (OpenSpec.upto spanTightSpec)

/-- 'flyballlaw16.SpanSound', WHERE WHAT IT READS IS OF BULK AT MOST 1048576: true; the input reads as it did. -/
def spanSoundUptoRow : OpenClaim := { program := "ytdkbeajkedffeaagreat", sum := "cc342754bcc3413523b274c80a5a5ced098b809efb24b1a7dee2a9c6285bf9f0", func := "flyball/flyballlaw16.SpanSound", spec := "spanSound", inPlace := ["math/bits.Add64", "math/bits.Sub64"], unfollowed := true, recurses := true, named := ["math/bits.divideError", "math/bits.overflowError"], apart := false, narrowed := true }
def SpanSoundUptoSaid : Prop := spanSoundUptoRow.holds Tryz.pinned (OpenSpec.upto spanSoundSpec)

end Rows
end Go.Proofs.YtdkbeajkedffeaaGreat
