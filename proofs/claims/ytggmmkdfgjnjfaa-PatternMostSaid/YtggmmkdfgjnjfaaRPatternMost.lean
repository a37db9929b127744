/- Proves the statement PatternMost: the greatest and the least of some floats are what the document says: the law of the given program answers true and does not panic, whatever the arguments are that the row allows. Conditions: as the statement has them. -/
import Derived.Test.YtggmmkdfgjnjfaaPx
import Derived.Test.YtggmmkdfgjnjfaaPq
import Derived.Test.YtggmmkdfgjnjfaaTy
namespace Go.Proofs.Ytggmmkdfgjnjfaa.patternMost
open Go.Ev Go.Fb Go.ChangeShapes Go.WideShapes Go.ChangeAt Go.RowKit
set_option maxRecDepth 100000 in
theorem lifted (os : Os) (started : os.Started) (H : Type) (enc : TypeId × Value → H) :
    ReturnsInHanded {} Try.checked os 21 .any (Rows.patternMostSpec.pre6 enc Try.prog Try.f21 Rows.patternMostRow.domain false) (Rows.patternMostSpec.post enc Try.prog Try.f21 false true false false) := by
  refine returnsInHanded_of_change (C := Try.checked) own started (by kernel_rfl) Try.func21
    (ChangeSpec.witness6 (enc := enc) (C := Try.checked) false ⟨#[], #[.slice none 0 0], []⟩ 8 (by kernel_rfl) (by kernel_rfl) (by kernel_rfl) (by kernel_rfl)) ?_
  intro W base args ds gs before hval hW hcnd _
  exact law_contract (A := (aOne (cInts .u64))) (AOpens.one op114 : AOpens Try.prog Try.f21.params.toList _ _) (fun x hx w vs hp => by
      have h := l_PatternMost_c x (PatternMost_both (wdl_ok hx) (wdl_len hx)).2 w vs hp
      rwa [(PatternMost_both (wdl_ok hx) (wdl_len hx)).1] at h) laid (by kernel_rfl) (tb := 4) rfl Try.underlying4 rfl
    (fun ds h => match ds, h with
      | [_], _ => rfl) hval hW
theorem k0 : (OpenClaim.wf (OpenSpec.ofChange Rows.patternMostSpec) Rows.patternMostRow) = true := by kernel_rfl
theorem k9 : (Rows.patternMostRow.inPlace == Try.prog.inPlace 21) = true := by kernel_rfl
theorem k10 : (Rows.patternMostRow.unfollowed == Try.prog.unfollowed 21) = true := by kernel_rfl
theorem k11 : (Rows.patternMostRow.recurses == Try.prog.recurses 21) = true := by kernel_rfl
theorem k12 : (Rows.patternMostRow.named == Try.prog.varsNamed 21) = true := by kernel_rfl
theorem k22 : (Rows.patternMostRow.plainKeys == Try.prog.plainKeys) = true := by kernel_rfl
theorem k26 : (Rows.patternMostRow.lifted == Try.prog.liftsFinal) = true := by rw [lifts_cut bcut]; rfl
theorem k27 : (Try.prog.make == some Rows.patternMostRow.make) = true := make_cut bcut
theorem closed : joinedFacts Try.prog 21 Try.f21 Rows.patternMostSpec Rows.patternMostRow = true :=
  joined_of k0 laid j2 (by kernel_rfl) (by kernel_rfl) (by kernel_rfl) j6 (by kernel_rfl) j8 k9 k10 k11 k12 (by kernel_rfl) (by kernel_rfl) (by kernel_rfl) (by kernel_rfl) (by kernel_rfl) (by kernel_rfl) (by kernel_rfl) (by kernel_rfl) (by kernel_rfl) k22 (by kernel_rfl) j24 j25 k26 k27 (by kernel_rfl) (by kernel_rfl) (by kernel_rfl) (by kernel_rfl)
theorem over : Rows.patternMostRow.holds Try.pinned (OpenSpec.ofChange Rows.patternMostSpec) :=
  OpenClaim.holds_of_wide 21 Try.f21 rfl rfl rfl rfl rfl rfl rfl ⟨rfl, rfl, rfl, rfl, rfl⟩ rfl rfl rfl rfl rfl (by kernel_rfl) Try.func21 closed
    (of_decide_eq_true (by kernel_rfl)) (by unfold Func.isWrapper; first | (rw [if_pos (by decide +kernel)]; kernel_rfl) | (rw [if_neg (by decide +kernel)]; exact ⟨rfl, rfl⟩))
    (fun os started H enc _ => lifted os started H enc)
theorem proved : Rows.PatternMostSaid :=
  over
end Go.Proofs.Ytggmmkdfgjnjfaa.patternMost
