/- Proves the statement PatternSigns: signs are turned, taken away and copied as the document says: the law of the given program answers true and does not panic, whatever the arguments are that the row allows. Conditions: as the statement has them. -/
import Derived.Test.YtggmmkdfgjnjfaaPx
import Derived.Test.YtggmmkdfgjnjfaaPq
import Derived.Test.YtggmmkdfgjnjfaaTy
namespace Go.Proofs.Ytggmmkdfgjnjfaa.patternSigns
open Go.Ev Go.Fb Go.ChangeShapes Go.WideShapes Go.ChangeAt Go.RowKit
set_option maxRecDepth 100000 in
theorem lifted (os : Os) (started : os.Started) (H : Type) (enc : TypeId × Value → H) :
    ReturnsInHanded {} Try.checked os 20 .any (Rows.patternSignsSpec.pre6 enc Try.prog Try.f20 Rows.patternSignsRow.domain false) (Rows.patternSignsSpec.post enc Try.prog Try.f20 false true false false) := by
  refine returnsInHanded_of_change (C := Try.checked) own started (by kernel_rfl) Try.func20
    (ChangeSpec.witness6 (enc := enc) (C := Try.checked) false ⟨#[], #[.int .u64 0], []⟩ 8 (by kernel_rfl) (by kernel_rfl) (by kernel_rfl) (by kernel_rfl)) ?_
  intro W base args ds gs before hval hW hcnd _
  exact law_contract (A := (aOne (cInt .u64))) (AOpens.one op94 : AOpens Try.prog Try.f20.params.toList _ _) (fun x hx w vs hp => by
      have h := l_PatternSigns_c x (PatternSigns_both (wd_ok hx)).2 w vs hp
      rwa [(PatternSigns_both (wd_ok hx)).1] at h) laid (by kernel_rfl) (tb := 4) rfl Try.underlying4 rfl
    (fun ds h => match ds, h with
      | [_], _ => rfl) hval hW
theorem k0 : (OpenClaim.wf (OpenSpec.ofChange Rows.patternSignsSpec) Rows.patternSignsRow) = true := by kernel_rfl
theorem k9 : (Rows.patternSignsRow.inPlace == Try.prog.inPlace 20) = true := by kernel_rfl
theorem k10 : (Rows.patternSignsRow.unfollowed == Try.prog.unfollowed 20) = true := by kernel_rfl
theorem k11 : (Rows.patternSignsRow.recurses == Try.prog.recurses 20) = true := by kernel_rfl
theorem k12 : (Rows.patternSignsRow.named == Try.prog.varsNamed 20) = true := by kernel_rfl
theorem k22 : (Rows.patternSignsRow.plainKeys == Try.prog.plainKeys) = true := by kernel_rfl
theorem k26 : (Rows.patternSignsRow.lifted == Try.prog.liftsFinal) = true := by rw [lifts_cut bcut]; rfl
theorem k27 : (Try.prog.make == some Rows.patternSignsRow.make) = true := make_cut bcut
theorem closed : joinedFacts Try.prog 20 Try.f20 Rows.patternSignsSpec Rows.patternSignsRow = true :=
  joined_of k0 laid j2 (by kernel_rfl) (by kernel_rfl) (by kernel_rfl) j6 (by kernel_rfl) j8 k9 k10 k11 k12 (by kernel_rfl) (by kernel_rfl) (by kernel_rfl) (by kernel_rfl) (by kernel_rfl) (by kernel_rfl) (by kernel_rfl) (by kernel_rfl) (by kernel_rfl) k22 (by kernel_rfl) j24 j25 k26 k27 (by kernel_rfl) (by kernel_rfl) (by kernel_rfl) (by kernel_rfl)
theorem over : Rows.patternSignsRow.holds Try.pinned (OpenSpec.ofChange Rows.patternSignsSpec) :=
  OpenClaim.holds_of_wide 20 Try.f20 rfl rfl rfl rfl rfl rfl rfl ⟨rfl, rfl, rfl, rfl, rfl⟩ rfl rfl rfl rfl rfl (by kernel_rfl) Try.func20 closed
    (of_decide_eq_true (by kernel_rfl)) (by unfold Func.isWrapper; first | (rw [if_pos (by decide +kernel)]; kernel_rfl) | (rw [if_neg (by decide +kernel)]; exact ⟨rfl, rfl⟩))
    (fun os started H enc _ => lifted os started H enc)
theorem proved : Rows.PatternSignsSaid :=
  over
end Go.Proofs.Ytggmmkdfgjnjfaa.patternSigns
