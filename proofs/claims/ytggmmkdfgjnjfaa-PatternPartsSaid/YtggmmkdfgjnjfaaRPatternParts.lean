/- Proves the statement PatternParts: a float splits into its parts and is made of them as the document says: the law of the given program answers true and does not panic, whatever the arguments are that the row allows. Conditions: as the statement has them. -/
import Derived.Test.YtggmmkdfgjnjfaaPx
import Derived.Test.YtggmmkdfgjnjfaaPq
import Derived.Test.YtggmmkdfgjnjfaaTy
namespace Go.Proofs.Ytggmmkdfgjnjfaa.patternParts
open Go.Ev Go.Fb Go.ChangeShapes Go.WideShapes Go.ChangeAt Go.RowKit
set_option maxRecDepth 100000 in
theorem lifted (os : Os) (started : os.Started) (H : Type) (enc : TypeId × Value → H) :
    ReturnsInHanded {} Try.checked os 16 .any (Rows.patternPartsSpec.pre6 enc Try.prog Try.f16 Rows.patternPartsRow.domain false) (Rows.patternPartsSpec.post enc Try.prog Try.f16 false true false false) := by
  refine returnsInHanded_of_change (C := Try.checked) own started (by kernel_rfl) Try.func16
    (ChangeSpec.witness6 (enc := enc) (C := Try.checked) false ⟨#[], #[.int .u64 0, .bool false, .int .i64 0, .int .u64 0], []⟩ 8 (by kernel_rfl) (by kernel_rfl) (by kernel_rfl) (by kernel_rfl)) ?_
  intro W base args ds gs before hval hW hcnd _
  exact law_contract (A := (aCons (cInt .u64) (aCons cBool (aCons (cInt .i64) (aOne (cInt .u64)))))) (AOpens.cons op94 (AOpens.cons op4 (AOpens.cons op3 (AOpens.one op47))) : AOpens Try.prog Try.f16.params.toList _ _) (fun x hx w vs hp => by
      have h := l_PatternParts_c x (PatternParts_both (wd_ok hx.1) (i64_ok hx.2.2.1) (wd_ok hx.2.2.2)).2 w vs hp
      rwa [(PatternParts_both (wd_ok hx.1) (i64_ok hx.2.2.1) (wd_ok hx.2.2.2)).1] at h) laid (by kernel_rfl) (tb := 4) rfl Try.underlying4 rfl
    (fun ds h => match ds, h with
      | [_, _, _, _], _ => rfl) hval hW
theorem k0 : (OpenClaim.wf (OpenSpec.ofChange Rows.patternPartsSpec) Rows.patternPartsRow) = true := by kernel_rfl
theorem k9 : (Rows.patternPartsRow.inPlace == Try.prog.inPlace 16) = true := by kernel_rfl
theorem k10 : (Rows.patternPartsRow.unfollowed == Try.prog.unfollowed 16) = true := by kernel_rfl
theorem k11 : (Rows.patternPartsRow.recurses == Try.prog.recurses 16) = true := by kernel_rfl
theorem k12 : (Rows.patternPartsRow.named == Try.prog.varsNamed 16) = true := by kernel_rfl
theorem k22 : (Rows.patternPartsRow.plainKeys == Try.prog.plainKeys) = true := by kernel_rfl
theorem k26 : (Rows.patternPartsRow.lifted == Try.prog.liftsFinal) = true := by rw [lifts_cut bcut]; rfl
theorem k27 : (Try.prog.make == some Rows.patternPartsRow.make) = true := make_cut bcut
theorem closed : joinedFacts Try.prog 16 Try.f16 Rows.patternPartsSpec Rows.patternPartsRow = true :=
  joined_of k0 laid j2 (by kernel_rfl) (by kernel_rfl) (by kernel_rfl) j6 (by kernel_rfl) j8 k9 k10 k11 k12 (by kernel_rfl) (by kernel_rfl) (by kernel_rfl) (by kernel_rfl) (by kernel_rfl) (by kernel_rfl) (by kernel_rfl) (by kernel_rfl) (by kernel_rfl) k22 (by kernel_rfl) j24 j25 k26 k27 (by kernel_rfl) (by kernel_rfl) (by kernel_rfl) (by kernel_rfl)
theorem over : Rows.patternPartsRow.holds Try.pinned (OpenSpec.ofChange Rows.patternPartsSpec) :=
  OpenClaim.holds_of_wide 16 Try.f16 rfl rfl rfl rfl rfl rfl rfl ⟨rfl, rfl, rfl, rfl, rfl⟩ rfl rfl rfl rfl rfl (by kernel_rfl) Try.func16 closed
    (of_decide_eq_true (by kernel_rfl)) (by unfold Func.isWrapper; first | (rw [if_pos (by decide +kernel)]; kernel_rfl) | (rw [if_neg (by decide +kernel)]; exact ⟨rfl, rfl⟩))
    (fun os started H enc _ => lifted os started H enc)
theorem proved : Rows.PatternPartsSaid :=
  over
end Go.Proofs.Ytggmmkdfgjnjfaa.patternParts
