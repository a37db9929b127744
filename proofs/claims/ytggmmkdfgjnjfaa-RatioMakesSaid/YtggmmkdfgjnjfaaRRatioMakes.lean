/- Proves the statement RatioMakes: fractions are made in lowest terms: the law of the given program answers true and does not panic, whatever the arguments are that the row allows. Conditions: as the statement has them. -/
import Derived.Test.YtggmmkdfgjnjfaaRx
import Derived.Test.YtggmmkdfgjnjfaaRq
import Derived.Test.YtggmmkdfgjnjfaaTy
namespace Go.Proofs.Ytggmmkdfgjnjfaa.ratioMakes
open Go.Ev Go.Fb Go.ChangeShapes Go.WideShapes Go.ChangeAt Go.RowKit
set_option maxRecDepth 100000 in
theorem lifted (os : Os) (started : os.Started) (H : Type) (enc : TypeId × Value → H) :
    ReturnsInHanded {} Try.checked os 13 .any (Rows.ratioMakesSpec.pre6 enc Try.prog Try.f13 Rows.ratioMakesRow.domain false) (Rows.ratioMakesSpec.post enc Try.prog Try.f13 false true false false) := by
  refine returnsInHanded_of_change (C := Try.checked) own started (by kernel_rfl) Try.func13
    (ChangeSpec.witness6 (enc := enc) (C := Try.checked) false ⟨#[], #[.bool false, .slice none 0 0, .slice none 0 0, .int .i64 0, .int .u64 0, .int .i64 0], []⟩ 8 (by kernel_rfl) (by kernel_rfl) (by kernel_rfl) (by kernel_rfl)) ?_
  intro W base args ds gs before hval hW hcnd _
  exact law_contract (A := (aCons cBool (aCons (cInts .u32) (aCons (cInts .u32) (aCons (cInt .i64) (aCons (cInt .u64) (aOne (cInt .i64)))))))) (AOpens.cons op4 (AOpens.cons op23 (AOpens.cons op23 (AOpens.cons op2 (AOpens.cons op47 (AOpens.one op3))))) : AOpens Try.prog Try.f13.params.toList _ _) (fun x hx w vs hp => by
      have h := l_RatioMakes_c x (RatioMakes_both (wds_ok hx.2.1) (wds_ok hx.2.2.1) (i64_ok hx.2.2.2.1) (wd_ok hx.2.2.2.2.1) (i64_ok hx.2.2.2.2.2)).2 w vs hp
      rwa [(RatioMakes_both (wds_ok hx.2.1) (wds_ok hx.2.2.1) (i64_ok hx.2.2.2.1) (wd_ok hx.2.2.2.2.1) (i64_ok hx.2.2.2.2.2)).1] at h) laid (by kernel_rfl) (tb := 4) rfl Try.underlying4 rfl
    (fun ds h => match ds, h with
      | [_, _, _, _, _, _], _ => rfl) hval hW
theorem k0 : (OpenClaim.wf (OpenSpec.ofChange Rows.ratioMakesSpec) Rows.ratioMakesRow) = true := by kernel_rfl
theorem k9 : (Rows.ratioMakesRow.inPlace == Try.prog.inPlace 13) = true := by kernel_rfl
theorem k10 : (Rows.ratioMakesRow.unfollowed == Try.prog.unfollowed 13) = true := by kernel_rfl
theorem k11 : (Rows.ratioMakesRow.recurses == Try.prog.recurses 13) = true := by kernel_rfl
theorem k12 : (Rows.ratioMakesRow.named == Try.prog.varsNamed 13) = true := by kernel_rfl
theorem k22 : (Rows.ratioMakesRow.plainKeys == Try.prog.plainKeys) = true := by kernel_rfl
theorem k26 : (Rows.ratioMakesRow.lifted == Try.prog.liftsFinal) = true := by rw [lifts_cut bcut]; rfl
theorem k27 : (Try.prog.make == some Rows.ratioMakesRow.make) = true := make_cut bcut
theorem closed : joinedFacts Try.prog 13 Try.f13 Rows.ratioMakesSpec Rows.ratioMakesRow = true :=
  joined_of k0 laid j2 (by kernel_rfl) (by kernel_rfl) (by kernel_rfl) j6 (by kernel_rfl) j8 k9 k10 k11 k12 (by kernel_rfl) (by kernel_rfl) (by kernel_rfl) (by kernel_rfl) (by kernel_rfl) (by kernel_rfl) (by kernel_rfl) (by kernel_rfl) (by kernel_rfl) k22 (by kernel_rfl) j24 j25 k26 k27 (by kernel_rfl) (by kernel_rfl) (by kernel_rfl) (by kernel_rfl)
theorem over : Rows.ratioMakesRow.holds Try.pinned (OpenSpec.ofChange Rows.ratioMakesSpec) :=
  OpenClaim.holds_of_wide 13 Try.f13 rfl rfl rfl rfl rfl rfl rfl ⟨rfl, rfl, rfl, rfl, rfl⟩ rfl rfl rfl rfl rfl (by kernel_rfl) Try.func13 closed
    (of_decide_eq_true (by kernel_rfl)) (by unfold Func.isWrapper; first | (rw [if_pos (by decide +kernel)]; kernel_rfl) | (rw [if_neg (by decide +kernel)]; exact ⟨rfl, rfl⟩))
    (fun os started H enc _ => lifted os started H enc)
theorem proved : Rows.RatioMakesSaid :=
  over
end Go.Proofs.Ytggmmkdfgjnjfaa.ratioMakes
