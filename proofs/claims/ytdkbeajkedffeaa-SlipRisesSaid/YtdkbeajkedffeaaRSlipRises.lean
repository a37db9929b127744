/- Proves the statement SlipRises: of greater spans and slips the answer is not less: the law of the given program answers true and does not panic, whatever the arguments are that the row allows. Conditions: as the statement has them. -/
import Derived.Test.YtdkbeajkedffeaaGx
import Derived.Test.YtdkbeajkedffeaaGq
import Derived.Test.YtdkbeajkedffeaaTy
namespace Go.Proofs.Ytdkbeajkedffeaa.slipRises
open Go.Ev Go.Fb Go.ChangeShapes Go.WideShapes Go.ChangeAt Go.RowKit
set_option maxRecDepth 100000 in
theorem lifted (os : Os) (started : os.Started) (H : Type) (enc : TypeId × Value → H) :
    ReturnsInHanded {} Try.checked os 9 .any (Rows.slipRisesSpec.pre6 enc Try.prog Try.f9 Rows.slipRisesRow.domain false) (Rows.slipRisesSpec.post enc Try.prog Try.f9 false true false false) := by
  refine returnsInHanded_of_change (C := Try.checked) own started (by kernel_rfl) Try.func9
    (ChangeSpec.witness6 (enc := enc) (C := Try.checked) false ⟨#[], #[.int .u8 0, .agg #[.bool false, .int .u64 0, .int .u64 0], .agg #[.bool false, .int .u64 0, .int .u64 0], .agg #[.bool false, .int .u64 0, .int .u64 0], .agg #[.bool false, .int .u64 0, .int .u64 0], .int .u64 0, .int .u64 0, .int .u64 0], []⟩ 8 (by kernel_rfl) (by kernel_rfl) (by kernel_rfl) (by kernel_rfl)) ?_
  intro W base args ds gs before hval hW hcnd _
  exact law_contract (A := (aCons (cInt .u8) (aCons cSP (aCons cSP (aCons cSP (aCons cSP (aCons (cInt .u64) (aCons (cInt .u64) (aOne (cInt .u64)))))))))) (AOpens.cons opOp (AOpens.cons opSP (AOpens.cons opSP (AOpens.cons opSP (AOpens.cons opSP (AOpens.cons opF (AOpens.cons opF (AOpens.one opF))))))) : AOpens Try.prog Try.f9.params.toList _ _) (fun x hx w vs hp => by
      have h := l_SlipRises_c x (SlipRises_both (ws_ok hx.2.1) (ws_ok hx.2.2.1) (ws_ok hx.2.2.2.1) (ws_ok hx.2.2.2.2.1) (wd_ok hx.2.2.2.2.2.1) (wd_ok hx.2.2.2.2.2.2.1) (wd_ok hx.2.2.2.2.2.2.2)).2 w vs hp
      rwa [(SlipRises_both (ws_ok hx.2.1) (ws_ok hx.2.2.1) (ws_ok hx.2.2.2.1) (ws_ok hx.2.2.2.2.1) (wd_ok hx.2.2.2.2.2.1) (wd_ok hx.2.2.2.2.2.2.1) (wd_ok hx.2.2.2.2.2.2.2)).1] at h) laid (by kernel_rfl) (tb := 4) rfl Try.underlying4 rfl
    (fun ds h => match ds, h with
      | [_, _, _, _, _, _, _, _], _ => rfl) hval hW
theorem k0 : (OpenClaim.wf (OpenSpec.ofChange Rows.slipRisesSpec) Rows.slipRisesRow) = true := by kernel_rfl
theorem k9 : (Rows.slipRisesRow.inPlace == Try.prog.inPlace 9) = true := by kernel_rfl
theorem k10 : (Rows.slipRisesRow.unfollowed == Try.prog.unfollowed 9) = true := by kernel_rfl
theorem k11 : (Rows.slipRisesRow.recurses == Try.prog.recurses 9) = true := by kernel_rfl
theorem k12 : (Rows.slipRisesRow.named == Try.prog.varsNamed 9) = true := by kernel_rfl
theorem k22 : (Rows.slipRisesRow.plainKeys == Try.prog.plainKeys) = true := by kernel_rfl
theorem k26 : (Rows.slipRisesRow.lifted == Try.prog.liftsFinal) = true := by rw [lifts_cut bcut]; rfl
theorem k27 : (Try.prog.make == some Rows.slipRisesRow.make) = true := make_cut bcut
theorem closed : joinedFacts Try.prog 9 Try.f9 Rows.slipRisesSpec Rows.slipRisesRow = true :=
  joined_of k0 laid j2 (by kernel_rfl) (by kernel_rfl) (by kernel_rfl) j6 (by kernel_rfl) j8 k9 k10 k11 k12 (by kernel_rfl) (by kernel_rfl) (by kernel_rfl) (by kernel_rfl) (by kernel_rfl) (by kernel_rfl) (by kernel_rfl) (by kernel_rfl) (by kernel_rfl) k22 (by kernel_rfl) j24 j25 k26 k27 (by kernel_rfl) (by kernel_rfl) (by kernel_rfl) (by kernel_rfl)
theorem over : Rows.slipRisesRow.holds Try.pinned (OpenSpec.ofChange Rows.slipRisesSpec) :=
  OpenClaim.holds_of_wide 9 Try.f9 rfl rfl rfl rfl rfl rfl rfl ⟨rfl, rfl, rfl, rfl, rfl⟩ rfl rfl rfl rfl rfl (by kernel_rfl) Try.func9 closed
    (of_decide_eq_true (by kernel_rfl)) (by unfold Func.isWrapper; first | (rw [if_pos (by decide +kernel)]; kernel_rfl) | (rw [if_neg (by decide +kernel)]; exact ⟨rfl, rfl⟩))
    (fun os started H enc _ => lifted os started H enc)
theorem proved : Rows.SlipRisesSaid :=
  over
end Go.Proofs.Ytdkbeajkedffeaa.slipRises
