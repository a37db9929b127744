/- Proves the statement SlipDivides: no finite slip where the real divisor may be nought: the law of the given program answers true and does not panic, whatever the arguments are that the row allows. Conditions: as the statement has them. -/
import Derived.Test.YtdkbeajkedffeaaGx
import Derived.Test.YtdkbeajkedffeaaGq
import Derived.Test.YtdkbeajkedffeaaTy
namespace Go.Proofs.Ytdkbeajkedffeaa.slipDivides
open Go.Ev Go.Fb Go.ChangeShapes Go.WideShapes Go.ChangeAt Go.RowKit
set_option maxRecDepth 100000 in
theorem lifted (os : Os) (started : os.Started) (H : Type) (enc : TypeId × Value → H) :
    ReturnsInHanded {} Try.checked os 10 .any (Rows.slipDividesSpec.pre6 enc Try.prog Try.f10 Rows.slipDividesRow.domain false) (Rows.slipDividesSpec.post enc Try.prog Try.f10 false true false false) := by
  refine returnsInHanded_of_change (C := Try.checked) own started (by kernel_rfl) Try.func10
    (ChangeSpec.witness6 (enc := enc) (C := Try.checked) false ⟨#[], #[.agg #[.bool false, .int .u64 0, .int .u64 0], .agg #[.bool false, .int .u64 0, .int .u64 0], .int .u64 0, .int .u64 0, .int .u64 0], []⟩ 8 (by kernel_rfl) (by kernel_rfl) (by kernel_rfl) (by kernel_rfl)) ?_
  intro W base args ds gs before hval hW hcnd _
  exact law_contract (A := (aCons cSP (aCons cSP (aCons (cInt .u64) (aCons (cInt .u64) (aOne (cInt .u64))))))) (AOpens.cons opSP (AOpens.cons opSP (AOpens.cons opF (AOpens.cons opF (AOpens.one opF)))) : AOpens Try.prog Try.f10.params.toList _ _) (fun x hx w vs hp => by
      have h := l_SlipDivides_c x (SlipDivides_both (ws_ok hx.1) (ws_ok hx.2.1) (wd_ok hx.2.2.1) (wd_ok hx.2.2.2.1) (wd_ok hx.2.2.2.2)).2 w vs hp
      rwa [(SlipDivides_both (ws_ok hx.1) (ws_ok hx.2.1) (wd_ok hx.2.2.1) (wd_ok hx.2.2.2.1) (wd_ok hx.2.2.2.2)).1] at h) laid (by kernel_rfl) (tb := 4) rfl Try.underlying4 rfl
    (fun ds h => match ds, h with
      | [_, _, _, _, _], _ => rfl) hval hW
theorem k0 : (OpenClaim.wf (OpenSpec.ofChange Rows.slipDividesSpec) Rows.slipDividesRow) = true := by kernel_rfl
theorem k9 : (Rows.slipDividesRow.inPlace == Try.prog.inPlace 10) = true := by kernel_rfl
theorem k10 : (Rows.slipDividesRow.unfollowed == Try.prog.unfollowed 10) = true := by kernel_rfl
theorem k11 : (Rows.slipDividesRow.recurses == Try.prog.recurses 10) = true := by kernel_rfl
theorem k12 : (Rows.slipDividesRow.named == Try.prog.varsNamed 10) = true := by kernel_rfl
theorem k22 : (Rows.slipDividesRow.plainKeys == Try.prog.plainKeys) = true := by kernel_rfl
theorem k26 : (Rows.slipDividesRow.lifted == Try.prog.liftsFinal) = true := by rw [lifts_cut bcut]; rfl
theorem k27 : (Try.prog.make == some Rows.slipDividesRow.make) = true := make_cut bcut
theorem closed : joinedFacts Try.prog 10 Try.f10 Rows.slipDividesSpec Rows.slipDividesRow = true :=
  joined_of k0 laid j2 (by kernel_rfl) (by kernel_rfl) (by kernel_rfl) j6 (by kernel_rfl) j8 k9 k10 k11 k12 (by kernel_rfl) (by kernel_rfl) (by kernel_rfl) (by kernel_rfl) (by kernel_rfl) (by kernel_rfl) (by kernel_rfl) (by kernel_rfl) (by kernel_rfl) k22 (by kernel_rfl) j24 j25 k26 k27 (by kernel_rfl) (by kernel_rfl) (by kernel_rfl) (by kernel_rfl)
theorem over : Rows.slipDividesRow.holds Try.pinned (OpenSpec.ofChange Rows.slipDividesSpec) :=
  OpenClaim.holds_of_wide 10 Try.f10 rfl rfl rfl rfl rfl rfl rfl ⟨rfl, rfl, rfl, rfl, rfl⟩ rfl rfl rfl rfl rfl (by kernel_rfl) Try.func10 closed
    (of_decide_eq_true (by kernel_rfl)) (by unfold Func.isWrapper; first | (rw [if_pos (by decide +kernel)]; kernel_rfl) | (rw [if_neg (by decide +kernel)]; exact ⟨rfl, rfl⟩))
    (fun os started H enc _ => lifted os started H enc)
theorem proved : Rows.SlipDividesSaid :=
  over
end Go.Proofs.Ytdkbeajkedffeaa.slipDivides
