/- Proves the statement SpanMakes: spans are made, asked, joined and met just as the document says: the law of the given program answers true and does not panic, whatever the arguments are that the row allows. Conditions: as the statement has them. -/
import Derived.Test.YtdkbeajkedffeaaFx
import Derived.Test.YtdkbeajkedffeaaFq
import Derived.Test.YtdkbeajkedffeaaTy
namespace Go.Proofs.Ytdkbeajkedffeaa.spanMakes
open Go.Ev Go.Fb Go.ChangeShapes Go.WideShapes Go.ChangeAt Go.RowKit
set_option maxRecDepth 100000 in
theorem lifted (os : Os) (started : os.Started) (H : Type) (enc : TypeId × Value → H) :
    ReturnsInHanded {} Try.checked os 3 .any (Rows.spanMakesSpec.pre6 enc Try.prog Try.f3 Rows.spanMakesRow.domain false) (Rows.spanMakesSpec.post enc Try.prog Try.f3 false true false false) := by
  refine returnsInHanded_of_change (C := Try.checked) own started (by kernel_rfl) Try.func3
    (ChangeSpec.witness6 (enc := enc) (C := Try.checked) false ⟨#[], #[.agg #[.bool false, .int .u64 0, .int .u64 0], .agg #[.bool false, .int .u64 0, .int .u64 0], .int .u64 0], []⟩ 8 (by kernel_rfl) (by kernel_rfl) (by kernel_rfl) (by kernel_rfl)) ?_
  intro W base args ds gs before hval hW hcnd _
  exact law_contract (A := (aCons cSP (aCons cSP (aOne (cInt .u64))))) (AOpens.cons opSP (AOpens.cons opSP (AOpens.one opF)) : AOpens Try.prog Try.f3.params.toList _ _) (fun x hx w vs hp => by
      have h := l_SpanMakes_c x (SpanMakes_both (ws_ok hx.1) (ws_ok hx.2.1) (wd_ok hx.2.2)).2 w vs hp
      rwa [(SpanMakes_both (ws_ok hx.1) (ws_ok hx.2.1) (wd_ok hx.2.2)).1] at h) laid (by kernel_rfl) (tb := 4) rfl Try.underlying4 rfl
    (fun ds h => match ds, h with
      | [_, _, _], _ => rfl) hval hW
theorem k0 : (OpenClaim.wf (OpenSpec.ofChange Rows.spanMakesSpec) Rows.spanMakesRow) = true := by kernel_rfl
theorem k9 : (Rows.spanMakesRow.inPlace == Try.prog.inPlace 3) = true := by kernel_rfl
theorem k10 : (Rows.spanMakesRow.unfollowed == Try.prog.unfollowed 3) = true := by kernel_rfl
theorem k11 : (Rows.spanMakesRow.recurses == Try.prog.recurses 3) = true := by kernel_rfl
theorem k12 : (Rows.spanMakesRow.named == Try.prog.varsNamed 3) = true := by kernel_rfl
theorem k22 : (Rows.spanMakesRow.plainKeys == Try.prog.plainKeys) = true := by kernel_rfl
theorem k26 : (Rows.spanMakesRow.lifted == Try.prog.liftsFinal) = true := by rw [lifts_cut bcut]; rfl
theorem k27 : (Try.prog.make == some Rows.spanMakesRow.make) = true := make_cut bcut
theorem closed : joinedFacts Try.prog 3 Try.f3 Rows.spanMakesSpec Rows.spanMakesRow = true :=
  joined_of k0 laid j2 (by kernel_rfl) (by kernel_rfl) (by kernel_rfl) j6 (by kernel_rfl) j8 k9 k10 k11 k12 (by kernel_rfl) (by kernel_rfl) (by kernel_rfl) (by kernel_rfl) (by kernel_rfl) (by kernel_rfl) (by kernel_rfl) (by kernel_rfl) (by kernel_rfl) k22 (by kernel_rfl) j24 j25 k26 k27 (by kernel_rfl) (by kernel_rfl) (by kernel_rfl) (by kernel_rfl)
theorem over : Rows.spanMakesRow.holds Try.pinned (OpenSpec.ofChange Rows.spanMakesSpec) :=
  OpenClaim.holds_of_wide 3 Try.f3 rfl rfl rfl rfl rfl rfl rfl ⟨rfl, rfl, rfl, rfl, rfl⟩ rfl rfl rfl rfl rfl (by kernel_rfl) Try.func3 closed
    (of_decide_eq_true (by kernel_rfl)) (by unfold Func.isWrapper; first | (rw [if_pos (by decide +kernel)]; kernel_rfl) | (rw [if_neg (by decide +kernel)]; exact ⟨rfl, rfl⟩))
    (fun os started H enc _ => lifted os started H enc)
theorem proved : Rows.SpanMakesSaid :=
  over
end Go.Proofs.Ytdkbeajkedffeaa.spanMakes
