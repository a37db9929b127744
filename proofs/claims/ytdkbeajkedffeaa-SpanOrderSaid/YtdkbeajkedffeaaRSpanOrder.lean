/- Proves the statement SpanOrder: where spans lie in others, what comes of them does so, too: the law of the given program answers true and does not panic, whatever the arguments are that the row allows. Conditions: as the statement has them. -/
import Derived.Test.YtdkbeajkedffeaaFx
import Derived.Test.YtdkbeajkedffeaaFq
import Derived.Test.YtdkbeajkedffeaaTy
namespace Go.Proofs.Ytdkbeajkedffeaa.spanOrder
open Go.Ev Go.Fb Go.ChangeShapes Go.WideShapes Go.ChangeAt Go.RowKit
set_option maxRecDepth 100000 in
theorem lifted (os : Os) (started : os.Started) (H : Type) (enc : TypeId × Value → H) :
    ReturnsInHanded {} Try.checked os 7 .any (Rows.spanOrderSpec.pre6 enc Try.prog Try.f7 Rows.spanOrderRow.domain false) (Rows.spanOrderSpec.post enc Try.prog Try.f7 false true false false) := by
  refine returnsInHanded_of_change (C := Try.checked) own started (by kernel_rfl) Try.func7
    (ChangeSpec.witness6 (enc := enc) (C := Try.checked) false ⟨#[], #[.agg #[.bool false, .int .u64 0, .int .u64 0], .agg #[.bool false, .int .u64 0, .int .u64 0], .agg #[.bool false, .int .u64 0, .int .u64 0], .agg #[.bool false, .int .u64 0, .int .u64 0]], []⟩ 8 (by kernel_rfl) (by kernel_rfl) (by kernel_rfl) (by kernel_rfl)) ?_
  intro W base args ds gs before hval hW hcnd _
  exact law_contract (A := (aCons cSP (aCons cSP (aCons cSP (aOne cSP))))) (AOpens.cons opSP (AOpens.cons opSP (AOpens.cons opSP (AOpens.one opSP))) : AOpens Try.prog Try.f7.params.toList _ _) (fun x hx w vs hp => by
      have h := l_SpanOrder_c x (SpanOrder_both (ws_ok hx.1) (ws_ok hx.2.1) (ws_ok hx.2.2.1) (ws_ok hx.2.2.2)).2 w vs hp
      rwa [(SpanOrder_both (ws_ok hx.1) (ws_ok hx.2.1) (ws_ok hx.2.2.1) (ws_ok hx.2.2.2)).1] at h) laid (by kernel_rfl) (tb := 4) rfl Try.underlying4 rfl
    (fun ds h => match ds, h with
      | [_, _, _, _], _ => rfl) hval hW
theorem k0 : (OpenClaim.wf (OpenSpec.ofChange Rows.spanOrderSpec) Rows.spanOrderRow) = true := by kernel_rfl
theorem k9 : (Rows.spanOrderRow.inPlace == Try.prog.inPlace 7) = true := by kernel_rfl
theorem k10 : (Rows.spanOrderRow.unfollowed == Try.prog.unfollowed 7) = true := by kernel_rfl
theorem k11 : (Rows.spanOrderRow.recurses == Try.prog.recurses 7) = true := by kernel_rfl
theorem k12 : (Rows.spanOrderRow.named == Try.prog.varsNamed 7) = true := by kernel_rfl
theorem k22 : (Rows.spanOrderRow.plainKeys == Try.prog.plainKeys) = true := by kernel_rfl
theorem k26 : (Rows.spanOrderRow.lifted == Try.prog.liftsFinal) = true := by rw [lifts_cut bcut]; rfl
theorem k27 : (Try.prog.make == some Rows.spanOrderRow.make) = true := make_cut bcut
theorem closed : joinedFacts Try.prog 7 Try.f7 Rows.spanOrderSpec Rows.spanOrderRow = true :=
  joined_of k0 laid j2 (by kernel_rfl) (by kernel_rfl) (by kernel_rfl) j6 (by kernel_rfl) j8 k9 k10 k11 k12 (by kernel_rfl) (by kernel_rfl) (by kernel_rfl) (by kernel_rfl) (by kernel_rfl) (by kernel_rfl) (by kernel_rfl) (by kernel_rfl) (by kernel_rfl) k22 (by kernel_rfl) j24 j25 k26 k27 (by kernel_rfl) (by kernel_rfl) (by kernel_rfl) (by kernel_rfl)
theorem over : Rows.spanOrderRow.holds Try.pinned (OpenSpec.ofChange Rows.spanOrderSpec) :=
  OpenClaim.holds_of_wide 7 Try.f7 rfl rfl rfl rfl rfl rfl rfl ⟨rfl, rfl, rfl, rfl, rfl⟩ rfl rfl rfl rfl rfl (by kernel_rfl) Try.func7 closed
    (of_decide_eq_true (by kernel_rfl)) (by unfold Func.isWrapper; first | (rw [if_pos (by decide +kernel)]; kernel_rfl) | (rw [if_neg (by decide +kernel)]; exact ⟨rfl, rfl⟩))
    (fun os started H enc _ => lifted os started H enc)
theorem proved : Rows.SpanOrderSaid :=
  over
end Go.Proofs.Ytdkbeajkedffeaa.spanOrder
