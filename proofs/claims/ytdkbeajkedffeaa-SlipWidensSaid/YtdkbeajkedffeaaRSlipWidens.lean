/- Proves the statement SlipWidens: where a slip goes on to, and the greatest of some, are what the document says: the law of the given program answers true and does not panic, whatever the arguments are that the row allows. Conditions: as the statement has them. -/
import Derived.Test.YtdkbeajkedffeaaGx
import Derived.Test.YtdkbeajkedffeaaGq
import Derived.Test.YtdkbeajkedffeaaTy
namespace Go.Proofs.Ytdkbeajkedffeaa.slipWidens
open Go.Ev Go.Fb Go.ChangeShapes Go.WideShapes Go.ChangeAt Go.RowKit
set_option maxRecDepth 100000 in
theorem lifted (os : Os) (started : os.Started) (H : Type) (enc : TypeId × Value → H) :
    ReturnsInHanded {} Try.checked os 8 .any (Rows.slipWidensSpec.pre6 enc Try.prog Try.f8 Rows.slipWidensRow.domain false) (Rows.slipWidensSpec.post enc Try.prog Try.f8 false true false false) := by
  refine returnsInHanded_of_change (C := Try.checked) own started (by kernel_rfl) Try.func8
    (ChangeSpec.witness6 (enc := enc) (C := Try.checked) false ⟨#[], #[.int .u64 0, .int .u64 0, .slice none 0 0], []⟩ 8 (by kernel_rfl) (by kernel_rfl) (by kernel_rfl) (by kernel_rfl)) ?_
  intro W base args ds gs before hval hW hcnd _
  exact law_contract (A := (aCons (cInt .u64) (aCons (cInt .u64) (aOne (cInts .u64))))) (AOpens.cons opF (AOpens.cons opF (AOpens.one opFs)) : AOpens Try.prog Try.f8.params.toList _ _) (fun x hx w vs hp => by
      have h := l_SlipWidens_c x (SlipWidens_both (wd_ok hx.1) (wd_ok hx.2.1) (wdl_ok hx.2.2)).2 w vs hp
      rwa [(SlipWidens_both (wd_ok hx.1) (wd_ok hx.2.1) (wdl_ok hx.2.2)).1] at h) laid (by kernel_rfl) (tb := 4) rfl Try.underlying4 rfl
    (fun ds h => match ds, h with
      | [_, _, _], _ => rfl) hval hW
theorem k0 : (OpenClaim.wf (OpenSpec.ofChange Rows.slipWidensSpec) Rows.slipWidensRow) = true := by kernel_rfl
theorem k9 : (Rows.slipWidensRow.inPlace == Try.prog.inPlace 8) = true := by kernel_rfl
theorem k10 : (Rows.slipWidensRow.unfollowed == Try.prog.unfollowed 8) = true := by kernel_rfl
theorem k11 : (Rows.slipWidensRow.recurses == Try.prog.recurses 8) = true := by kernel_rfl
theorem k12 : (Rows.slipWidensRow.named == Try.prog.varsNamed 8) = true := by kernel_rfl
theorem k22 : (Rows.slipWidensRow.plainKeys == Try.prog.plainKeys) = true := by kernel_rfl
theorem k26 : (Rows.slipWidensRow.lifted == Try.prog.liftsFinal) = true := by rw [lifts_cut bcut]; rfl
theorem k27 : (Try.prog.make == some Rows.slipWidensRow.make) = true := make_cut bcut
theorem closed : joinedFacts Try.prog 8 Try.f8 Rows.slipWidensSpec Rows.slipWidensRow = true :=
  joined_of k0 laid j2 (by kernel_rfl) (by kernel_rfl) (by kernel_rfl) j6 (by kernel_rfl) j8 k9 k10 k11 k12 (by kernel_rfl) (by kernel_rfl) (by kernel_rfl) (by kernel_rfl) (by kernel_rfl) (by kernel_rfl) (by kernel_rfl) (by kernel_rfl) (by kernel_rfl) k22 (by kernel_rfl) j24 j25 k26 k27 (by kernel_rfl) (by kernel_rfl) (by kernel_rfl) (by kernel_rfl)
theorem over : Rows.slipWidensRow.holds Try.pinned (OpenSpec.ofChange Rows.slipWidensSpec) :=
  OpenClaim.holds_of_wide 8 Try.f8 rfl rfl rfl rfl rfl rfl rfl ⟨rfl, rfl, rfl, rfl, rfl⟩ rfl rfl rfl rfl rfl (by kernel_rfl) Try.func8 closed
    (of_decide_eq_true (by kernel_rfl)) (by unfold Func.isWrapper; first | (rw [if_pos (by decide +kernel)]; kernel_rfl) | (rw [if_neg (by decide +kernel)]; exact ⟨rfl, rfl⟩))
    (fun os started H enc _ => lifted os started H enc)
theorem proved : Rows.SlipWidensSaid :=
  over
end Go.Proofs.Ytdkbeajkedffeaa.slipWidens
