/- Proves the statement SpanSound: what comes of floats is in what comes of their spans: the law of the given program answers true and does not panic, whatever the arguments are that the row allows. Conditions: as the statement has them. -/
import Derived.Test.YtdkbeajkedffeaaGreatFx
import Derived.Test.YtdkbeajkedffeaaGreatFq
import Derived.Test.YtdkbeajkedffeaaGreatTy
namespace Go.Proofs.YtdkbeajkedffeaaGreat.spanSound
open Go.Ev Go.Fb Go.ChangeShapes Go.WideShapes Go.ChangeAt Go.RowKit
set_option maxRecDepth 100000 in
theorem lifted (os : Os) (started : os.Started) (H : Type) (enc : TypeId × Value → H) :
    ReturnsInHanded {} Tryz.checked os 6 .any (Rows.spanSoundSpec.pre6 enc Tryz.prog Tryz.f6 Rows.spanSoundRow.domain false) (Rows.spanSoundSpec.post enc Tryz.prog Tryz.f6 false true false false) := by
  refine returnsInHanded_of_change (C := Tryz.checked) own started (by kernel_rfl) Tryz.func6
    (ChangeSpec.witness6 (enc := enc) (C := Tryz.checked) false ⟨#[], #[.agg #[.bool false, .int .u64 0, .int .u64 0], .agg #[.bool false, .int .u64 0, .int .u64 0], .int .u64 0, .int .u64 0], []⟩ 8 (by kernel_rfl) (by kernel_rfl) (by kernel_rfl) (by kernel_rfl)) ?_
  intro W base args ds gs before hval hW hcnd _
  exact law_contract (A := (aCons cSP (aCons cSP (aCons (cInt .u64) (aOne (cInt .u64)))))) (AOpens.cons opSP (AOpens.cons opSP (AOpens.cons opF (AOpens.one opF))) : AOpens Tryz.prog Tryz.f6.params.toList _ _) (fun x hx w vs hp => by
      have h := l_SpanSound_c x (SpanSound_both (ws_ok hx.1) (ws_ok hx.2.1) (wd_ok hx.2.2.1) (wd_ok hx.2.2.2)).2 w vs hp
      rwa [(SpanSound_both (ws_ok hx.1) (ws_ok hx.2.1) (wd_ok hx.2.2.1) (wd_ok hx.2.2.2)).1] at h) laid (by kernel_rfl) (tb := 4) rfl Tryz.underlying4 rfl
    (fun ds h => match ds, h with
      | [_, _, _, _], _ => rfl) hval hW
theorem k0 : (OpenClaim.wf (OpenSpec.ofChange Rows.spanSoundSpec) Rows.spanSoundRow) = true := by kernel_rfl
theorem k9 : (Rows.spanSoundRow.inPlace == Tryz.prog.inPlace 6) = true := by kernel_rfl
theorem k10 : (Rows.spanSoundRow.unfollowed == Tryz.prog.unfollowed 6) = true := by kernel_rfl
theorem k11 : (Rows.spanSoundRow.recurses == Tryz.prog.recurses 6) = true := by kernel_rfl
theorem k12 : (Rows.spanSoundRow.named == Tryz.prog.varsNamed 6) = true := by kernel_rfl
theorem k22 : (Rows.spanSoundRow.plainKeys == Tryz.prog.plainKeys) = true := by kernel_rfl
theorem k26 : (Rows.spanSoundRow.lifted == Tryz.prog.liftsFinal) = true := by rw [lifts_cut bcut]; rfl
theorem k27 : (Tryz.prog.make == some Rows.spanSoundRow.make) = true := make_cut bcut
theorem closed : joinedFacts Tryz.prog 6 Tryz.f6 Rows.spanSoundSpec Rows.spanSoundRow = true :=
  joined_of k0 laid j2 (by kernel_rfl) (by kernel_rfl) (by kernel_rfl) j6 (by kernel_rfl) j8 k9 k10 k11 k12 (by kernel_rfl) (by kernel_rfl) (by kernel_rfl) (by kernel_rfl) (by kernel_rfl) (by kernel_rfl) (by kernel_rfl) (by kernel_rfl) (by kernel_rfl) k22 (by kernel_rfl) j24 j25 k26 k27 (by kernel_rfl) (by kernel_rfl) (by kernel_rfl) (by kernel_rfl)
theorem over : Rows.spanSoundRow.holds Tryz.pinned (OpenSpec.ofChange Rows.spanSoundSpec) :=
  OpenClaim.holds_of_wide 6 Tryz.f6 rfl rfl rfl rfl rfl rfl rfl ⟨rfl, rfl, rfl, rfl, rfl⟩ rfl rfl rfl rfl rfl (by kernel_rfl) Tryz.func6 closed
    (of_decide_eq_true (by kernel_rfl)) (by unfold Func.isWrapper; first | (rw [if_pos (by decide +kernel)]; kernel_rfl) | (rw [if_neg (by decide +kernel)]; exact ⟨rfl, rfl⟩))
    (fun os started H enc _ => lifted os started H enc)
theorem proved : Rows.SpanSoundSaid :=
  over
end Go.Proofs.YtdkbeajkedffeaaGreat.spanSound
