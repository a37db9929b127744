/- Proves the statement RatioAdds: sums and differences of fractions are what the document says, in lowest terms: the law of the given program answers true and does not panic, whatever the arguments are that the row allows. Conditions: as the statement has them. -/
import Derived.Test.YtggmmkdfgjnjfaaRx
import Derived.Test.YtggmmkdfgjnjfaaRq
import Derived.Test.YtggmmkdfgjnjfaaTy
namespace Go.Proofs.Ytggmmkdfgjnjfaa.ratioAdds
open Go.Ev Go.Fb Go.ChangeShapes Go.WideShapes Go.ChangeAt Go.RowKit
set_option maxRecDepth 100000 in
theorem lifted (os : Os) (started : os.Started) (H : Type) (enc : TypeId × Value → H) :
    ReturnsInHanded {} Try.checked os 10 .any (Rows.ratioAddsSpec.pre6 enc Try.prog Try.f10 Rows.ratioAddsRow.domain false) (Rows.ratioAddsSpec.post enc Try.prog Try.f10 false true false false) := by
  refine returnsInHanded_of_change (C := Try.checked) own started (by kernel_rfl) Try.func10
    (ChangeSpec.witness6 (enc := enc) (C := Try.checked) false ⟨#[], #[.agg #[.bool false, .slice none 0 0, .slice none 0 0], .agg #[.bool false, .slice none 0 0, .slice none 0 0]], []⟩ 8 (by kernel_rfl) (by kernel_rfl) (by kernel_rfl) (by kernel_rfl)) ?_
  intro W base args ds gs before hval hW hcnd _
  exact law_contract (A := (aCons cRR (aOne cRR))) (AOpens.cons op68 (AOpens.one op68) : AOpens Try.prog Try.f10.params.toList _ _) (fun x hx w vs hp => by
      have h := l_RatioAdds_c x (RatioAdds_both (wr_ok hx.1) (wr_ok hx.2)).2 w vs hp
      rwa [(RatioAdds_both (wr_ok hx.1) (wr_ok hx.2)).1] at h) laid (by kernel_rfl) (tb := 4) rfl Try.underlying4 rfl
    (fun ds h => match ds, h with
      | [_, _], _ => rfl) hval hW
theorem k0 : (OpenClaim.wf (OpenSpec.ofChange Rows.ratioAddsSpec) Rows.ratioAddsRow) = true := by kernel_rfl
theorem k9 : (Rows.ratioAddsRow.inPlace == Try.prog.inPlace 10) = true := by kernel_rfl
theorem k10 : (Rows.ratioAddsRow.unfollowed == Try.prog.unfollowed 10) = true := by kernel_rfl
theorem k11 : (Rows.ratioAddsRow.recurses == Try.prog.recurses 10) = true := by kernel_rfl
theorem k12 : (Rows.ratioAddsRow.named == Try.prog.varsNamed 10) = true := by kernel_rfl
theorem k22 : (Rows.ratioAddsRow.plainKeys == Try.prog.plainKeys) = true := by kernel_rfl
theorem k26 : (Rows.ratioAddsRow.lifted == Try.prog.liftsFinal) = true := by rw [lifts_cut bcut]; rfl
theorem k27 : (Try.prog.make == some Rows.ratioAddsRow.make) = true := make_cut bcut
theorem closed : joinedFacts Try.prog 10 Try.f10 Rows.ratioAddsSpec Rows.ratioAddsRow = true :=
  joined_of k0 laid j2 (by kernel_rfl) (by kernel_rfl) (by kernel_rfl) j6 (by kernel_rfl) j8 k9 k10 k11 k12 (by kernel_rfl) (by kernel_rfl) (by kernel_rfl) (by kernel_rfl) (by kernel_rfl) (by kernel_rfl) (by kernel_rfl) (by kernel_rfl) (by kernel_rfl) k22 (by kernel_rfl) j24 j25 k26 k27 (by kernel_rfl) (by kernel_rfl) (by kernel_rfl) (by kernel_rfl)
theorem over : Rows.ratioAddsRow.holds Try.pinned (OpenSpec.ofChange Rows.ratioAddsSpec) :=
  OpenClaim.holds_of_wide 10 Try.f10 rfl rfl rfl rfl rfl rfl rfl ⟨rfl, rfl, rfl, rfl, rfl⟩ rfl rfl rfl rfl rfl (by kernel_rfl) Try.func10 closed
    (of_decide_eq_true (by kernel_rfl)) (by unfold Func.isWrapper; first | (rw [if_pos (by decide +kernel)]; kernel_rfl) | (rw [if_neg (by decide +kernel)]; exact ⟨rfl, rfl⟩))
    (fun os started H enc _ => lifted os started H enc)
theorem proved : Rows.RatioAddsSaid :=
  over
end Go.Proofs.Ytggmmkdfgjnjfaa.ratioAdds
