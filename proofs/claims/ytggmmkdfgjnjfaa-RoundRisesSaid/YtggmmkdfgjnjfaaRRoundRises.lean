/- Proves the statement RoundRises: what is greater is not rounded to less: the law of the given program answers true and does not panic, whatever the arguments are that the row allows. Conditions: as the statement has them. -/
import Derived.Test.YtggmmkdfgjnjfaaUx
import Derived.Test.YtggmmkdfgjnjfaaUq
import Derived.Test.YtggmmkdfgjnjfaaTy
namespace Go.Proofs.Ytggmmkdfgjnjfaa.roundRises
open Go.Ev Go.Fb Go.ChangeShapes Go.WideShapes Go.ChangeAt Go.RowKit
set_option maxRecDepth 100000 in
theorem lifted (os : Os) (started : os.Started) (H : Type) (enc : TypeId × Value → H) :
    ReturnsInHanded {} Try.checked os 27 .any (Rows.roundRisesSpec.pre6 enc Try.prog Try.f27 Rows.roundRisesRow.domain false) (Rows.roundRisesSpec.post enc Try.prog Try.f27 false true false false) := by
  refine returnsInHanded_of_change (C := Try.checked) own started (by kernel_rfl) Try.func27
    (ChangeSpec.witness6 (enc := enc) (C := Try.checked) false ⟨#[], #[.agg #[.bool false, .slice none 0 0, .slice none 0 0], .agg #[.bool false, .slice none 0 0, .slice none 0 0], .int .u8 0], []⟩ 8 (by kernel_rfl) (by kernel_rfl) (by kernel_rfl) (by kernel_rfl)) ?_
  intro W base args ds gs before hval hW hcnd _
  exact law_contract (A := (aCons cRR (aCons cRR (aOne (cInt .u8))))) (AOpens.cons op68 (AOpens.cons op68 (AOpens.one op120)) : AOpens Try.prog Try.f27.params.toList _ _) (fun x hx w vs hp => by
      have h := l_RoundRises_c x (RoundRises_both (wr_ok hx.1).1 (wr_ok hx.1).2 (wr_ok hx.2.1).1 (wr_ok hx.2.1).2).2 w vs hp
      rwa [(RoundRises_both (wr_ok hx.1).1 (wr_ok hx.1).2 (wr_ok hx.2.1).1 (wr_ok hx.2.1).2).1] at h) laid (by kernel_rfl) (tb := 4) rfl Try.underlying4 rfl
    (fun ds h => match ds, h with
      | [_, _, _], _ => rfl) hval hW
theorem k0 : (OpenClaim.wf (OpenSpec.ofChange Rows.roundRisesSpec) Rows.roundRisesRow) = true := by kernel_rfl
theorem k9 : (Rows.roundRisesRow.inPlace == Try.prog.inPlace 27) = true := by kernel_rfl
theorem k10 : (Rows.roundRisesRow.unfollowed == Try.prog.unfollowed 27) = true := by kernel_rfl
theorem k11 : (Rows.roundRisesRow.recurses == Try.prog.recurses 27) = true := by kernel_rfl
theorem k12 : (Rows.roundRisesRow.named == Try.prog.varsNamed 27) = true := by kernel_rfl
theorem k22 : (Rows.roundRisesRow.plainKeys == Try.prog.plainKeys) = true := by kernel_rfl
theorem k26 : (Rows.roundRisesRow.lifted == Try.prog.liftsFinal) = true := by rw [lifts_cut bcut]; rfl
theorem k27 : (Try.prog.make == some Rows.roundRisesRow.make) = true := make_cut bcut
theorem closed : joinedFacts Try.prog 27 Try.f27 Rows.roundRisesSpec Rows.roundRisesRow = true :=
  joined_of k0 laid j2 (by kernel_rfl) (by kernel_rfl) (by kernel_rfl) j6 (by kernel_rfl) j8 k9 k10 k11 k12 (by kernel_rfl) (by kernel_rfl) (by kernel_rfl) (by kernel_rfl) (by kernel_rfl) (by kernel_rfl) (by kernel_rfl) (by kernel_rfl) (by kernel_rfl) k22 (by kernel_rfl) j24 j25 k26 k27 (by kernel_rfl) (by kernel_rfl) (by kernel_rfl) (by kernel_rfl)
theorem over : Rows.roundRisesRow.holds Try.pinned (OpenSpec.ofChange Rows.roundRisesSpec) :=
  OpenClaim.holds_of_wide 27 Try.f27 rfl rfl rfl rfl rfl rfl rfl ⟨rfl, rfl, rfl, rfl, rfl⟩ rfl rfl rfl rfl rfl (by kernel_rfl) Try.func27 closed
    (of_decide_eq_true (by kernel_rfl)) (by unfold Func.isWrapper; first | (rw [if_pos (by decide +kernel)]; kernel_rfl) | (rw [if_neg (by decide +kernel)]; exact ⟨rfl, rfl⟩))
    (fun os started H enc _ => lifted os started H enc)
theorem proved : Rows.RoundRisesSaid :=
  over
end Go.Proofs.Ytggmmkdfgjnjfaa.roundRises
