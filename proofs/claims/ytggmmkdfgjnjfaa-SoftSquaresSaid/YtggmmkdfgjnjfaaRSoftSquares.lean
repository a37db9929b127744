/- Proves the statement SoftSquares: a root's square lies where it should: the law of the given program answers true and does not panic, whatever the arguments are that the row allows. Conditions: as the statement has them. -/
import Derived.Test.YtggmmkdfgjnjfaaSx
import Derived.Test.YtggmmkdfgjnjfaaSq
import Derived.Test.YtggmmkdfgjnjfaaTy
namespace Go.Proofs.Ytggmmkdfgjnjfaa.softSquares
open Go.Ev Go.Fb Go.ChangeShapes Go.WideShapes Go.ChangeAt Go.RowKit
set_option maxRecDepth 100000 in
theorem lifted (os : Os) (started : os.Started) (H : Type) (enc : TypeId × Value → H) :
    ReturnsInHanded {} Try.checked os 36 .any (Rows.softSquaresSpec.pre6 enc Try.prog Try.f36 Rows.softSquaresRow.domain false) (Rows.softSquaresSpec.post enc Try.prog Try.f36 false true false false) := by
  refine returnsInHanded_of_change (C := Try.checked) own started (by kernel_rfl) Try.func36
    (ChangeSpec.witness6 (enc := enc) (C := Try.checked) false ⟨#[], #[.int .u64 0], []⟩ 8 (by kernel_rfl) (by kernel_rfl) (by kernel_rfl) (by kernel_rfl)) ?_
  intro W base args ds gs before hval hW hcnd _
  exact law_contract (A := (aOne (cInt .u64))) (AOpens.one op94 : AOpens Try.prog Try.f36.params.toList _ _) (fun x hx w vs hp => by
      have h := l_SoftSquares_c x (SoftSquares_both (wd_ok hx)).2 w vs hp
      rwa [(SoftSquares_both (wd_ok hx)).1] at h) laid (by kernel_rfl) (tb := 4) rfl Try.underlying4 rfl
    (fun ds h => match ds, h with
      | [_], _ => rfl) hval hW
theorem k0 : (OpenClaim.wf (OpenSpec.ofChange Rows.softSquaresSpec) Rows.softSquaresRow) = true := by kernel_rfl
theorem k9 : (Rows.softSquaresRow.inPlace == Try.prog.inPlace 36) = true := by kernel_rfl
theorem k10 : (Rows.softSquaresRow.unfollowed == Try.prog.unfollowed 36) = true := by kernel_rfl
theorem k11 : (Rows.softSquaresRow.recurses == Try.prog.recurses 36) = true := by kernel_rfl
theorem k12 : (Rows.softSquaresRow.named == Try.prog.varsNamed 36) = true := by kernel_rfl
theorem k22 : (Rows.softSquaresRow.plainKeys == Try.prog.plainKeys) = true := by kernel_rfl
theorem k26 : (Rows.softSquaresRow.lifted == Try.prog.liftsFinal) = true := by rw [lifts_cut bcut]; rfl
theorem k27 : (Try.prog.make == some Rows.softSquaresRow.make) = true := make_cut bcut
theorem closed : joinedFacts Try.prog 36 Try.f36 Rows.softSquaresSpec Rows.softSquaresRow = true :=
  joined_of k0 laid j2 (by kernel_rfl) (by kernel_rfl) (by kernel_rfl) j6 (by kernel_rfl) j8 k9 k10 k11 k12 (by kernel_rfl) (by kernel_rfl) (by kernel_rfl) (by kernel_rfl) (by kernel_rfl) (by kernel_rfl) (by kernel_rfl) (by kernel_rfl) (by kernel_rfl) k22 (by kernel_rfl) j24 j25 k26 k27 (by kernel_rfl) (by kernel_rfl) (by kernel_rfl) (by kernel_rfl)
theorem over : Rows.softSquaresRow.holds Try.pinned (OpenSpec.ofChange Rows.softSquaresSpec) :=
  OpenClaim.holds_of_wide 36 Try.f36 rfl rfl rfl rfl rfl rfl rfl ⟨rfl, rfl, rfl, rfl, rfl⟩ rfl rfl rfl rfl rfl (by kernel_rfl) Try.func36 closed
    (of_decide_eq_true (by kernel_rfl)) (by unfold Func.isWrapper; first | (rw [if_pos (by decide +kernel)]; kernel_rfl) | (rw [if_neg (by decide +kernel)]; exact ⟨rfl, rfl⟩))
    (fun os started H enc _ => lifted os started H enc)
theorem proved : Rows.SoftSquaresSaid :=
  over
end Go.Proofs.Ytggmmkdfgjnjfaa.softSquares
