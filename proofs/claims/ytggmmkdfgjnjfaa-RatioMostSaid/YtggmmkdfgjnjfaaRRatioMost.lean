/- Proves the statement RatioMost: the greatest of some fractions is one of them, and none is above: the law of the given program answers true and does not panic, whatever the arguments are that the row allows. Conditions: as the statement has them. -/
import Derived.Test.YtggmmkdfgjnjfaaRx
import Derived.Test.YtggmmkdfgjnjfaaRq
import Derived.Test.YtggmmkdfgjnjfaaTy
namespace Go.Proofs.Ytggmmkdfgjnjfaa.ratioMost
open Go.Ev Go.Fb Go.ChangeShapes Go.WideShapes Go.ChangeAt Go.RowKit
set_option maxRecDepth 100000 in
theorem lifted (os : Os) (started : os.Started) (H : Type) (enc : TypeId × Value → H) :
    ReturnsInHanded {} Try.checked os 15 .any (Rows.ratioMostSpec.pre6 enc Try.prog Try.f15 Rows.ratioMostRow.domain false) (Rows.ratioMostSpec.post enc Try.prog Try.f15 false true false false) := by
  refine returnsInHanded_of_change (C := Try.checked) own started (by kernel_rfl) Try.func15
    (ChangeSpec.witness6 (enc := enc) (C := Try.checked) false ⟨#[], #[.slice none 0 0], []⟩ 8 (by kernel_rfl) (by kernel_rfl) (by kernel_rfl) (by kernel_rfl)) ?_
  intro W base args ds gs before hval hW hcnd _
  exact law_contract (A := (aOne (cRow [.bool, .ints .u32, .ints .u32]))) (AOpens.one op91 : AOpens Try.prog Try.f15.params.toList _ _) (fun x hx w vs hp => by
      have h := l_RatioMost_c x (RatioMost_both (rl_ok hx.2) hx.1).2 w vs hp
      rwa [(RatioMost_both (rl_ok hx.2) hx.1).1] at h) laid (by kernel_rfl) (tb := 4) rfl Try.underlying4 rfl
    (fun ds h => match ds, h with
      | [_], _ => rfl) hval hW
theorem k0 : (OpenClaim.wf (OpenSpec.ofChange Rows.ratioMostSpec) Rows.ratioMostRow) = true := by kernel_rfl
theorem k9 : (Rows.ratioMostRow.inPlace == Try.prog.inPlace 15) = true := by kernel_rfl
theorem k10 : (Rows.ratioMostRow.unfollowed == Try.prog.unfollowed 15) = true := by kernel_rfl
theorem k11 : (Rows.ratioMostRow.recurses == Try.prog.recurses 15) = true := by kernel_rfl
theorem k12 : (Rows.ratioMostRow.named == Try.prog.varsNamed 15) = true := by kernel_rfl
theorem k22 : (Rows.ratioMostRow.plainKeys == Try.prog.plainKeys) = true := by kernel_rfl
theorem k26 : (Rows.ratioMostRow.lifted == Try.prog.liftsFinal) = true := by rw [lifts_cut bcut]; rfl
theorem k27 : (Try.prog.make == some Rows.ratioMostRow.make) = true := make_cut bcut
theorem closed : joinedFacts Try.prog 15 Try.f15 Rows.ratioMostSpec Rows.ratioMostRow = true :=
  joined_of k0 laid j2 (by kernel_rfl) (by kernel_rfl) (by kernel_rfl) j6 (by kernel_rfl) j8 k9 k10 k11 k12 (by kernel_rfl) (by kernel_rfl) (by kernel_rfl) (by kernel_rfl) (by kernel_rfl) (by kernel_rfl) (by kernel_rfl) (by kernel_rfl) (by kernel_rfl) k22 (by kernel_rfl) j24 j25 k26 k27 (by kernel_rfl) (by kernel_rfl) (by kernel_rfl) (by kernel_rfl)
theorem over : Rows.ratioMostRow.holds Try.pinned (OpenSpec.ofChange Rows.ratioMostSpec) :=
  OpenClaim.holds_of_wide 15 Try.f15 rfl rfl rfl rfl rfl rfl rfl ⟨rfl, rfl, rfl, rfl, rfl⟩ rfl rfl rfl rfl rfl (by kernel_rfl) Try.func15 closed
    (of_decide_eq_true (by kernel_rfl)) (by unfold Func.isWrapper; first | (rw [if_pos (by decide +kernel)]; kernel_rfl) | (rw [if_neg (by decide +kernel)]; exact ⟨rfl, rfl⟩))
    (fun os started H enc _ => lifted os started H enc)
theorem proved : Rows.RatioMostSaid :=
  over
end Go.Proofs.Ytggmmkdfgjnjfaa.ratioMost
