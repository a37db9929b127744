/- Proves the statement SoftSums: a sum of many is one after the other added: the law of the given program answers true and does not panic, whatever the arguments are that the row allows. Conditions: as the statement has them. -/
import Derived.Test.YtggmmkdfgjnjfaaSx
import Derived.Test.YtggmmkdfgjnjfaaSq
import Derived.Test.YtggmmkdfgjnjfaaTy
namespace Go.Proofs.Ytggmmkdfgjnjfaa.softSums
open Go.Ev Go.Fb Go.ChangeShapes Go.WideShapes Go.ChangeAt Go.RowKit
set_option maxRecDepth 100000 in
theorem lifted (os : Os) (started : os.Started) (H : Type) (enc : TypeId × Value → H) :
    ReturnsInHanded {} Try.checked os 33 .any (Rows.softSumsSpec.pre6 enc Try.prog Try.f33 Rows.softSumsRow.domain false) (Rows.softSumsSpec.post enc Try.prog Try.f33 false true false false) := by
  refine returnsInHanded_of_change (C := Try.checked) own started (by kernel_rfl) Try.func33
    (ChangeSpec.witness6 (enc := enc) (C := Try.checked) false ⟨#[], #[.int .u8 0, .slice none 0 0], []⟩ 8 (by kernel_rfl) (by kernel_rfl) (by kernel_rfl) (by kernel_rfl)) ?_
  intro W base args ds gs before hval hW hcnd _
  exact law_contract (A := (aCons (cInt .u8) (aOne (cInts .u64)))) (AOpens.cons op120 (AOpens.one op114) : AOpens Try.prog Try.f33.params.toList _ _) (fun x hx w vs hp => by
      have h := l_SoftSums_c x (SoftSums_both (wdl_ok hx.2)).2 w vs hp
      rwa [(SoftSums_both (wdl_ok hx.2)).1] at h) laid (by kernel_rfl) (tb := 4) rfl Try.underlying4 rfl
    (fun ds h => match ds, h with
      | [_, _], _ => rfl) hval hW
theorem k0 : (OpenClaim.wf (OpenSpec.ofChange Rows.softSumsSpec) Rows.softSumsRow) = true := by kernel_rfl
theorem k9 : (Rows.softSumsRow.inPlace == Try.prog.inPlace 33) = true := by kernel_rfl
theorem k10 : (Rows.softSumsRow.unfollowed == Try.prog.unfollowed 33) = true := by kernel_rfl
theorem k11 : (Rows.softSumsRow.recurses == Try.prog.recurses 33) = true := by kernel_rfl
theorem k12 : (Rows.softSumsRow.named == Try.prog.varsNamed 33) = true := by kernel_rfl
theorem k22 : (Rows.softSumsRow.plainKeys == Try.prog.plainKeys) = true := by kernel_rfl
theorem k26 : (Rows.softSumsRow.lifted == Try.prog.liftsFinal) = true := by rw [lifts_cut bcut]; rfl
theorem k27 : (Try.prog.make == some Rows.softSumsRow.make) = true := make_cut bcut
theorem closed : joinedFacts Try.prog 33 Try.f33 Rows.softSumsSpec Rows.softSumsRow = true :=
  joined_of k0 laid j2 (by kernel_rfl) (by kernel_rfl) (by kernel_rfl) j6 (by kernel_rfl) j8 k9 k10 k11 k12 (by kernel_rfl) (by kernel_rfl) (by kernel_rfl) (by kernel_rfl) (by kernel_rfl) (by kernel_rfl) (by kernel_rfl) (by kernel_rfl) (by kernel_rfl) k22 (by kernel_rfl) j24 j25 k26 k27 (by kernel_rfl) (by kernel_rfl) (by kernel_rfl) (by kernel_rfl)
theorem over : Rows.softSumsRow.holds Try.pinned (OpenSpec.ofChange Rows.softSumsSpec) :=
  OpenClaim.holds_of_wide 33 Try.f33 rfl rfl rfl rfl rfl rfl rfl ⟨rfl, rfl, rfl, rfl, rfl⟩ rfl rfl rfl rfl rfl (by kernel_rfl) Try.func33 closed
    (of_decide_eq_true (by kernel_rfl)) (by unfold Func.isWrapper; first | (rw [if_pos (by decide +kernel)]; kernel_rfl) | (rw [if_neg (by decide +kernel)]; exact ⟨rfl, rfl⟩))
    (fun os started H enc _ => lifted os started H enc)
theorem proved : Rows.SoftSumsSaid :=
  over
end Go.Proofs.Ytggmmkdfgjnjfaa.softSums
