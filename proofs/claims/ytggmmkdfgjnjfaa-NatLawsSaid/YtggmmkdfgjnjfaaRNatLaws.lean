/- Proves the statement NatLaws: sums and products are as numbers' are: the law of the given program answers true and does not panic, whatever the arguments are that the row allows. Conditions: as the statement has them. -/
import Derived.Test.YtggmmkdfgjnjfaaXl
import Derived.Test.YtggmmkdfgjnjfaaNq
import Derived.Test.YtggmmkdfgjnjfaaTy
namespace Go.Proofs.Ytggmmkdfgjnjfaa.natLaws
open Go.Ev Go.Fb Go.ChangeShapes Go.WideShapes Go.ChangeAt Go.RowKit
set_option maxRecDepth 100000 in
theorem lifted (os : Os) (started : os.Started) (H : Type) (enc : TypeId × Value → H) :
    ReturnsInHanded {} Try.checked os 8 .any (Rows.natLawsSpec.pre6 enc Try.prog Try.f8 Rows.natLawsRow.domain false) (Rows.natLawsSpec.post enc Try.prog Try.f8 false true false false) := by
  refine returnsInHanded_of_change (C := Try.checked) own started (by kernel_rfl) Try.func8
    (ChangeSpec.witness6 (enc := enc) (C := Try.checked) false ⟨#[], #[.slice none 0 0, .slice none 0 0, .slice none 0 0], []⟩ 8 (by kernel_rfl) (by kernel_rfl) (by kernel_rfl) (by kernel_rfl)) ?_
  intro W base args ds gs before hval hW hcnd _
  exact law_contract (A := (aCons (cInts .u32) (aCons (cInts .u32) (aOne (cInts .u32))))) (AOpens.cons op23 (AOpens.cons op23 (AOpens.one op23)) : AOpens Try.prog Try.f8.params.toList _ _) (fun x hx w vs hp => by
      have h := l_NatLaws_c x (NatLaws_both (wds_ok hx.1) (wds_ok hx.2.1) (wds_ok hx.2.2)).2 w vs hp
      rwa [(NatLaws_both (wds_ok hx.1) (wds_ok hx.2.1) (wds_ok hx.2.2)).1] at h) laid (by kernel_rfl) (tb := 4) rfl Try.underlying4 rfl
    (fun ds h => match ds, h with
      | [_, _, _], _ => rfl) hval hW
theorem k0 : (OpenClaim.wf (OpenSpec.ofChange Rows.natLawsSpec) Rows.natLawsRow) = true := by kernel_rfl
theorem k9 : (Rows.natLawsRow.inPlace == Try.prog.inPlace 8) = true := by kernel_rfl
theorem k10 : (Rows.natLawsRow.unfollowed == Try.prog.unfollowed 8) = true := by kernel_rfl
theorem k11 : (Rows.natLawsRow.recurses == Try.prog.recurses 8) = true := by kernel_rfl
theorem k12 : (Rows.natLawsRow.named == Try.prog.varsNamed 8) = true := by kernel_rfl
theorem k22 : (Rows.natLawsRow.plainKeys == Try.prog.plainKeys) = true := by kernel_rfl
theorem k26 : (Rows.natLawsRow.lifted == Try.prog.liftsFinal) = true := by rw [lifts_cut bcut]; rfl
theorem k27 : (Try.prog.make == some Rows.natLawsRow.make) = true := make_cut bcut
theorem closed : joinedFacts Try.prog 8 Try.f8 Rows.natLawsSpec Rows.natLawsRow = true :=
  joined_of k0 laid j2 (by kernel_rfl) (by kernel_rfl) (by kernel_rfl) j6 (by kernel_rfl) j8 k9 k10 k11 k12 (by kernel_rfl) (by kernel_rfl) (by kernel_rfl) (by kernel_rfl) (by kernel_rfl) (by kernel_rfl) (by kernel_rfl) (by kernel_rfl) (by kernel_rfl) k22 (by kernel_rfl) j24 j25 k26 k27 (by kernel_rfl) (by kernel_rfl) (by kernel_rfl) (by kernel_rfl)
theorem over : Rows.natLawsRow.holds Try.pinned (OpenSpec.ofChange Rows.natLawsSpec) :=
  OpenClaim.holds_of_wide 8 Try.f8 rfl rfl rfl rfl rfl rfl rfl ⟨rfl, rfl, rfl, rfl, rfl⟩ rfl rfl rfl rfl rfl (by kernel_rfl) Try.func8 closed
    (of_decide_eq_true (by kernel_rfl)) (by unfold Func.isWrapper; first | (rw [if_pos (by decide +kernel)]; kernel_rfl) | (rw [if_neg (by decide +kernel)]; exact ⟨rfl, rfl⟩))
    (fun os started H enc _ => lifted os started H enc)
theorem proved : Rows.NatLawsSaid :=
  over
end Go.Proofs.Ytggmmkdfgjnjfaa.natLaws
