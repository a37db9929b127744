/- Proves the statement ConvWhole: a float is rounded to a whole number as the document says: the law of the given program answers true and does not panic, whatever the arguments are that the row allows. Conditions: as the statement has them. -/
import Derived.Test.YtggmmkdfgjnjfaaCx
import Derived.Test.YtggmmkdfgjnjfaaCq
import Derived.Test.YtggmmkdfgjnjfaaTy
namespace Go.Proofs.Ytggmmkdfgjnjfaa.convWhole
open Go.Ev Go.Fb Go.ChangeShapes Go.WideShapes Go.ChangeAt Go.RowKit
set_option maxRecDepth 100000 in
theorem lifted (os : Os) (started : os.Started) (H : Type) (enc : TypeId × Value → H) :
    ReturnsInHanded {} Try.checked os 40 .any (Rows.convWholeSpec.pre6 enc Try.prog Try.f40 Rows.convWholeRow.domain false) (Rows.convWholeSpec.post enc Try.prog Try.f40 false true false false) := by
  refine returnsInHanded_of_change (C := Try.checked) own started (by kernel_rfl) Try.func40
    (ChangeSpec.witness6 (enc := enc) (C := Try.checked) false ⟨#[], #[.int .u64 0, .int .u8 0], []⟩ 8 (by kernel_rfl) (by kernel_rfl) (by kernel_rfl) (by kernel_rfl)) ?_
  intro W base args ds gs before hval hW hcnd _
  exact law_contract (A := (aCons (cInt .u64) (aOne (cInt .u8)))) (AOpens.cons op94 (AOpens.one op120) : AOpens Try.prog Try.f40.params.toList _ _) (fun x hx w vs hp => by
      have h := l_ConvWhole_c x (ConvWhole_both (wd_ok hx.1)).2 w vs hp
      rwa [(ConvWhole_both (wd_ok hx.1)).1] at h) laid (by kernel_rfl) (tb := 4) rfl Try.underlying4 rfl
    (fun ds h => match ds, h with
      | [_, _], _ => rfl) hval hW
theorem k0 : (OpenClaim.wf (OpenSpec.ofChange Rows.convWholeSpec) Rows.convWholeRow) = true := by kernel_rfl
theorem k9 : (Rows.convWholeRow.inPlace == Try.prog.inPlace 40) = true := by kernel_rfl
theorem k10 : (Rows.convWholeRow.unfollowed == Try.prog.unfollowed 40) = true := by kernel_rfl
theorem k11 : (Rows.convWholeRow.recurses == Try.prog.recurses 40) = true := by kernel_rfl
theorem k12 : (Rows.convWholeRow.named == Try.prog.varsNamed 40) = true := by kernel_rfl
theorem k22 : (Rows.convWholeRow.plainKeys == Try.prog.plainKeys) = true := by kernel_rfl
theorem k26 : (Rows.convWholeRow.lifted == Try.prog.liftsFinal) = true := by rw [lifts_cut bcut]; rfl
theorem k27 : (Try.prog.make == some Rows.convWholeRow.make) = true := make_cut bcut
theorem closed : joinedFacts Try.prog 40 Try.f40 Rows.convWholeSpec Rows.convWholeRow = true :=
  joined_of k0 laid j2 (by kernel_rfl) (by kernel_rfl) (by kernel_rfl) j6 (by kernel_rfl) j8 k9 k10 k11 k12 (by kernel_rfl) (by kernel_rfl) (by kernel_rfl) (by kernel_rfl) (by kernel_rfl) (by kernel_rfl) (by kernel_rfl) (by kernel_rfl) (by kernel_rfl) k22 (by kernel_rfl) j24 j25 k26 k27 (by kernel_rfl) (by kernel_rfl) (by kernel_rfl) (by kernel_rfl)
theorem over : Rows.convWholeRow.holds Try.pinned (OpenSpec.ofChange Rows.convWholeSpec) :=
  OpenClaim.holds_of_wide 40 Try.f40 rfl rfl rfl rfl rfl rfl rfl ⟨rfl, rfl, rfl, rfl, rfl⟩ rfl rfl rfl rfl rfl (by kernel_rfl) Try.func40 closed
    (of_decide_eq_true (by kernel_rfl)) (by unfold Func.isWrapper; first | (rw [if_pos (by decide +kernel)]; kernel_rfl) | (rw [if_neg (by decide +kernel)]; exact ⟨rfl, rfl⟩))
    (fun os started H enc _ => lifted os started H enc)
theorem proved : Rows.ConvWholeSaid :=
  over
end Go.Proofs.Ytggmmkdfgjnjfaa.convWhole
