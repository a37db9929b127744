/- Proves the statement ConvBack: an integer of 32 bits comes back as it was: the law of the given program answers true and does not panic, whatever the arguments are that the row allows. Conditions: as the statement has them. -/
import Derived.Test.YtggmmkdfgjnjfaaCx
import Derived.Test.YtggmmkdfgjnjfaaCq
import Derived.Test.YtggmmkdfgjnjfaaTy
namespace Go.Proofs.Ytggmmkdfgjnjfaa.convBack
open Go.Ev Go.Fb Go.ChangeShapes Go.WideShapes Go.ChangeAt Go.RowKit
set_option maxRecDepth 100000 in
theorem lifted (os : Os) (started : os.Started) (H : Type) (enc : TypeId × Value → H) :
    ReturnsInHanded {} Try.checked os 41 .any (Rows.convBackSpec.pre6 enc Try.prog Try.f41 Rows.convBackRow.domain false) (Rows.convBackSpec.post enc Try.prog Try.f41 false true false false) := by
  refine returnsInHanded_of_change (C := Try.checked) own started (by kernel_rfl) Try.func41
    (ChangeSpec.witness6 (enc := enc) (C := Try.checked) false ⟨#[], #[.int .i32 0, .int .u8 0], []⟩ 8 (by kernel_rfl) (by kernel_rfl) (by kernel_rfl) (by kernel_rfl)) ?_
  intro W base args ds gs before hval hW hcnd _
  exact law_contract (A := (aCons (cInt .i32) (aOne (cInt .u8)))) (AOpens.cons op21 (AOpens.one op120) : AOpens Try.prog Try.f41.params.toList _ _) (fun x hx w vs hp => by
      have h := l_ConvBack_c x (ConvBack_both (i32_ok hx.1)).2 w vs hp
      rwa [(ConvBack_both (i32_ok hx.1)).1] at h) laid (by kernel_rfl) (tb := 4) rfl Try.underlying4 rfl
    (fun ds h => match ds, h with
      | [_, _], _ => rfl) hval hW
theorem k0 : (OpenClaim.wf (OpenSpec.ofChange Rows.convBackSpec) Rows.convBackRow) = true := by kernel_rfl
theorem k9 : (Rows.convBackRow.inPlace == Try.prog.inPlace 41) = true := by kernel_rfl
theorem k10 : (Rows.convBackRow.unfollowed == Try.prog.unfollowed 41) = true := by kernel_rfl
theorem k11 : (Rows.convBackRow.recurses == Try.prog.recurses 41) = true := by kernel_rfl
theorem k12 : (Rows.convBackRow.named == Try.prog.varsNamed 41) = true := by kernel_rfl
theorem k22 : (Rows.convBackRow.plainKeys == Try.prog.plainKeys) = true := by kernel_rfl
theorem k26 : (Rows.convBackRow.lifted == Try.prog.liftsFinal) = true := by rw [lifts_cut bcut]; rfl
theorem k27 : (Try.prog.make == some Rows.convBackRow.make) = true := make_cut bcut
theorem closed : joinedFacts Try.prog 41 Try.f41 Rows.convBackSpec Rows.convBackRow = true :=
  joined_of k0 laid j2 (by kernel_rfl) (by kernel_rfl) (by kernel_rfl) j6 (by kernel_rfl) j8 k9 k10 k11 k12 (by kernel_rfl) (by kernel_rfl) (by kernel_rfl) (by kernel_rfl) (by kernel_rfl) (by kernel_rfl) (by kernel_rfl) (by kernel_rfl) (by kernel_rfl) k22 (by kernel_rfl) j24 j25 k26 k27 (by kernel_rfl) (by kernel_rfl) (by kernel_rfl) (by kernel_rfl)
theorem over : Rows.convBackRow.holds Try.pinned (OpenSpec.ofChange Rows.convBackSpec) :=
  OpenClaim.holds_of_wide 41 Try.f41 rfl rfl rfl rfl rfl rfl rfl ⟨rfl, rfl, rfl, rfl, rfl⟩ rfl rfl rfl rfl rfl (by kernel_rfl) Try.func41 closed
    (of_decide_eq_true (by kernel_rfl)) (by unfold Func.isWrapper; first | (rw [if_pos (by decide +kernel)]; kernel_rfl) | (rw [if_neg (by decide +kernel)]; exact ⟨rfl, rfl⟩))
    (fun os started H enc _ => lifted os started H enc)
theorem proved : Rows.ConvBackSaid :=
  over
end Go.Proofs.Ytggmmkdfgjnjfaa.convBack
