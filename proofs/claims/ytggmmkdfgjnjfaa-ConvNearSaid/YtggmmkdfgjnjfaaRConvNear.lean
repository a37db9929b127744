/- Proves the statement ConvNear: what a float is as an integer is near it: the law of the given program answers true and does not panic, whatever the arguments are that the row allows. Conditions: as the statement has them. -/
import Derived.Test.YtggmmkdfgjnjfaaCx
import Derived.Test.YtggmmkdfgjnjfaaCq
import Derived.Test.YtggmmkdfgjnjfaaTy
namespace Go.Proofs.Ytggmmkdfgjnjfaa.convNear
open Go.Ev Go.Fb Go.ChangeShapes Go.WideShapes Go.ChangeAt Go.RowKit
set_option maxRecDepth 100000 in
theorem lifted (os : Os) (started : os.Started) (H : Type) (enc : TypeId × Value → H) :
    ReturnsInHanded {} Try.checked os 42 .any (Rows.convNearSpec.pre6 enc Try.prog Try.f42 Rows.convNearRow.domain false) (Rows.convNearSpec.post enc Try.prog Try.f42 false true false false) := by
  refine returnsInHanded_of_change (C := Try.checked) own started (by kernel_rfl) Try.func42
    (ChangeSpec.witness6 (enc := enc) (C := Try.checked) false ⟨#[], #[.int .u64 0, .int .u8 0], []⟩ 8 (by kernel_rfl) (by kernel_rfl) (by kernel_rfl) (by kernel_rfl)) ?_
  intro W base args ds gs before hval hW hcnd _
  exact law_contract (A := (aCons (cInt .u64) (aOne (cInt .u8)))) (AOpens.cons op94 (AOpens.one op120) : AOpens Try.prog Try.f42.params.toList _ _) (fun x hx w vs hp => by
      have h := l_ConvNear_c x (ConvNear_both (wd_ok hx.1)).2 w vs hp
      rwa [(ConvNear_both (wd_ok hx.1)).1] at h) laid (by kernel_rfl) (tb := 4) rfl Try.underlying4 rfl
    (fun ds h => match ds, h with
      | [_, _], _ => rfl) hval hW
theorem k0 : (OpenClaim.wf (OpenSpec.ofChange Rows.convNearSpec) Rows.convNearRow) = true := by kernel_rfl
theorem k9 : (Rows.convNearRow.inPlace == Try.prog.inPlace 42) = true := by kernel_rfl
theorem k10 : (Rows.convNearRow.unfollowed == Try.prog.unfollowed 42) = true := by kernel_rfl
theorem k11 : (Rows.convNearRow.recurses == Try.prog.recurses 42) = true := by kernel_rfl
theorem k12 : (Rows.convNearRow.named == Try.prog.varsNamed 42) = true := by kernel_rfl
theorem k22 : (Rows.convNearRow.plainKeys == Try.prog.plainKeys) = true := by kernel_rfl
theorem k26 : (Rows.convNearRow.lifted == Try.prog.liftsFinal) = true := by rw [lifts_cut bcut]; rfl
theorem k27 : (Try.prog.make == some Rows.convNearRow.make) = true := make_cut bcut
theorem closed : joinedFacts Try.prog 42 Try.f42 Rows.convNearSpec Rows.convNearRow = true :=
  joined_of k0 laid j2 (by kernel_rfl) (by kernel_rfl) (by kernel_rfl) j6 (by kernel_rfl) j8 k9 k10 k11 k12 (by kernel_rfl) (by kernel_rfl) (by kernel_rfl) (by kernel_rfl) (by kernel_rfl) (by kernel_rfl) (by kernel_rfl) (by kernel_rfl) (by kernel_rfl) k22 (by kernel_rfl) j24 j25 k26 k27 (by kernel_rfl) (by kernel_rfl) (by kernel_rfl) (by kernel_rfl)
theorem over : Rows.convNearRow.holds Try.pinned (OpenSpec.ofChange Rows.convNearSpec) :=
  OpenClaim.holds_of_wide 42 Try.f42 rfl rfl rfl rfl rfl rfl rfl ⟨rfl, rfl, rfl, rfl, rfl⟩ rfl rfl rfl rfl rfl (by kernel_rfl) Try.func42 closed
    (of_decide_eq_true (by kernel_rfl)) (by unfold Func.isWrapper; first | (rw [if_pos (by decide +kernel)]; kernel_rfl) | (rw [if_neg (by decide +kernel)]; exact ⟨rfl, rfl⟩))
    (fun os started H enc _ => lifted os started H enc)
theorem proved : Rows.ConvNearSaid :=
  over
end Go.Proofs.Ytggmmkdfgjnjfaa.convNear
