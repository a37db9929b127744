/- The law IntsSound holds of the given program at every input: what comes of two integers of two intervals is of the answer. Conditions: none. -/
import Derived.Test.YtfbpklopnnnniaaS1j
import Derived.Test.YtfbpklopnnnniaaTyR
namespace Go.Proofs.Ytfbpklopnnnniaa.intsSound
open Go.Ev Go.Fb Go.ChangeShapes Go.WideShapes Go.ChangeAt Go.RowKit
set_option maxRecDepth 100000 in
theorem lifted (os : Os) (started : os.Started) (H : Type) (enc : TypeId × Value → H) :
    ReturnsInHanded {} Try.checked os 9 .any (Rows.intsSoundSpec.pre6 enc Try.prog Try.f9 Rows.intsSoundRow.domain false) (Rows.intsSoundSpec.post enc Try.prog Try.f9 false true false false) := by
  refine returnsInHanded_of_change (C := Try.checked) own started (by kernel_rfl) Try.func9
    (ChangeSpec.witness6 (enc := enc) (C := Try.checked) false ⟨#[], #[.agg #[.bool false, .int .i64 0, .int .i64 0], .agg #[.bool false, .int .i64 0, .int .i64 0], .int .i64 0, .int .i64 0], []⟩ 8 (by kernel_rfl) (by kernel_rfl) (by kernel_rfl) (by kernel_rfl)) ?_
  intro W base args ds gs before hval hW hcnd _
  exact law_contract (A := (aCons cI3 (aCons cI3 (aCons (cInt .i64) (aOne (cInt .i64)))))) (AOpens.cons op23 (AOpens.cons op23 (AOpens.cons op2 (AOpens.one op2))) : AOpens Try.prog Try.f9.params.toList _ _) (fun x hx w vs hp => by
      have h := l17_IntsSound_c x (IntsSound_both x.1 x.2.1 x.2.2.1 x.2.2.2).2 w vs hp
      rwa [(IntsSound_both x.1 x.2.1 x.2.2.1 x.2.2.2).1] at h) laid (by kernel_rfl) (tb := 4) rfl Try.underlying4 rfl
    (fun ds h => match ds, h with
      | [_, _, _, _], _ => rfl) hval hW
theorem over : Rows.intsSoundRow.holds Try.pinned (OpenSpec.ofChange Rows.intsSoundSpec) :=
  OpenClaim.holds_of_wide 9 Try.f9 rfl rfl rfl rfl rfl rfl rfl ⟨rfl, rfl, rfl, rfl, rfl⟩ rfl rfl rfl rfl rfl (by kernel_rfl) Try.func9 (by kernel_rfl)
    (of_decide_eq_true (by kernel_rfl)) (by unfold Func.isWrapper; first | (rw [if_pos (by decide +kernel)]; kernel_rfl) | (rw [if_neg (by decide +kernel)]; exact ⟨rfl, rfl⟩))
    (fun os started H enc _ => lifted os started H enc)
theorem proved : Rows.IntsSoundSaid :=
  over
end Go.Proofs.Ytfbpklopnnnniaa.intsSound
