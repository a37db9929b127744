/- The law ClockSound holds of the given program at every input: what is a pair stays one. Conditions: none. -/
import Derived.Test.YtfbpklopnnnniaaS1w
import Derived.Test.YtfbpklopnnnniaaTyR
import Derived.Test.YtfbpklopnnnniaaEvN
namespace Go.Proofs.Ytfbpklopnnnniaa.clockSound
open Go.Ev Go.Fb Go.ChangeShapes Go.WideShapes Go.ChangeAt Go.RowKit
set_option maxRecDepth 100000 in
theorem lifted (os : Os) (started : os.Started) (H : Type) (enc : TypeId × Value → H) :
    ReturnsInHanded {} Try.checked os 5 .any (Rows.clockSoundSpec.pre6 enc Try.prog Try.f5 Rows.clockSoundRow.domain false) (Rows.clockSoundSpec.post enc Try.prog Try.f5 false true false false) := by
  refine returnsInHanded_of_change (C := Try.checked) own started (by kernel_rfl) Try.func5
    (ChangeSpec.witness6 (enc := enc) (C := Try.checked) false ⟨#[], #[.agg #[.bool false, .int .i64 0, .int .i64 0, .bool false, .int .i64 0, .int .i64 0], .agg #[.bool false, .int .i64 0, .int .i64 0, .bool false, .int .i64 0, .int .i64 0], .agg #[.bool false, .int .i64 0, .int .i64 0], .agg #[.bool false, .int .i64 0, .int .i64 0], .int .i64 0, .int .i64 0, .int .i64 0, .slice none 0 0], []⟩ 8 (by kernel_rfl) (by kernel_rfl) (by kernel_rfl) (by kernel_rfl)) ?_
  intro W base args ds gs before hval hW hcnd _
  exact law_contract (A := (aCons cCK (aCons cCK (aCons cI3 (aCons cI3 (aCons (cInt .i64) (aCons (cInt .i64) (aCons (cInt .i64) (aOne (cInts .i64)))))))))) (AOpens.cons op25 (AOpens.cons op25 (AOpens.cons op23 (AOpens.cons op23 (AOpens.cons op2 (AOpens.cons op2 (AOpens.cons op2 (AOpens.one (opens_ints Try.underlying41 Try.underlying2 (by kernel_rfl))))))))) : AOpens Try.prog Try.f5.params.toList _ _) (fun x hx w vs hp => by
      have h := l21_ClockSound_c x (ClockSound_both x.1 x.2.1 x.2.2.1 x.2.2.2.1 x.2.2.2.2.1 x.2.2.2.2.2.1 x.2.2.2.2.2.2.1 x.2.2.2.2.2.2.2).2 w vs hp
      rwa [(ClockSound_both x.1 x.2.1 x.2.2.1 x.2.2.2.1 x.2.2.2.2.1 x.2.2.2.2.2.1 x.2.2.2.2.2.2.1 x.2.2.2.2.2.2.2).1] at h) laid (by kernel_rfl) (tb := 4) rfl Try.underlying4 rfl
    (fun ds h => match ds, h with
      | [_, _, _, _, _, _, _, _], _ => rfl) hval hW
theorem over : Rows.clockSoundRow.holds Try.pinned (OpenSpec.ofChange Rows.clockSoundSpec) :=
  OpenClaim.holds_of_wide 5 Try.f5 rfl rfl rfl rfl rfl rfl rfl ⟨rfl, rfl, rfl, rfl, rfl⟩ rfl rfl rfl rfl rfl (by kernel_rfl) Try.func5 (by kernel_rfl)
    (of_decide_eq_true (by kernel_rfl)) (by unfold Func.isWrapper; first | (rw [if_pos (by decide +kernel)]; kernel_rfl) | (rw [if_neg (by decide +kernel)]; exact ⟨rfl, rfl⟩))
    (fun os started H enc _ => lifted os started H enc)
theorem proved : Rows.ClockSoundSaid :=
  over
end Go.Proofs.Ytfbpklopnnnniaa.clockSound
