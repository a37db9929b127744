/- The law ClockDoes holds of the given program at every input: clocks are what the document says. Conditions: none. -/
import Derived.Test.YtfbpklopnnnniaaS1o
import Derived.Test.YtfbpklopnnnniaaTyR
import Derived.Test.YtfbpklopnnnniaaEvN
namespace Go.Proofs.Ytfbpklopnnnniaa.clockDoes
open Go.Ev Go.Fb Go.ChangeShapes Go.WideShapes Go.ChangeAt Go.RowKit
set_option maxRecDepth 100000 in
theorem lifted (os : Os) (started : os.Started) (H : Type) (enc : TypeId × Value → H) :
    ReturnsInHanded {} Try.checked os 3 .any (Rows.clockDoesSpec.pre6 enc Try.prog Try.f3 Rows.clockDoesRow.domain false) (Rows.clockDoesSpec.post enc Try.prog Try.f3 false true false false) := by
  refine returnsInHanded_of_change (C := Try.checked) own started (by kernel_rfl) Try.func3
    (ChangeSpec.witness6 (enc := enc) (C := Try.checked) false ⟨#[], #[.agg #[.bool false, .int .i64 0, .int .i64 0, .bool false, .int .i64 0, .int .i64 0], .agg #[.bool false, .int .i64 0, .int .i64 0], .agg #[.bool false, .int .i64 0, .int .i64 0]], []⟩ 8 (by kernel_rfl) (by kernel_rfl) (by kernel_rfl) (by kernel_rfl)) ?_
  intro W base args ds gs before hval hW hcnd _
  exact law_contract (A := (aCons cCK (aCons cI3 (aOne cI3)))) (AOpens.cons op25 (AOpens.cons op23 (AOpens.one op23)) : AOpens Try.prog Try.f3.params.toList _ _) (fun x hx w vs hp => by
      have h := l21_ClockDoes_c x w vs hp
      rwa [ClockDoes_true] at h) laid (by kernel_rfl) (tb := 4) rfl Try.underlying4 rfl
    (fun ds h => match ds, h with
      | [_, _, _], _ => rfl) hval hW
theorem over : Rows.clockDoesRow.holds Try.pinned (OpenSpec.ofChange Rows.clockDoesSpec) :=
  OpenClaim.holds_of_wide 3 Try.f3 rfl rfl rfl rfl rfl rfl rfl ⟨rfl, rfl, rfl, rfl, rfl⟩ rfl rfl rfl rfl rfl (by kernel_rfl) Try.func3 (by kernel_rfl)
    (of_decide_eq_true (by kernel_rfl)) (by unfold Func.isWrapper; first | (rw [if_pos (by decide +kernel)]; kernel_rfl) | (rw [if_neg (by decide +kernel)]; exact ⟨rfl, rfl⟩))
    (fun os started H enc _ => lifted os started H enc)
theorem proved : Rows.ClockDoesSaid :=
  over
end Go.Proofs.Ytfbpklopnnnniaa.clockDoes
