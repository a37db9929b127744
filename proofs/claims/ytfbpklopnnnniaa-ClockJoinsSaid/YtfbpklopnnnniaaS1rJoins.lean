/- The law ClockJoins holds of the given program at every input: how clocks join, meet and go on is what the document says. Conditions: none. -/
import Derived.Test.YtfbpklopnnnniaaS1o
import Derived.Test.YtfbpklopnnnniaaTyR
import Derived.Test.YtfbpklopnnnniaaEvN
namespace Go.Proofs.Ytfbpklopnnnniaa.clockJoins
open Go.Ev Go.Fb Go.ChangeShapes Go.WideShapes Go.ChangeAt Go.RowKit
set_option maxRecDepth 100000 in
theorem lifted (os : Os) (started : os.Started) (H : Type) (enc : TypeId × Value → H) :
    ReturnsInHanded {} Try.checked os 4 .any (Rows.clockJoinsSpec.pre6 enc Try.prog Try.f4 Rows.clockJoinsRow.domain false) (Rows.clockJoinsSpec.post enc Try.prog Try.f4 false true false false) := by
  refine returnsInHanded_of_change (C := Try.checked) own started (by kernel_rfl) Try.func4
    (ChangeSpec.witness6 (enc := enc) (C := Try.checked) false ⟨#[], #[.agg #[.bool false, .int .i64 0, .int .i64 0, .bool false, .int .i64 0, .int .i64 0], .agg #[.bool false, .int .i64 0, .int .i64 0, .bool false, .int .i64 0, .int .i64 0], .slice none 0 0, .int .i64 0, .int .i64 0], []⟩ 8 (by kernel_rfl) (by kernel_rfl) (by kernel_rfl) (by kernel_rfl)) ?_
  intro W base args ds gs before hval hW hcnd _
  exact law_contract (A := (aCons cCK (aCons cCK (aCons (cInts .i64) (aCons (cInt .i64) (aOne (cInt .i64))))))) (AOpens.cons op25 (AOpens.cons op25 (AOpens.cons (opens_ints Try.underlying41 Try.underlying2 (by kernel_rfl)) (AOpens.cons op2 (AOpens.one op2)))) : AOpens Try.prog Try.f4.params.toList _ _) (fun x hx w vs hp => by
      have h := l21_ClockJoins_c x (ClockJoins_both x.1 x.2.1 x.2.2.1 x.2.2.2.1 x.2.2.2.2).2 w vs hp
      rwa [(ClockJoins_both x.1 x.2.1 x.2.2.1 x.2.2.2.1 x.2.2.2.2).1] at h) laid (by kernel_rfl) (tb := 4) rfl Try.underlying4 rfl
    (fun ds h => match ds, h with
      | [_, _, _, _, _], _ => rfl) hval hW
theorem over : Rows.clockJoinsRow.holds Try.pinned (OpenSpec.ofChange Rows.clockJoinsSpec) :=
  OpenClaim.holds_of_wide 4 Try.f4 rfl rfl rfl rfl rfl rfl rfl ⟨rfl, rfl, rfl, rfl, rfl⟩ rfl rfl rfl rfl rfl (by kernel_rfl) Try.func4 (by kernel_rfl)
    (of_decide_eq_true (by kernel_rfl)) (by unfold Func.isWrapper; first | (rw [if_pos (by decide +kernel)]; kernel_rfl) | (rw [if_neg (by decide +kernel)]; exact ⟨rfl, rfl⟩))
    (fun os started H enc _ => lifted os started H enc)
theorem proved : Rows.ClockJoinsSaid :=
  over
end Go.Proofs.Ytfbpklopnnnniaa.clockJoins
