/- The law IntsHulls holds of the given program at every input: of small intervals the answer is the least interval of all that comes of them. Conditions: none. -/
import Derived.Test.YtfbpklopnnnniaaS1u
import Derived.Test.YtfbpklopnnnniaaTyR
import Derived.Test.YtfbpklopnnnniaaEvN
namespace Go.Proofs.Ytfbpklopnnnniaa.intsHulls
open Go.Ev Go.Fb Go.ChangeShapes Go.WideShapes Go.ChangeAt Go.RowKit
set_option maxRecDepth 100000 in
theorem lifted (os : Os) (started : os.Started) (H : Type) (enc : TypeId × Value → H) :
    ReturnsInHanded {} Try.checked os 8 .any (Rows.intsHullsSpec.pre6 enc Try.prog Try.f8 Rows.intsHullsRow.domain false) (Rows.intsHullsSpec.post enc Try.prog Try.f8 false true false false) := by
  refine returnsInHanded_of_change (C := Try.checked) own started (by kernel_rfl) Try.func8
    (ChangeSpec.witness6 (enc := enc) (C := Try.checked) false ⟨#[], #[.agg #[.bool false, .int .i64 0, .int .i64 0], .agg #[.bool false, .int .i64 0, .int .i64 0]], []⟩ 8 (by kernel_rfl) (by kernel_rfl) (by kernel_rfl) (by kernel_rfl)) ?_
  intro W base args ds gs before hval hW hcnd _
  exact law_contract (A := (aCons cI3 (aOne cI3))) (AOpens.cons op23 (AOpens.one op23) : AOpens Try.prog Try.f8.params.toList _ _) (fun x hx w vs hp => by
      have h := l17_IntsHulls_c x (IntsHulls_both x.1 x.2).2 w vs hp
      rwa [(IntsHulls_both x.1 x.2).1] at h) laid (by kernel_rfl) (tb := 4) rfl Try.underlying4 rfl
    (fun ds h => match ds, h with
      | [_, _], _ => rfl) hval hW
theorem over : Rows.intsHullsRow.holds Try.pinned (OpenSpec.ofChange Rows.intsHullsSpec) :=
  OpenClaim.holds_of_wide 8 Try.f8 rfl rfl rfl rfl rfl rfl rfl ⟨rfl, rfl, rfl, rfl, rfl⟩ rfl rfl rfl rfl rfl (by kernel_rfl) Try.func8 (by kernel_rfl)
    (of_decide_eq_true (by kernel_rfl)) (by unfold Func.isWrapper; first | (rw [if_pos (by decide +kernel)]; kernel_rfl) | (rw [if_neg (by decide +kernel)]; exact ⟨rfl, rfl⟩))
    (fun os started H enc _ => lifted os started H enc)
theorem proved : Rows.IntsHullsSaid :=
  over
end Go.Proofs.Ytfbpklopnnnniaa.intsHulls
