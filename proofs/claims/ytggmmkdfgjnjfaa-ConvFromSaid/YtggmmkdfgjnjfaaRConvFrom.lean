/- Proves the statement ConvFrom: an integer is rounded to a float as the document says: the law of the given program answers true and does not panic, whatever the arguments are that the row allows. Conditions: as the statement has them. -/
import Derived.Test.YtggmmkdfgjnjfaaCx
import Derived.Test.YtggmmkdfgjnjfaaCq
import Derived.Test.YtggmmkdfgjnjfaaTy
namespace Go.Proofs.Ytggmmkdfgjnjfaa.convFrom
open Go.Ev Go.Fb Go.ChangeShapes Go.WideShapes Go.ChangeAt Go.RowKit
set_option maxRecDepth 100000 in
theorem lifted (os : Os) (started : os.Started) (H : Type) (enc : TypeId × Value → H) :
    ReturnsInHanded {} Try.checked os 38 .any (Rows.convFromSpec.pre6 enc Try.prog Try.f38 Rows.convFromRow.domain false) (Rows.convFromSpec.post enc Try.prog Try.f38 false true false false) := by
  refine returnsInHanded_of_change (C := Try.checked) own started (by kernel_rfl) Try.func38
    (ChangeSpec.witness6 (enc := enc) (C := Try.checked) false ⟨#[], #[.int .i64 0, .int .u8 0], []⟩ 8 (by kernel_rfl) (by kernel_rfl) (by kernel_rfl) (by kernel_rfl)) ?_
  intro W base args ds gs before hval hW hcnd _
  exact law_contract (A := (aCons (cInt .i64) (aOne (cInt .u8)))) (AOpens.cons op2 (AOpens.one op120) : AOpens Try.prog Try.f38.params.toList _ _) (fun x hx w vs hp => by
      have h := l_ConvFrom_c x (ConvFrom_both (l64_ok hx.1)).2 w vs hp
      rwa [(ConvFrom_both (l64_ok hx.1)).1] at h) laid (by kernel_rfl) (tb := 4) rfl Try.underlying4 rfl
    (fun ds h => match ds, h with
      | [_, _], _ => rfl) hval hW
theorem k0 : (OpenClaim.wf (OpenSpec.ofChange Rows.convFromSpec) Rows.convFromRow) = true := by kernel_rfl
theorem k9 : (Rows.convFromRow.inPlace == Try.prog.inPlace 38) = true := by kernel_rfl
theorem k10 : (Rows.convFromRow.unfollowed == Try.prog.unfollowed 38) = true := by kernel_rfl
theorem k11 : (Rows.convFromRow.recurses == Try.prog.recurses 38) = true := by kernel_rfl
theorem k12 : (Rows.convFromRow.named == Try.prog.varsNamed 38) = true := by kernel_rfl
theorem k22 : (Rows.convFromRow.plainKeys == Try.prog.plainKeys) = true := by kernel_rfl
theorem k26 : (Rows.convFromRow.lifted == Try.prog.liftsFinal) = true := by rw [lifts_cut bcut]; rfl
theorem k27 : (Try.prog.make == some Rows.convFromRow.make) = true := make_cut bcut
theorem closed : joinedFacts Try.prog 38 Try.f38 Rows.convFromSpec Rows.convFromRow = true :=
  joined_of k0 laid j2 (by kernel_rfl) (by kernel_rfl) (by kernel_rfl) j6 (by kernel_rfl) j8 k9 k10 k11 k12 (by kernel_rfl) (by kernel_rfl) (by kernel_rfl) (by kernel_rfl) (by kernel_rfl) (by kernel_rfl) (by kernel_rfl) (by kernel_rfl) (by kernel_rfl) k22 (by kernel_rfl) j24 j25 k26 k27 (by kernel_rfl) (by kernel_rfl) (by kernel_rfl) (by kernel_rfl)
theorem over : Rows.convFromRow.holds Try.pinned (OpenSpec.ofChange Rows.convFromSpec) :=
  OpenClaim.holds_of_wide 38 Try.f38 rfl rfl rfl rfl rfl rfl rfl ⟨rfl, rfl, rfl, rfl, rfl⟩ rfl rfl rfl rfl rfl (by kernel_rfl) Try.func38 closed
    (of_decide_eq_true (by kernel_rfl)) (by unfold Func.isWrapper; first | (rw [if_pos (by decide +kernel)]; kernel_rfl) | (rw [if_neg (by decide +kernel)]; exact ⟨rfl, rfl⟩))
    (fun os started H enc _ => lifted os started H enc)
theorem proved : Rows.ConvFromSaid :=
  over
end Go.Proofs.Ytggmmkdfgjnjfaa.convFrom
