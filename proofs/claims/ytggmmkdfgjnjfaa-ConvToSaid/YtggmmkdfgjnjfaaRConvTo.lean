/- Proves the statement ConvTo: a float is made an integer as the document says: the law of the given program answers true and does not panic, whatever the arguments are that the row allows. Conditions: as the statement has them. -/
import Derived.Test.YtggmmkdfgjnjfaaCx
import Derived.Test.YtggmmkdfgjnjfaaCq
import Derived.Test.YtggmmkdfgjnjfaaTy
namespace Go.Proofs.Ytggmmkdfgjnjfaa.convTo
open Go.Ev Go.Fb Go.ChangeShapes Go.WideShapes Go.ChangeAt Go.RowKit
set_option maxRecDepth 100000 in
theorem lifted (os : Os) (started : os.Started) (H : Type) (enc : TypeId × Value → H) :
    ReturnsInHanded {} Try.checked os 39 .any (Rows.convToSpec.pre6 enc Try.prog Try.f39 Rows.convToRow.domain false) (Rows.convToSpec.post enc Try.prog Try.f39 false true false false) := by
  refine returnsInHanded_of_change (C := Try.checked) own started (by kernel_rfl) Try.func39
    (ChangeSpec.witness6 (enc := enc) (C := Try.checked) false ⟨#[], #[.int .u64 0], []⟩ 8 (by kernel_rfl) (by kernel_rfl) (by kernel_rfl) (by kernel_rfl)) ?_
  intro W base args ds gs before hval hW hcnd _
  exact law_contract (A := (aOne (cInt .u64))) (AOpens.one op94 : AOpens Try.prog Try.f39.params.toList _ _) (fun x hx w vs hp => by
      have h := l_ConvTo_c x (ConvTo_both (wd_ok hx)).2 w vs hp
      rwa [(ConvTo_both (wd_ok hx)).1] at h) laid (by kernel_rfl) (tb := 4) rfl Try.underlying4 rfl
    (fun ds h => match ds, h with
      | [_], _ => rfl) hval hW
theorem k0 : (OpenClaim.wf (OpenSpec.ofChange Rows.convToSpec) Rows.convToRow) = true := by kernel_rfl
theorem k9 : (Rows.convToRow.inPlace == Try.prog.inPlace 39) = true := by kernel_rfl
theorem k10 : (Rows.convToRow.unfollowed == Try.prog.unfollowed 39) = true := by kernel_rfl
theorem k11 : (Rows.convToRow.recurses == Try.prog.recurses 39) = true := by kernel_rfl
theorem k12 : (Rows.convToRow.named == Try.prog.varsNamed 39) = true := by kernel_rfl
theorem k22 : (Rows.convToRow.plainKeys == Try.prog.plainKeys) = true := by kernel_rfl
theorem k26 : (Rows.convToRow.lifted == Try.prog.liftsFinal) = true := by rw [lifts_cut bcut]; rfl
theorem k27 : (Try.prog.make == some Rows.convToRow.make) = true := make_cut bcut
theorem closed : joinedFacts Try.prog 39 Try.f39 Rows.convToSpec Rows.convToRow = true :=
  joined_of k0 laid j2 (by kernel_rfl) (by kernel_rfl) (by kernel_rfl) j6 (by kernel_rfl) j8 k9 k10 k11 k12 (by kernel_rfl) (by kernel_rfl) (by kernel_rfl) (by kernel_rfl) (by kernel_rfl) (by kernel_rfl) (by kernel_rfl) (by kernel_rfl) (by kernel_rfl) k22 (by kernel_rfl) j24 j25 k26 k27 (by kernel_rfl) (by kernel_rfl) (by kernel_rfl) (by kernel_rfl)
theorem over : Rows.convToRow.holds Try.pinned (OpenSpec.ofChange Rows.convToSpec) :=
  OpenClaim.holds_of_wide 39 Try.f39 rfl rfl rfl rfl rfl rfl rfl ⟨rfl, rfl, rfl, rfl, rfl⟩ rfl rfl rfl rfl rfl (by kernel_rfl) Try.func39 closed
    (of_decide_eq_true (by kernel_rfl)) (by unfold Func.isWrapper; first | (rw [if_pos (by decide +kernel)]; kernel_rfl) | (rw [if_neg (by decide +kernel)]; exact ⟨rfl, rfl⟩))
    (fun os started H enc _ => lifted os started H enc)
theorem proved : Rows.ConvToSaid :=
  over
end Go.Proofs.Ytggmmkdfgjnjfaa.convTo
