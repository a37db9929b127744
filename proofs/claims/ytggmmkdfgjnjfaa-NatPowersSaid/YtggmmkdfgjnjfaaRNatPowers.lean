/- Proves the statement NatPowers: a power is the product of as many factors: the law of the given program answers true and does not panic, whatever the arguments are that the row allows. Conditions: as the statement has them. -/
import Derived.Test.YtggmmkdfgjnjfaaXl
import Derived.Test.YtggmmkdfgjnjfaaNq
import Derived.Test.YtggmmkdfgjnjfaaTy
namespace Go.Proofs.Ytggmmkdfgjnjfaa.natPowers
open Go.Ev Go.Fb Go.ChangeShapes Go.WideShapes Go.ChangeAt Go.RowKit
set_option maxRecDepth 100000 in
theorem lifted (os : Os) (started : os.Started) (H : Type) (enc : TypeId × Value → H) :
    ReturnsInHanded {} Try.checked os 7 .any (Rows.natPowersSpec.pre6 enc Try.prog Try.f7 Rows.natPowersRow.domain false) (Rows.natPowersSpec.post enc Try.prog Try.f7 false true false false) := by
  refine returnsInHanded_of_change (C := Try.checked) own started (by kernel_rfl) Try.func7
    (ChangeSpec.witness6 (enc := enc) (C := Try.checked) false ⟨#[], #[.int .u64 0, .int .i64 0], []⟩ 8 (by kernel_rfl) (by kernel_rfl) (by kernel_rfl) (by kernel_rfl)) ?_
  intro W base args ds gs before hval hW hcnd _
  exact law_contract (A := (aCons (cInt .u64) (aOne (cInt .i64)))) (AOpens.cons op47 (AOpens.one op3) : AOpens Try.prog Try.f7.params.toList _ _) (fun x hx w vs hp => by
      have h := l_NatPowers_c x (NatPowers_both (wd_ok hx.1) (i64_ok hx.2)).2 w vs hp
      rwa [(NatPowers_both (wd_ok hx.1) (i64_ok hx.2)).1] at h) laid (by kernel_rfl) (tb := 4) rfl Try.underlying4 rfl
    (fun ds h => match ds, h with
      | [_, _], _ => rfl) hval hW
theorem k0 : (OpenClaim.wf (OpenSpec.ofChange Rows.natPowersSpec) Rows.natPowersRow) = true := by kernel_rfl
theorem k9 : (Rows.natPowersRow.inPlace == Try.prog.inPlace 7) = true := by kernel_rfl
theorem k10 : (Rows.natPowersRow.unfollowed == Try.prog.unfollowed 7) = true := by kernel_rfl
theorem k11 : (Rows.natPowersRow.recurses == Try.prog.recurses 7) = true := by kernel_rfl
theorem k12 : (Rows.natPowersRow.named == Try.prog.varsNamed 7) = true := by kernel_rfl
theorem k22 : (Rows.natPowersRow.plainKeys == Try.prog.plainKeys) = true := by kernel_rfl
theorem k26 : (Rows.natPowersRow.lifted == Try.prog.liftsFinal) = true := by rw [lifts_cut bcut]; rfl
theorem k27 : (Try.prog.make == some Rows.natPowersRow.make) = true := make_cut bcut
theorem closed : joinedFacts Try.prog 7 Try.f7 Rows.natPowersSpec Rows.natPowersRow = true :=
  joined_of k0 laid j2 (by kernel_rfl) (by kernel_rfl) (by kernel_rfl) j6 (by kernel_rfl) j8 k9 k10 k11 k12 (by kernel_rfl) (by kernel_rfl) (by kernel_rfl) (by kernel_rfl) (by kernel_rfl) (by kernel_rfl) (by kernel_rfl) (by kernel_rfl) (by kernel_rfl) k22 (by kernel_rfl) j24 j25 k26 k27 (by kernel_rfl) (by kernel_rfl) (by kernel_rfl) (by kernel_rfl)
theorem over : Rows.natPowersRow.holds Try.pinned (OpenSpec.ofChange Rows.natPowersSpec) :=
  OpenClaim.holds_of_wide 7 Try.f7 rfl rfl rfl rfl rfl rfl rfl ⟨rfl, rfl, rfl, rfl, rfl⟩ rfl rfl rfl rfl rfl (by kernel_rfl) Try.func7 closed
    (of_decide_eq_true (by kernel_rfl)) (by unfold Func.isWrapper; first | (rw [if_pos (by decide +kernel)]; kernel_rfl) | (rw [if_neg (by decide +kernel)]; exact ⟨rfl, rfl⟩))
    (fun os started H enc _ => lifted os started H enc)
theorem proved : Rows.NatPowersSaid :=
  over
end Go.Proofs.Ytggmmkdfgjnjfaa.natPowers
