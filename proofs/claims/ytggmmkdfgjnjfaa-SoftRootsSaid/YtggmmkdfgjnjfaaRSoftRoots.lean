/- Proves the statement SoftRoots: roots of floats are what the document says, with their flags: the law of the given program answers true and does not panic, whatever the arguments are that the row allows. Conditions: as the statement has them. -/
import Derived.Test.YtggmmkdfgjnjfaaSx
import Derived.Test.YtggmmkdfgjnjfaaSq
import Derived.Test.YtggmmkdfgjnjfaaTy
namespace Go.Proofs.Ytggmmkdfgjnjfaa.softRoots
open Go.Ev Go.Fb Go.ChangeShapes Go.WideShapes Go.ChangeAt Go.RowKit
set_option maxRecDepth 100000 in
theorem lifted (os : Os) (started : os.Started) (H : Type) (enc : TypeId × Value → H) :
    ReturnsInHanded {} Try.checked os 32 .any (Rows.softRootsSpec.pre6 enc Try.prog Try.f32 Rows.softRootsRow.domain false) (Rows.softRootsSpec.post enc Try.prog Try.f32 false true false false) := by
  refine returnsInHanded_of_change (C := Try.checked) own started (by kernel_rfl) Try.func32
    (ChangeSpec.witness6 (enc := enc) (C := Try.checked) false ⟨#[], #[.int .u64 0, .int .u8 0], []⟩ 8 (by kernel_rfl) (by kernel_rfl) (by kernel_rfl) (by kernel_rfl)) ?_
  intro W base args ds gs before hval hW hcnd _
  exact law_contract (A := (aCons (cInt .u64) (aOne (cInt .u8)))) (AOpens.cons op94 (AOpens.one op120) : AOpens Try.prog Try.f32.params.toList _ _) (fun x hx w vs hp => by
      have h := l_SoftRoots_c x (SoftRoots_both (wd_ok hx.1)).2 w vs hp
      rwa [(SoftRoots_both (wd_ok hx.1)).1] at h) laid (by kernel_rfl) (tb := 4) rfl Try.underlying4 rfl
    (fun ds h => match ds, h with
      | [_, _], _ => rfl) hval hW
theorem k0 : (OpenClaim.wf (OpenSpec.ofChange Rows.softRootsSpec) Rows.softRootsRow) = true := by kernel_rfl
theorem k9 : (Rows.softRootsRow.inPlace == Try.prog.inPlace 32) = true := by kernel_rfl
theorem k10 : (Rows.softRootsRow.unfollowed == Try.prog.unfollowed 32) = true := by kernel_rfl
theorem k11 : (Rows.softRootsRow.recurses == Try.prog.recurses 32) = true := by kernel_rfl
theorem k12 : (Rows.softRootsRow.named == Try.prog.varsNamed 32) = true := by kernel_rfl
theorem k22 : (Rows.softRootsRow.plainKeys == Try.prog.plainKeys) = true := by kernel_rfl
theorem k26 : (Rows.softRootsRow.lifted == Try.prog.liftsFinal) = true := by rw [lifts_cut bcut]; rfl
theorem k27 : (Try.prog.make == some Rows.softRootsRow.make) = true := make_cut bcut
theorem closed : joinedFacts Try.prog 32 Try.f32 Rows.softRootsSpec Rows.softRootsRow = true :=
  joined_of k0 laid j2 (by kernel_rfl) (by kernel_rfl) (by kernel_rfl) j6 (by kernel_rfl) j8 k9 k10 k11 k12 (by kernel_rfl) (by kernel_rfl) (by kernel_rfl) (by kernel_rfl) (by kernel_rfl) (by kernel_rfl) (by kernel_rfl) (by kernel_rfl) (by kernel_rfl) k22 (by kernel_rfl) j24 j25 k26 k27 (by kernel_rfl) (by kernel_rfl) (by kernel_rfl) (by kernel_rfl)
theorem over : Rows.softRootsRow.holds Try.pinned (OpenSpec.ofChange Rows.softRootsSpec) :=
  OpenClaim.holds_of_wide 32 Try.f32 rfl rfl rfl rfl rfl rfl rfl ⟨rfl, rfl, rfl, rfl, rfl⟩ rfl rfl rfl rfl rfl (by kernel_rfl) Try.func32 closed
    (of_decide_eq_true (by kernel_rfl)) (by unfold Func.isWrapper; first | (rw [if_pos (by decide +kernel)]; kernel_rfl) | (rw [if_neg (by decide +kernel)]; exact ⟨rfl, rfl⟩))
    (fun os started H enc _ => lifted os started H enc)
theorem proved : Rows.SoftRootsSaid :=
  over
end Go.Proofs.Ytggmmkdfgjnjfaa.softRoots
