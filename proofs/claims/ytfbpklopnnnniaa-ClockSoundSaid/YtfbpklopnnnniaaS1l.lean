/- Contracts and laws of functions of the program, on the way to the claim. Conditions: as each theorem states. -/
import Derived.Test.YtfbpklopnnnniaaS1k
namespace Go.Proofs.Ytfbpklopnnnniaa
open Go.Ev Go.Fb

/-! ### Going on -/
def wLo (j : Int) (l : List Int) (a : Int) : Int := l.foldl (fun a n => if n ≤ j then max a n else a) a
def wHi (j : Int) (l : List Int) (a : Int) : Int := l.foldl (fun a n => if n ≥ j then min a n else a) a
theorem wLo_bd (j : Int) : ∀ (l : List Int) (a : Int), a ≤ wLo j l a ∧ (a ≤ j → wLo j l a ≤ j)
  | [], a => ⟨Int.le_refl _, fun h => h⟩
  | n :: l, a => by
    have h1 := wLo_bd j l (if n ≤ j then max a n else a)
    have h2 : a ≤ (if n ≤ j then max a n else a) ∧ (a ≤ j → (if n ≤ j then max a n else a) ≤ j) := by split <;> omega
    unfold wLo at *
    simp only [List.foldl_cons]
    generalize (if n ≤ j then max a n else a) = A at *
    omega
theorem wHi_bd (j : Int) : ∀ (l : List Int) (a : Int), wHi j l a ≤ a ∧ (j ≤ a → j ≤ wHi j l a)
  | [], a => ⟨Int.le_refl _, fun h => h⟩
  | n :: l, a => by
    have h1 := wHi_bd j l (if n ≥ j then min a n else a)
    have h2 : (if n ≥ j then min a n else a) ≤ a ∧ (j ≤ a → j ≤ (if n ≥ j then min a n else a)) := by split <;> omega
    unfold wHi at *
    simp only [List.foldl_cons]
    generalize (if n ≥ j then min a n else a) = A at *
    omega
theorem drop_cons {l r : List Int} {k : Nat} {x : Int} (h : l.drop k = x :: r) : l.getD k 0 = x ∧ k < l.length ∧ l.drop (k + 1) = r := by
  have hk : k < l.length := by
    rcases Nat.lt_or_ge k l.length with h' | h'
    · exact h'
    · rw [List.drop_eq_nil_of_le h'] at h; cases h
  rw [List.drop_eq_getElem_cons hk] at h
  injection h with h1 h2
  exact ⟨by simp [List.getD, hk, h1], hk, h2⟩
theorem drop_nil {l : List Int} {k : Nat} (h : l.drop k = []) : l.length ≤ k := List.drop_eq_nil_iff.1 h
section
variable (b1 b2 b3 b4 : Bool) (steps : List Int) (x1 x2 x3 x4 jl jh : Int)
theorem widen_run (hn : steps.length < 4611686018427387904) : ∀ (l : List Int) (k : Nat), steps.drop k = l → k ≤ steps.length → ∀ lo hi,
    runL (ints_Widen_L0_step (b1, steps, steps.length, b2, x1, x2, b3, x3, x4, b4, jl, jh)) (l.length + 1) (lo, hi, (k : Int)) = some (wLo jl l lo, wHi jh l hi, (steps.length : Int))
  | [], k, h, hk, lo, hi => by
    have := drop_nil h
    have e : k = steps.length := by omega
    subst e
    simp [runL, ints_Widen_L0_step, ints_Widen_L0_T, Tr.safe, Tr.val, wLo, wHi]
  | x :: r, k, h, hk, lo, hi => by
    obtain ⟨h1, h2, h3⟩ := drop_cons h
    have ih := widen_run hn r (k + 1) h3 h2
    have e : IntKind.i64.wrap ((k : Int) + 1) = ((k + 1 : Nat) : Int) := by rw [w64 (by omega) (by omega)]; rfl
    have d1 : decide ((k : Int) < (steps.length : Int)) = true := decide_eq_true (by omega)
    have d2 : decide ((0 : Int) ≤ (k : Int)) = true := decide_eq_true (by omega)
    rw [List.length_cons, runL]
    simp only [ints_Widen_L0_step, ints_Widen_L0_T, Int.toNat_natCast, h1, e, d1, d2, imax_eq, imin_eq]
    simp only [Tr.safe, Tr.val, cond_true, Bool.and_self, Bool.true_and, wLo, wHi, List.foldl_cons]
    by_cases q1 : x ≤ jl <;> by_cases q2 : x ≥ jh <;> simp only [q1, q2, decide_true, decide_false, cond_true, cond_false, if_true, if_false] <;> exact ih _ _
theorem refW0_run (hn : steps.length < 4611686018427387904) : ∀ (l : List Int) (k : Nat), steps.drop k = l → k ≤ steps.length → ∀ lo,
    runL (ref_Widen_L0_step (steps, b1, b2, b3, x1, x2, b4, x3, x4, b1, jl, jh)) (l.length + 1) (lo, (k : Int)) = some (wLo jl l lo, (steps.length : Int))
  | [], k, h, hk, lo => by
    have := drop_nil h
    have e : k = steps.length := by omega
    subst e
    simp [runL, ref_Widen_L0_step, ref_Widen_L0_T, Tr.safe, Tr.val, wLo]
  | x :: r, k, h, hk, lo => by
    obtain ⟨h1, h2, h3⟩ := drop_cons h
    have ih := refW0_run hn r (k + 1) h3 h2
    have e : IntKind.i64.wrap ((k : Int) + 1) = ((k + 1 : Nat) : Int) := by rw [w64 (by omega) (by omega)]; rfl
    have d1 : decide ((k : Int) < (steps.length : Int)) = true := decide_eq_true (by omega)
    have d2 : decide ((0 : Int) ≤ (k : Int)) = true := decide_eq_true (by omega)
    rw [List.length_cons, runL]
    simp only [ref_Widen_L0_step, ref_Widen_L0_T, Int.toNat_natCast, h1, e, d1, d2, imax_eq]
    simp only [Tr.safe, Tr.val, cond_true, Bool.and_self, Bool.true_and, wLo, List.foldl_cons]
    by_cases q1 : x ≤ jl <;> simp only [q1, decide_true, decide_false, cond_true, cond_false, if_true, if_false] <;> exact ih _
theorem refW1_run (hn : steps.length < 4611686018427387904) : ∀ (l : List Int) (k : Nat), steps.drop k = l → k ≤ steps.length → ∀ hi,
    runL (ref_Widen_L1_step (steps, b1, b2, b3, b4, x1, x2, b1, jl, jh)) (l.length + 1) (hi, (k : Int)) = some (wHi jh l hi, (steps.length : Int))
  | [], k, h, hk, hi => by
    have := drop_nil h
    have e : k = steps.length := by omega
    subst e
    simp [runL, ref_Widen_L1_step, ref_Widen_L1_T, Tr.safe, Tr.val, wHi]
  | x :: r, k, h, hk, hi => by
    obtain ⟨h1, h2, h3⟩ := drop_cons h
    have ih := refW1_run hn r (k + 1) h3 h2
    have e : IntKind.i64.wrap ((k : Int) + 1) = ((k + 1 : Nat) : Int) := by rw [w64 (by omega) (by omega)]; rfl
    have d1 : decide ((k : Int) < (steps.length : Int)) = true := decide_eq_true (by omega)
    have d2 : decide ((0 : Int) ≤ (k : Int)) = true := decide_eq_true (by omega)
    rw [List.length_cons, runL]
    simp only [ref_Widen_L1_step, ref_Widen_L1_T, Int.toNat_natCast, h1, e, d1, d2, imin_eq]
    simp only [Tr.safe, Tr.val, cond_true, Bool.and_self, Bool.true_and, wHi, List.foldl_cons]
    by_cases q1 : x ≥ jh <;> simp only [q1, decide_true, decide_false, cond_true, cond_false, if_true, if_false] <;> exact ih _
end
section
variable (b1 b2 b3 b4 b5 : Bool) {steps : List Int} (x1 x2 x3 x4 jl jh : Int)
theorem widen_L0 (hn : steps.length < 4611686018427387904) (lo hi : Int) : ints_Widen_L0_r (b1, steps, steps.length, b2, x1, x2, b3, x3, x4, b4, jl, jh) (lo, hi, 0) = some (wLo jl steps lo, wHi jh steps hi, (steps.length : Int)) :=
  runB_of (widen_run b1 b2 b3 b4 steps x1 x2 x3 x4 jl jh hn steps 0 rfl (Nat.zero_le _) lo hi) (by omega)
theorem refW_L0 (hn : steps.length < 4611686018427387904) (lo : Int) : ref_Widen_L0_r (steps, b1, b2, b3, x1, x2, b4, x3, x4, b5, jl, jh) (lo, 0) = some (wLo jl steps lo, (steps.length : Int)) :=
  runB_of (refW0_run b1 b2 b3 b4 steps x1 x2 x3 x4 jl jh hn steps 0 rfl (Nat.zero_le _) lo) (by omega)
theorem refW_L1 (hn : steps.length < 4611686018427387904) (hi : Int) : ref_Widen_L1_r (steps, b1, b2, b3, b4, x1, x2, b5, jl, jh) (hi, 0) = some (wHi jh steps hi, (steps.length : Int)) :=
  runB_of (refW1_run b1 b2 b3 b4 steps x1 x2 jl jh hn steps 0 rfl (Nat.zero_le _) hi) (by omega)
end
def wd (x y : I3) (steps : List Int) : I3 :=
  if x.e then y else ⟨false, if (join x y).lo = x.lo then (join x y).lo else wLo (join x y).lo steps (-1099511627776), if (join x y).hi = x.hi then (join x y).hi else wHi (join x y).hi steps 1099511627776⟩
theorem nm_wd {x y : I3} (hx : Nm x) (hy : Nm y) (steps : List Int) : Nm (wd x y steps) ∧ inside (join x y) (wd x y steps) = true := by
  unfold wd
  cases he : x.e
  · have hj := nm_join hx hy
    have hje : (join x y).e = false := by
      unfold join; rw [he]; cases hy' : y.e <;> simp [he]
    rw [inside_iff]
    generalize join x y = j at *
    rcases hj with rfl | hj
    · cases hje
    have h1 := wLo_bd j.lo steps (-1099511627776)
    have h2 := wHi_bd j.hi steps 1099511627776
    have hf : ¬ (false = true) := by decide
    rw [if_neg hf]
    refine ⟨.inr ⟨rfl, ?_⟩, .inr ⟨hje, rfl, ?_, ?_⟩⟩ <;> simp only <;> split <;> (try split) <;> omega
  · have : join x y = y := by unfold join; rw [he]; rfl
    rw [this, if_pos rfl]
    exact ⟨hy, inside_iff.2 (by cases hy' : y.e <;> simp)⟩
theorem widen_eq {steps : List Int} (hn : steps.length < 4611686018427387904) (a b : I3) : ints_Widen a b steps = wd (nrm a) (nrm b) steps ∧ ints_Widen_s a b steps = true := by
  have nj := nm_wd (nm_nrm a) (nm_nrm b) steps
  have hj := nrm_nm (nm_nrm a)
  simp only [ints_Widen, ints_Widen_s, ints_Widen_t, ints_Widen_T, ints_Widen_L0_ok, ints_Widen_L0_v, Tr.val, Tr.safe, widen_L0 _ _ _ _ _ _ _ _ _ _ hn, norm_eq, join2_eq, make_eq, hj, Option.isSome_some, Option.getD_some, Bool.true_and]
  revert nj
  unfold wd
  cases he : (nrm a).e
  · intro nj
    simp only [Bool.false_eq_true, if_false] at nj
    simp only [cond_false, Bool.false_eq_true, if_false]
    generalize (join (nrm a) (nrm b)) = j at *
    have n1 := nrm_nm nj.1
    by_cases h1 : j.lo = (nrm a).lo <;> by_cases h2 : j.hi = (nrm a).hi
    · rw [beq_iff_eq.2 h1, beq_iff_eq.2 h2]; rw [if_pos h1, if_pos h2] at n1 ⊢; exact ⟨n1, rfl⟩
    · rw [beq_iff_eq.2 h1, beq_eq_false_iff_ne.2 h2]; rw [if_pos h1, if_neg h2] at n1 ⊢; exact ⟨n1, rfl⟩
    · rw [beq_eq_false_iff_ne.2 h1, beq_iff_eq.2 h2]; rw [if_neg h1, if_pos h2] at n1 ⊢; exact ⟨n1, rfl⟩
    · rw [beq_eq_false_iff_ne.2 h1, beq_eq_false_iff_ne.2 h2]; rw [if_neg h1, if_neg h2] at n1 ⊢; exact ⟨n1, rfl⟩
  · intro _
    exact ⟨rfl, rfl⟩
theorem rwiden_eq {steps : List Int} (hn : steps.length < 4611686018427387904) (a b : I3) : ref_Widen a b steps = wd (nrm a) (nrm b) steps ∧ ref_Widen_s a b steps = true := by
  have nj := nm_wd (nm_nrm a) (nm_nrm b) steps
  have hj := nrm_nm (nm_nrm a)
  have hb := nrm_nm (nm_nrm b)
  have hin := join_l (x := nrm a) (y := nrm b)
  simp only [ref_Widen, ref_Widen_s, ref_Widen_t, ref_Widen_T, ref_Widen_L0_ok, ref_Widen_L0_v, ref_Widen_L1_ok, ref_Widen_L1_v, Tr.val, Tr.safe, refW_L0 _ _ _ _ _ _ _ _ _ _ _ hn, refW_L1 _ _ _ _ _ _ _ _ _ hn, rnorm_eq, rjoin_eq, hj, hb, Option.isSome_some, Option.getD_some, Bool.true_and]
  revert nj
  unfold wd
  cases he : (nrm a).e
  · intro nj
    simp only [Bool.false_eq_true, if_false] at nj
    simp only [cond_false, Bool.false_eq_true, if_false]
    rw [inside_iff] at hin
    rw [he] at hin
    simp only [Bool.false_eq_true, false_or, true_and] at hin
    generalize (join (nrm a) (nrm b)) = j at *
    obtain ⟨je, jl, jh⟩ := j
    simp only at hin nj ⊢
    obtain ⟨rfl, hl, hh⟩ := hin
    have n1 := nrm_nm nj.1
    by_cases h1 : jl = (nrm a).lo <;> by_cases h2 : jh = (nrm a).hi
    · rw [decide_eq_false (show ¬ jl < (nrm a).lo by omega), decide_eq_false (show ¬ jh > (nrm a).hi by omega)]; rw [if_pos h1, if_pos h2] at n1 ⊢; exact ⟨n1, rfl⟩
    · rw [decide_eq_false (show ¬ jl < (nrm a).lo by omega), decide_eq_true (show jh > (nrm a).hi by omega)]; rw [if_pos h1, if_neg h2] at n1 ⊢; exact ⟨n1, rfl⟩
    · rw [decide_eq_true (show jl < (nrm a).lo by omega), decide_eq_false (show ¬ jh > (nrm a).hi by omega)]; rw [if_neg h1, if_pos h2] at n1 ⊢; exact ⟨n1, rfl⟩
    · rw [decide_eq_true (show jl < (nrm a).lo by omega), decide_eq_true (show jh > (nrm a).hi by omega)]; rw [if_neg h1, if_neg h2] at n1 ⊢; exact ⟨n1, rfl⟩
  · intro _
    exact ⟨rfl, rfl⟩
theorem inside_trans {x y z : I3} (h1 : inside x y = true) (h2 : inside y z = true) : inside x z = true := by
  rw [inside_iff] at *
  rcases h1 with h1 | h1
  · exact .inl h1
  rcases h2 with h2 | h2
  · rw [h2] at h1; cases h1.2.1
  exact .inr ⟨h1.1, h2.2.1, by omega, by omega⟩
theorem IntsWidens_both (a b : I3) (steps : List Int) : l17_IntsWidens a b steps = true ∧ l17_IntsWidens_s a b steps = true := by
  simp only [l17_IntsWidens, l17_IntsWidens_s, l17_IntsWidens_t, l17_IntsWidens_T, Tr.val, Tr.safe, works17]
  by_cases h : (steps.length : Int) > 200
  · rw [decide_eq_true h]; exact ⟨rfl, rfl⟩
  · rw [decide_eq_false h]
    have hn : steps.length < 4611686018427387904 := by omega
    obtain ⟨n1, n2⟩ := nm_wd (nm_nrm a) (nm_nrm b) steps
    simp only [(widen_eq hn a b).1, (widen_eq hn a b).2, (rwiden_eq hn a b).1, (rwiden_eq hn a b).2, inside_eq, nrm_nm n1, inside_trans join_l n2, inside_trans join_r n2, beq_self_eq_true]
    exact ⟨rfl, rfl⟩
end Go.Proofs.Ytfbpklopnnnniaa
