/- Contracts and laws of functions of the program, on the way to the claim. Conditions: as each theorem states. -/
import Derived.Test.YtgaapeaclbpaeaaW1j
namespace Go.Fb
open Go.Ev

/-! ### Differences of rows of bits -/
theorem mod_step (n i : Nat) : n % 2 ^ (i + 1) = n % 2 ^ i + 2 ^ i * (n / 2 ^ i % 2) := by rw [Nat.pow_succ, Nat.mod_mul]
theorem sub_step {a b : List Bool} {n : Nat} {z w : Bool} {i : Nat} {out : List Bool} (hi : i < n) (hn : n ≤ 900000) (hl : out.length ≤ 1000000) :
    (r1_Sub_L0_step (a, b, (n : Int), z) (w, i, out)).safe = true ∧ (r1_Sub_L0_step (a, b, (n : Int), z) (w, i, out)).val = .inl ((!a.getD i false && (b.getD i false || w) || a.getD i false && b.getD i false && w), ((i + 1 : Nat) : Int), out ++ [(a.getD i false != b.getD i false) != w]) := by
  obtain ⟨a1, a2⟩ := bit_eq a i
  obtain ⟨b1, b2⟩ := bit_eq b i
  have hd : ∀ x : Bool, decide ((out.length + [x].length) * 1 ≤ 140737488355328) = true := fun x => decide_eq_true (by simp; omega)
  simp only [r1_Sub_L0_step, r1_Sub_L0_T, Tr.val, Tr.safe, a1, a2, b1, b2, hd, wnext (show i < 4611686018427387904 by omega)]
  rw [decide_eq_true (show (i : Int) < (n : Int) by omega)]
  cases a.getD i false <;> cases b.getD i false <;> cases w <;> exact ⟨rfl, rfl⟩
theorem sub_run {a b : List Bool} {n : Nat} (z : Bool) (hn : n ≤ 900000) : ∀ (m i : Nat) (w : Bool) (out : List Bool), i + m = n → out.length = i → bv a % 2 ^ i + 2 ^ i * w.toNat = bv b % 2 ^ i + bv out →
    ∃ w' out', runL (r1_Sub_L0_step (a, b, (n : Int), z)) (m + 1) (w, (i : Int), out) = some (w', (n : Int), out') ∧ out'.length = n ∧ bv a % 2 ^ n + 2 ^ n * w'.toNat = bv b % 2 ^ n + bv out'
  | 0, i, w, out, h, ho, hv => by
    have : i = n := by omega
    subst this
    refine ⟨w, out, ?_, ho, hv⟩
    rw [runL]
    simp only [r1_Sub_L0_step, r1_Sub_L0_T, Tr.val, Tr.safe, decide_eq_false (show ¬ (i : Int) < (i : Int) by omega)]
    rfl
  | m + 1, i, w, out, h, ho, hv => by
    obtain ⟨h1, h2⟩ := sub_step (a := a) (b := b) (z := z) (w := w) (out := out) (show i < n by omega) hn (by omega)
    have hs : ∀ x y w : Bool, x.toNat + 2 * (!x && (y || w) || x && y && w).toNat = y.toNat + w.toNat + ((x != y) != w).toNat := by decide
    have hs := hs (a.getD i false) (b.getD i false) w
    obtain ⟨w', out', k1, k2, k3⟩ := sub_run (a := a) (b := b) z hn m (i + 1) (!a.getD i false && (b.getD i false || w) || a.getD i false && b.getD i false && w) (out ++ [(a.getD i false != b.getD i false) != w]) (by omega) (by simp [ho]) (by
      rw [mod_step (bv a), mod_step (bv b), ← getD_bit, ← getD_bit, bv_snoc, ho, Nat.pow_succ 2 i, Nat.mul_assoc (2 ^ i) 2, Nat.add_assoc, ← Nat.mul_add, hs, Nat.mul_add, Nat.mul_add]
      omega)
    refine ⟨w', out', ?_, k2, k3⟩
    rw [runL, h1, h2]
    exact k1
theorem sub_spec (a b : List Bool) {n : Nat} (hn : n ≤ 900000) : r1_Sub_s a b (n : Int) = true ∧ (r1_Sub a b (n : Int)).1.length = n ∧ bv a % 2 ^ n + 2 ^ n * (r1_Sub a b (n : Int)).2.toNat = bv b % 2 ^ n + bv (r1_Sub a b (n : Int)).1 := by
  obtain ⟨w, out, h1, h2, h3⟩ := sub_run (a := a) (b := b) (n := n) false hn n 0 false [] (by omega) rfl (by simp [bv, Nat.mod_one])
  have hr : r1_Sub_L0_r (a, b, (n : Int), false) (false, 0, []) = some (w, (n : Int), out) := runB_of h1 (by omega)
  simp only [r1_Sub, r1_Sub_s, r1_Sub_t, r1_Sub_T, r1_Sub_L0_ok, r1_Sub_L0_v, hr, Tr.val, Tr.safe, Option.isSome_some, Option.getD_some]
  exact ⟨rfl, h2, h3⟩
/-- a lesser one taken away -/
theorem sub_le {a b : List Bool} {n : Nat} (hn : n ≤ 900000) (ha : bv a < 2 ^ n) (h : bv b ≤ bv a) : r1_Sub_s a b (n : Int) = true ∧ (r1_Sub a b (n : Int)).1.length = n ∧ bv (r1_Sub a b (n : Int)).1 = bv a - bv b ∧ (r1_Sub a b (n : Int)).2 = false := by
  obtain ⟨h1, h2, h3⟩ := sub_spec a b hn
  have hlt := bv_lt (r1_Sub a b (n : Int)).1
  rw [h2] at hlt
  rw [Nat.mod_eq_of_lt ha, Nat.mod_eq_of_lt (by omega)] at h3
  refine ⟨h1, h2, ?_, ?_⟩
  · cases hw : (r1_Sub a b (n : Int)).2 <;> rw [hw] at h3 <;> simp only [Bool.toNat_true, Bool.toNat_false] at h3 <;> omega
  · cases hw : (r1_Sub a b (n : Int)).2 <;> rw [hw] at h3 <;> simp only [Bool.toNat_true] at h3
    omega

/-! ### Roots of rows of bits -/
theorem bv_set : ∀ (l : List Bool) (i : Nat) (b : Bool), i < l.length → bv (l.set i b) + 2 ^ i * (l.getD i false).toNat = bv l + 2 ^ i * b.toNat
  | [], i, b, h => by simp at h
  | x :: l, 0, b, h => by simp [bv]; omega
  | x :: l, i + 1, b, h => by
    have := bv_set l i b (by simpa using h)
    simp only [List.set_cons_succ, bv, List.getD_cons_succ]
    rw [Nat.pow_succ, Nat.mul_comm (2 ^ i) 2, Nat.mul_assoc, Nat.mul_assoc]
    omega
theorem rsqrt_run {a : List Bool} (ha : a.length ≤ 1000) : ∀ (j : Nat) (root : List Bool), j ≤ 64 → root.length = 64 → bv root % 2 ^ j = 0 → bv root * bv root ≤ bv a → bv a < (bv root + 2 ^ j) * (bv root + 2 ^ j) →
    ∃ root', runL (r1_Sqrt_L0_step a) (j + 1) ((j : Int) - 1, root) = some (-1, root') ∧ root'.length = 64 ∧ IsRt (bv a) (bv root')
  | 0, root, _, hl, _, h1, h2 => by
    refine ⟨root, ?_, hl, h1, h2⟩
    rw [runL]
    rfl
  | j + 1, root, hj, hl, h0, h1, h2 => by
    have e : ((j + 1 : Nat) : Int) - 1 = (j : Int) := by omega
    have e3 : 2 ^ (j + 1) = 2 * 2 ^ j := by rw [Nat.pow_succ]; omega
    have hbit : (root.getD j false).toNat = 0 := by
      rw [getD_bit]
      have hs := mod_step (bv root) j
      rw [h0] at hs
      have hp : 0 < 2 ^ j := Nat.pow_pos (by decide)
      rcases Nat.eq_zero_or_pos (bv root / 2 ^ j % 2) with h | h
      · exact h
      · have := Nat.mul_le_mul_left (2 ^ j) h; omega
    have hm : bv root % 2 ^ j = 0 := by
      have hs := mod_step (bv root) j
      omega
    have s1 := bv_set root j true (by omega)
    have s0 := bv_set root j false (by omega)
    rw [hbit] at s1 s0
    simp only [Bool.toNat_true, Bool.toNat_false, Nat.mul_zero, Nat.mul_one, Nat.add_zero] at s1 s0
    have l1 : (root.set j true).length = 64 := by simp [hl]
    obtain ⟨m1, m2, m3⟩ := mul_spec (a := root.set j true) (b := root.set j true) (by omega)
    obtain ⟨c1, c2⟩ := cmp_spec (a := r1_Mul (root.set j true) (root.set j true)) (b := a) (by omega) (by omega)
    rw [m2, s1] at c1
    rw [e]
    have key : (r1_Sqrt_L0_step a ((j : Int), root)).safe = true ∧ (r1_Sqrt_L0_step a ((j : Int), root)).val = .inl ((j : Int) - 1, if bv a < (bv root + 2 ^ j) * (bv root + 2 ^ j) then root.set j false else root.set j true) := by
      simp only [r1_Sqrt_L0_step, r1_Sqrt_L0_T, Tr.val, Tr.safe, Int.toNat_natCast, m1, c1, c2, l1, hl, List.set_set]
      rw [decide_eq_true (show (j : Int) ≥ 0 by omega), decide_eq_true (show (j : Int) < ((64 : Nat) : Int) by omega), w64 (n := (j : Int) - 1) (by omega) (by omega)]
      by_cases hlt : bv a < (bv root + 2 ^ j) * (bv root + 2 ^ j)
      · have : cmpN ((bv root + 2 ^ j) * (bv root + 2 ^ j)) (bv a) > 0 := by unfold cmpN; rw [if_neg (by omega), if_neg (by omega)]; decide
        rw [decide_eq_true this, if_pos hlt]
        exact ⟨rfl, rfl⟩
      · have : ¬ cmpN ((bv root + 2 ^ j) * (bv root + 2 ^ j)) (bv a) > 0 := by unfold cmpN; split <;> (try split) <;> omega
        rw [decide_eq_false this, if_neg hlt]
        exact ⟨rfl, rfl⟩
    rw [runL, key.1, key.2]
    by_cases hlt : bv a < (bv root + 2 ^ j) * (bv root + 2 ^ j)
    · rw [if_pos hlt]
      exact rsqrt_run ha j (root.set j false) (by omega) (by simp [hl]) (by rw [s0]; exact hm) (by rw [s0]; exact h1) (by rw [s0]; exact hlt)
    · rw [if_neg hlt]
      exact rsqrt_run ha j (root.set j true) (by omega) l1 (by rw [s1, Nat.add_mod, hm]; simp) (by rw [s1]; omega) (by
        rw [s1, Nat.add_assoc, ← Nat.two_mul, ← e3]; exact h2)
theorem rsqrt_spec {a : List Bool} (ha : a.length = 128) : r1_Sqrt_s a = true ∧ (r1_Sqrt a).1.length = 64 ∧ IsRt (bv a) (bv (r1_Sqrt a).1) ∧ (r1_Sqrt a).2.length = 128 ∧ bv (r1_Sqrt a).2 = bv a - bv (r1_Sqrt a).1 * bv (r1_Sqrt a).1 := by
  have hlt := bv_lt a
  rw [ha] at hlt
  obtain ⟨root, h1, h2, h3⟩ := rsqrt_run (a := a) (by omega) 64 (List.replicate 64 false) (by omega) (by simp) (by rw [bv_rep]) (by rw [bv_rep]; omega) (by rw [bv_rep]; simpa using hlt)
  have hr : r1_Sqrt_L0_r a (63, List.replicate (Int.toNat 64) false) = some (-1, root) := runB_of h1 (by omega)
  obtain ⟨m1, m2, m3⟩ := mul_spec (a := root) (b := root) (by omega)
  obtain ⟨k1, k2, k3, _⟩ := sub_le (a := a) (b := r1_Mul root root) (n := a.length) (by omega) (bv_lt a) (by rw [m2]; exact h3.1)
  simp only [r1_Sqrt, r1_Sqrt_s, r1_Sqrt_t, r1_Sqrt_T, r1_Sqrt_L0_ok, r1_Sqrt_L0_v, hr, Tr.val, Tr.safe, Option.isSome_some, Option.getD_some, m1, k1]
  exact ⟨rfl, h2, h3, by omega, by rw [k3, m2]⟩
theorem WideRootsSay_both {a : U2} (ha : W2 a) : l1_WideRootsSay a = true ∧ l1_WideRootsSay_s a = true := by
  obtain ⟨s, q1, q2, q3, q4, q5, q6⟩ := sqrt_spec ha
  obtain ⟨f1, f2, f3⟩ := of_spec ha
  obtain ⟨r1, r2, r3, r4, r5⟩ := rsqrt_spec f2
  rw [f3] at r3 r5
  have es := q3.unique r3
  rw [← es] at r5
  have hw : Wd (s : Int) := by unfold Wd; omega
  obtain ⟨o1, o2, o3⟩ := of1_spec hw
  obtain ⟨i1, i2⟩ := is_spec (b := (r1_Sqrt (l1_of a)).2) q5 (by omega)
  rw [q6, r5, decide_eq_true rfl] at i1
  obtain ⟨c1, c2⟩ := cmp_spec (a := r1_Of1 (s : Int)) (b := (r1_Sqrt (l1_of a)).1) (by omega) (by omega)
  rw [o3, Int.toNat_natCast, ← es] at c1
  have c3 : (cmpN s s == 0) = true := by rw [cmp0]; exact decide_eq_true rfl
  simp only [l1_WideRootsSay, l1_WideRootsSay_s, l1_WideRootsSay_t, l1_WideRootsSay_T, Tr.val, Tr.safe, works1, q1, q2, f1, r1, i1, i2, o1, c1, c2, c3]
  exact ⟨rfl, rfl⟩
end Go.Fb
