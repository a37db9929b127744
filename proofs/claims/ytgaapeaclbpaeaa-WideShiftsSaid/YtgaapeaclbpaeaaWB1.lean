/- Contracts and laws of functions of the program, on the way to the claim. Conditions: as each theorem states. -/
import Derived.Test.YtgaapeaclbpaeaaWA2
namespace Go.Fb
open Go.Ev

/-- without noughts ahead -/
theorem trim_spec {a : List Bool} (ha : a.length ≤ 1000000) : ∃ l : Nat, r1_Len_s a = true ∧ r1_Len a = (l : Int) ∧ l ≤ a.length ∧ bv (a.take l) = bv a ∧ (a.take l).length = l ∧ LenIs (bv a) l := by
  obtain ⟨h1, l, h2, h3⟩ := rlen_spec ha
  have hl : l ≤ a.length := lenIs_le h3 (bv_lt a)
  exact ⟨l, h1, h2, hl, by rw [bv_take _ _ hl, Nat.mod_eq_of_lt h3.1], by simp [hl], h3⟩
theorem dm_step {N n c B : Nat} (hB : 0 < B) (h : N = 2 * n + c) : (2 * (n % B) + c) % B = N % B ∧ N / B = 2 * (n / B) + (2 * (n % B) + c) / B := by
  have e : N = 2 * (n % B) + c + B * (2 * (n / B)) := by
    have := Nat.div_add_mod n B
    rw [Nat.mul_left_comm, h]
    omega
  rw [e, Nat.add_mul_mod_self_left, Nat.add_mul_div_left _ _ hB]
  exact ⟨rfl, by omega⟩
theorem take_eq (l : List Bool) (n : Nat) : List.take ((n : Int).toNat - Int.toNat 0) (List.drop (Int.toNat 0) l) = l.take n := by simp
theorem rdiv_run {a b : List Bool} (ha : a.length ≤ 800000) (hb : b.length ≤ 800000) (hB : 0 < bv b) : ∀ (j : Nat), j ≤ a.length → ∀ (r q : List Bool), r.length ≤ b.length → bv r = bv a / 2 ^ j % bv b → q.length = a.length → bv q = bv a / 2 ^ j / bv b * 2 ^ j →
    ∃ r' q' : List Bool, runL (r1_Div_L0_step (a, b)) (j + 1) (r, (j : Int) - 1, q) = some (r', -1, q') ∧ r'.length ≤ b.length ∧ bv r' = bv a % bv b ∧ q'.length = a.length ∧ bv q' = bv a / bv b ∧ (j = 0 ∨ LenIs (bv r') r'.length)
  | 0, _, r, q, hr, hrv, hq, hqv => by
    refine ⟨r, q, ?_, hr, by simpa using hrv, hq, by simpa using hqv, .inl rfl⟩
    rw [runL]; rfl
  | j + 1, hj, r, q, hr, hrv, hq, hqv => by
    have e : ((j + 1 : Nat) : Int) - 1 = (j : Int) := by omega
    rw [e, runL]
    simp only [r1_Div_L0_step, r1_Div_L0_T]
    have hj0 : decide ((j : Int) ≥ 0) = true := by simp
    have hj1 : decide (0 ≤ (j : Int)) = true := by simp
    have hj2 : decide ((j : Int) < (a.length : Int)) = true := by simp; omega
    have hj3 : decide ((j : Int) < (q.length : Int)) = true := by simp; omega
    have hsz : decide (([a.getD j false].length + r.length) * 1 ≤ 140737488355328) = true := by simp; omega
    have hw : IntKind.i64.wrap ((j : Int) - 1) = (j : Int) - 1 := w64 (by omega) (by omega)
    have htn : (j : Int).toNat = j := rfl
    simp only [htn, hj0, hj1, hj2, hj3, hsz, hw, Tr.safe, Tr.val, cond_true, Bool.true_and, Option.getD_some]
    generalize hx : [a.getD j false] ++ r = x
    have hxl : x.length = r.length + 1 := by rw [← hx]; simp
    have hxv : bv x = 2 * bv r + bv a / 2 ^ j % 2 := by rw [← hx]; simp only [List.cons_append, List.nil_append, bv, getD_bit]; omega
    -- what the bit makes of it
    have hstep := div_step (bv a) j
    obtain ⟨hmod, hdiv⟩ := dm_step hB hstep
    rw [← hrv, ← hxv] at hmod hdiv
    have hx2 : bv x < 2 * bv b := by
      have := Nat.mod_lt (bv a / 2 ^ (j + 1)) hB
      rw [← hrv] at this
      have := Nat.mod_lt (bv a / 2 ^ j) (show 0 < 2 by decide)
      omega
    obtain ⟨hc, hcs⟩ := cmp_spec (a := x) (b := b) (by omega) (by omega)
    simp only [hc, hcs]
    have hqj : q.getD j false = false := by
      have h1 := getD_bit q j
      rw [hqv, Nat.pow_succ, ← Nat.mul_assoc, Nat.mul_right_comm, Nat.mul_div_cancel _ (Nat.two_pow_pos j), Nat.mul_mod_left] at h1
      cases h : q.getD j false with
      | false => rfl
      | true => rw [h] at h1; cases h1
    by_cases hge : bv b ≤ bv x
    · have hcv : decide (cmpN (bv x) (bv b) ≥ 0) = true := by unfold cmpN; simp; split <;> (try split) <;> omega
      obtain ⟨s1, s2, s3, _⟩ := sub_le (a := x) (b := b) (n := x.length) (by omega) (bv_lt x) hge
      obtain ⟨l, t1, t2, t3, t4, t5, t6⟩ := trim_spec (a := (r1_Sub x b (x.length : Int)).1) (by omega)
      simp only [hcv, s1, t1, t2, cond_true, Bool.true_and, take_eq]
      have hd1 : decide (0 ≤ (l : Int)) = true := by simp
      have hd2 : decide ((l : Int) ≤ (((r1_Sub x b (x.length : Int)).1.length : Nat) : Int)) = true := by simp; omega
      simp only [hd1, hd2, Bool.true_and, cond_true]
      have hxdiv : bv x / bv b = 1 := by
        refine Nat.div_eq_of_lt_le (by omega) (by omega)
      have hxmod : bv x % bv b = bv x - bv b := by
        rw [Nat.mod_eq_sub_mod hge, Nat.mod_eq_of_lt (by omega)]
      obtain ⟨r', q', g1, g2, g3, g4, g5, g6⟩ := rdiv_run ha hb hB j (by omega) ((r1_Sub x b (x.length : Int)).1.take l) (q.set j true)
        (by rw [t5]; rw [s3] at t6; exact lenIs_le t6 (Nat.lt_trans (by omega : bv x - bv b < bv b) (bv_lt b))) (by rw [t4, s3, ← hxmod, hmod]) (by simp [hq]) (by
          have := bv_set q j true (by omega)
          rw [hqj] at this
          simp only [Bool.toNat_false, Nat.mul_zero, Nat.add_zero, Bool.toNat_true, Nat.mul_one] at this
          rw [this, hqv, hdiv, hxdiv, Nat.pow_succ, Nat.add_mul, Nat.one_mul, Nat.mul_comm (2 ^ j) 2, Nat.mul_left_comm, Nat.mul_assoc])
      refine ⟨r', q', g1, g2, g3, g4, g5, .inr ?_⟩
      rcases g6 with g6 | g6
      · subst g6
        rw [runL] at g1
        cases g1
        rw [t4, t5]; exact t6
      · exact g6
    · have hcv : decide (cmpN (bv x) (bv b) ≥ 0) = false := by unfold cmpN; simp; split <;> (try split) <;> omega
      obtain ⟨l, t1, t2, t3, t4, t5, t6⟩ := trim_spec (a := x) (by omega)
      simp only [hcv, t1, t2, cond_true, cond_false, Bool.true_and, take_eq]
      have hd1 : decide (0 ≤ (l : Int)) = true := by simp
      have hd2 : decide ((l : Int) ≤ ((x.length : Nat) : Int)) = true := by simp; omega
      simp only [hd1, hd2, Bool.true_and, cond_true]
      have hxdiv : bv x / bv b = 0 := Nat.div_eq_of_lt (by omega)
      have hxmod : bv x % bv b = bv x := Nat.mod_eq_of_lt (by omega)
      obtain ⟨r', q', g1, g2, g3, g4, g5, g6⟩ := rdiv_run ha hb hB j (by omega) (x.take l) q
        (by rw [t5]; exact lenIs_le t6 (Nat.lt_trans (by omega : bv x < bv b) (bv_lt b))) (by rw [t4, ← hxmod, hmod]) hq (by
          rw [hqv, hdiv, hxdiv, Nat.pow_succ, Nat.add_zero, Nat.mul_comm (2 ^ j) 2, Nat.mul_left_comm, Nat.mul_assoc])
      refine ⟨r', q', g1, g2, g3, g4, g5, .inr ?_⟩
      rcases g6 with g6 | g6
      · subst g6
        rw [runL] at g1
        cases g1
        rw [t4, t5]; exact t6
      · exact g6
theorem lenIs_zero : LenIs 0 0 := ⟨by decide, .inl rfl⟩
theorem rdiv_spec {a b : List Bool} (ha : a.length ≤ 800000) (hb : b.length ≤ 800000) (hB : 0 < bv b) : r1_Div_s a b = true ∧ (r1_Div a b).1.length = a.length ∧ bv (r1_Div a b).1 = bv a / bv b ∧ (r1_Div a b).2.length ≤ b.length ∧ bv (r1_Div a b).2 = bv a % bv b ∧ LenIs (bv a % bv b) (r1_Div a b).2.length := by
  obtain ⟨r', q', g1, g2, g3, g4, g5, g6⟩ := rdiv_run ha hb hB a.length (Nat.le_refl _) [] (List.replicate a.length false) (Nat.zero_le _) (by rw [Nat.div_eq_of_lt (bv_lt a)]; simp [bv]) (by simp) (by rw [Nat.div_eq_of_lt (bv_lt a)]; simp [bv_rep])
  have hr : r1_Div_L0_r (a, b) ([], IntKind.i64.wrap ((a.length : Int) - 1), List.replicate ((a.length : Int)).toNat false) = some (r', -1, q') := by
    rw [w64 (by omega) (by omega)]
    exact runB_of g1 (by omega)
  have h1 : decide ((a.length : Int) ≤ (a.length : Int)) = true := by simp
  have h2 : decide ((1 : Int) * (a.length : Int) ≤ 281474976710656) = true := by simp; omega
  simp only [r1_Div, r1_Div_s, r1_Div_t, r1_Div_T, Tr.val, Tr.safe, r1_Div_L0_ok, r1_Div_L0_v, hr, h1, h2, Option.isSome_some, Option.getD_some, Bool.true_and]
  refine ⟨trivial, g4, g5, g2, g3, ?_⟩
  rcases g6 with g6 | g6
  · have ha0 : a = [] := List.length_eq_zero_iff.1 g6
    subst ha0
    have : r' = [] := by
      rw [runL] at g1
      cases g1; rfl
    subst this
    simp only [bv, Nat.zero_mod]
    exact lenIs_zero
  · rw [← g3]; exact g6
/-- by nought: nothing is taken away -/
theorem udiv_spec {a : U2} (ha : W2 a) {b : Int} (hb : Wd b) (hb0 : 0 < b.toNat) : u2_Div_s a b = true ∧ W2 (u2_Div a b).1 ∧ n2 (u2_Div a b).1 = n2 a / b.toNat ∧ Wd (u2_Div a b).2 ∧ (u2_Div a b).2.toNat = n2 a % b.toNat := by
  obtain ⟨ahi, alo⟩ := a
  obtain ⟨⟨h1, h2⟩, h3, h4⟩ := ha
  simp only at h1 h2 h3 h4
  obtain ⟨hi, rfl⟩ := Int.eq_ofNat_of_zero_le h1
  obtain ⟨lo, rfl⟩ := Int.eq_ofNat_of_zero_le h3
  obtain ⟨y, rfl⟩ := Int.eq_ofNat_of_zero_le hb.1
  have hy := hb.2
  simp only [Int.toNat_natCast] at hb0 ⊢
  obtain ⟨d1, d2⟩ := div64_spec (hi := 0) (lo := hi) (y := y) (by omega) (by omega) hb0
  simp only [Nat.mul_zero, Nat.zero_add, Int.natCast_zero] at d1 d2
  have hm := Nat.mod_lt hi hb0
  obtain ⟨e1, e2⟩ := div64_spec (hi := hi % y) (lo := lo) (y := y) (by omega) (by omega) hm
  have hyb : ((y : Int) == 0) = false := by simp; omega
  simp only [u2_Div, u2_Div_s, u2_Div_t, u2_Div_T, Tr.val, Tr.safe, d1, d2, e1, e2, hyb, cond_false, Bool.true_and, n2, Int.toNat_natCast, true_and]
  have hq1 : hi / y < 18446744073709551616 := Nat.lt_of_le_of_lt (Nat.div_le_self _ _) (by omega)
  have hq0 : (18446744073709551616 * (hi % y) + lo) / y < 18446744073709551616 := by
    rw [Nat.div_lt_iff_lt_mul hb0]
    omega
  have hsum : lo + 18446744073709551616 * hi = (18446744073709551616 * (hi % y) + lo) + y * (18446744073709551616 * (hi / y)) := by
    have := Nat.div_add_mod hi y
    rw [Nat.mul_left_comm]
    omega
  have hr : (18446744073709551616 * (hi % y) + lo) % y < y := Nat.mod_lt _ hb0
  refine ⟨⟨⟨?_, ?_⟩, ?_, ?_⟩, ?_, ⟨?_, ?_⟩, ?_⟩
  · exact Int.natCast_nonneg _
  · show ((hi / y : Nat) : Int) < _
    generalize hi / y = k at *; omega
  · exact Int.natCast_nonneg _
  · show (((18446744073709551616 * (hi % y) + lo) / y : Nat) : Int) < _
    generalize (18446744073709551616 * (hi % y) + lo) / y = k at *; omega
  · rw [hsum, Nat.add_mul_div_left _ _ hb0]
  · exact Int.natCast_nonneg _
  · show (((18446744073709551616 * (hi % y) + lo) % y : Nat) : Int) < _
    generalize (18446744073709551616 * (hi % y) + lo) % y = k at *; omega
  · rw [hsum, Nat.add_mul_mod_self_left]
end Go.Fb
