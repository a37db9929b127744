/- Contracts and laws of functions of the program, on the way to the claim. Conditions: as each theorem states. -/
import Derived.Test.YtgaapeaclbpaeaaWC1
namespace Go.Fb
open Go.Ev

theorem tshr_lost {a : U3} (ha : W3 a) {n : Nat} (hn : n < 9223372036854775808) : (u3_Shr a (n : Int)).2 = decide (n3 a % 2 ^ n ≠ 0) := by
  obtain ⟨ahi, amid, alo⟩ := a
  obtain ⟨h1, h2, h3⟩ := ha
  simp only at h1 h2 h3
  obtain ⟨hi, rfl⟩ := Int.eq_ofNat_of_zero_le h1.1
  obtain ⟨mid, rfl⟩ := Int.eq_ofNat_of_zero_le h2.1
  obtain ⟨lo, rfl⟩ := Int.eq_ofNat_of_zero_le h3.1
  have b1 := h1.2
  have b2 := h2.2
  have b3 := h3.2
  obtain ⟨r, k1, k2⟩ := tshr_run (false, 0, 0, 0) (n / 64) n false hi mid lo (by omega) (by omega) (by omega) (by omega) hn
  have hr : u3_Shr_L0_r (false, 0, 0, 0) ((n : Int), false, (hi : Int), (mid : Int), (lo : Int)) = some r := runB_of k1 (by omega)
  have en : n3 ⟨(hi : Int), (mid : Int), (lo : Int)⟩ = lo + 18446744073709551616 * (mid + 18446744073709551616 * hi) := rfl
  rw [en]
  match r, hr, k2 with
  | .inr (l', x, y, w), hr, k2 =>
    obtain ⟨rfl, rfl, rfl, q4, q5⟩ := k2
    have ht : u3_Shr_L0_rt (false, 0, 0, 0) ((n : Int), false, (hi : Int), (mid : Int), (lo : Int)) = true := by unfold u3_Shr_L0_rt; rw [hr]; rfl
    have hv : u3_Shr_L0_rv (false, 0, 0, 0) ((n : Int), false, (hi : Int), (mid : Int), (lo : Int)) = (l', 0, 0, 0) := by unfold u3_Shr_L0_rv; rw [hr]; rfl
    simp only [u3_Shr, u3_Shr_t, u3_Shr_T, Tr.val, ht, hv, cond_true]
    simpa using q5
  | .inl (n', l', h', m', o'), hr, k2 =>
    obtain ⟨k, H, M, O, rfl, rfl, rfl, rfl, q5, q6, q7, q8, q9, q10⟩ := k2
    have ht : u3_Shr_L0_rt (false, 0, 0, 0) ((n : Int), false, (hi : Int), (mid : Int), (lo : Int)) = false := by unfold u3_Shr_L0_rt; rw [hr]; rfl
    have hv : u3_Shr_L0_v (false, 0, 0, 0) ((n : Int), false, (hi : Int), (mid : Int), (lo : Int)) = ((k : Int), l', (H : Int), (M : Int), (O : Int)) := by unfold u3_Shr_L0_v; rw [hr]; rfl
    rw [Bool.false_or] at q10
    rw [← q10]
    rcases Nat.eq_zero_or_pos k with h0 | h0
    · subst h0
      have hd : decide (((0 : Nat) : Int) ≤ 0) = true := rfl
      simp only [u3_Shr, u3_Shr_t, u3_Shr_T, Tr.val, ht, hv, hd, cond_true, cond_false]
      simp [Nat.mod_one]
    · have w1 : IntKind.i64.wrap (64 - (k : Int)) = ((64 - k : Nat) : Int) := by rw [w64 (by omega) (by omega)]; omega
      obtain ⟨_, _, c3⟩ := shr3_core (T := M + 18446744073709551616 * H) (O := O) (k := k) q7 h0 q8
      simp only [u3_Shr, u3_Shr_t, u3_Shr_T, Tr.val, ht, hv, w1, shl_nat _ (64 - k) (by omega)]
      rw [decide_eq_false (show ¬ (k : Int) ≤ 0 by omega), c3]
      have e : O * 2 ^ (64 - k) % 18446744073709551616 = 2 ^ (64 - k) * (O % 2 ^ k) := by
        have := mul_mod_pow O (n := 64 - k) (by omega)
        rw [show 64 - (64 - k) = k by omega] at this
        exact this
      cases l'
      · simp only [cond_false, Bool.false_or]
        rw [e]
        by_cases hz : O % 2 ^ k = 0
        · rw [hz, Nat.mul_zero]; rfl
        · have : 0 < 2 ^ (64 - k) * (O % 2 ^ k) := Nat.mul_pos (Nat.two_pow_pos _) (by omega)
          rw [decide_eq_true (by omega)]
          generalize 2 ^ (64 - k) * (O % 2 ^ k) = q at *
          simp; omega
      · simp
theorem bv_drop (l : List Bool) (n : Nat) : bv (l.drop n) = bv l / 2 ^ n := by
  induction n generalizing l with
  | zero => simp
  | succ n ih =>
    cases l with
    | nil => simp [bv]
    | cons x l =>
      rw [List.drop_succ_cons, ih, bv, Nat.pow_succ, Nat.mul_comm (2 ^ n), ← Nat.div_div_eq_div_mul]
      congr 1
      cases x <;> simp
      omega
/-- to no side -/
theorem shr_neg (a : U2) {n : Int} (hn : n ≤ 0) : u2_Shr a n = (a, false) ∧ u2_Shr_s a n = true := by
  have h1 : decide (n ≥ 64) = false := by simp; omega
  have h2 : decide (n ≤ 0) = true := by simp; exact hn
  have hr : u2_Shr_L0_r (false, 0, 0) (n, false, a.hi, a.lo) = some (.inl (n, false, a.hi, a.lo)) := runB_of (n := 1) (by
    rw [runL]; simp only [u2_Shr_L0_step, u2_Shr_L0_T, h1, Tr.safe, Tr.val]; rfl) (by decide)
  simp only [u2_Shr, u2_Shr_s, u2_Shr_t, u2_Shr_T, Tr.val, Tr.safe, u2_Shr_L0_ok, u2_Shr_L0_rt, u2_Shr_L0_v, hr, h2, Option.isSome_some, isR, outL_, cond_true, cond_false, Bool.true_and, and_self]
theorem shl_neg (a : U2) {n : Int} (hn : n ≤ 0) : u2_Shl a n = a ∧ u2_Shl_s a n = true := by
  have h1 : decide (n ≥ 64) = false := by simp; omega
  have h2 : decide (n ≤ 0) = true := by simp; exact hn
  have hr : u2_Shl_L0_r (0, 0) (n, a.hi, a.lo) = some (.inl (n, a.hi, a.lo)) := runB_of (n := 1) (by
    rw [runL]; simp only [u2_Shl_L0_step, u2_Shl_L0_T, h1, Tr.safe, Tr.val]; rfl) (by decide)
  simp only [u2_Shl, u2_Shl_s, u2_Shl_t, u2_Shl_T, Tr.val, Tr.safe, u2_Shl_L0_ok, u2_Shl_L0_rt, u2_Shl_L0_v, hr, h2, Option.isSome_some, isR, outL_, cond_true, cond_false, Bool.true_and, and_self]
theorem tshr_neg (a : U3) {n : Int} (hn : n ≤ 0) : u3_Shr a n = (a, false) ∧ u3_Shr_s a n = true := by
  have h1 : decide (n ≥ 64) = false := by simp; omega
  have h2 : decide (n ≤ 0) = true := by simp; exact hn
  have hr : u3_Shr_L0_r (false, 0, 0, 0) (n, false, a.hi, a.mid, a.lo) = some (.inl (n, false, a.hi, a.mid, a.lo)) := runB_of (n := 1) (by
    rw [runL]; simp only [u3_Shr_L0_step, u3_Shr_L0_T, h1, Tr.safe, Tr.val]; rfl) (by decide)
  simp only [u3_Shr, u3_Shr_s, u3_Shr_t, u3_Shr_T, Tr.val, Tr.safe, u3_Shr_L0_ok, u3_Shr_L0_rt, u3_Shr_L0_v, hr, h2, Option.isSome_some, isR, outL_, cond_true, cond_false, Bool.true_and, and_self]
theorem tshl_neg (a : U3) {n : Int} (hn : n ≤ 0) : u3_Shl a n = a ∧ u3_Shl_s a n = true := by
  have h1 : decide (n ≥ 64) = false := by simp; omega
  have h2 : decide (n ≤ 0) = true := by simp; exact hn
  have hr : u3_Shl_L0_r (0, 0, 0) (n, a.hi, a.mid, a.lo) = some (.inl (n, a.hi, a.mid, a.lo)) := runB_of (n := 1) (by
    rw [runL]; simp only [u3_Shl_L0_step, u3_Shl_L0_T, h1, Tr.safe, Tr.val]; rfl) (by decide)
  simp only [u3_Shl, u3_Shl_s, u3_Shl_t, u3_Shl_T, Tr.val, Tr.safe, u3_Shl_L0_ok, u3_Shl_L0_rt, u3_Shl_L0_v, hr, h2, Option.isSome_some, isR, outL_, cond_true, cond_false, Bool.true_and, and_self]
theorem isLen {n l : Nat} (h : LenIs n l) : decide ((l : Int) > 0) = decide (n ≠ 0) := by
  rcases Nat.eq_zero_or_pos l with h0 | h0
  · subst h0
    have := h.1
    have hn : n = 0 := by simpa using this
    subst hn; rfl
  · have := h.2.resolve_left (by omega)
    have hp : 0 < 2 ^ (l - 1) := Nat.two_pow_pos _
    rw [decide_eq_true (by omega), decide_eq_true (by omega)]
/-- rows of bits, shifted -/
theorem lshr_spec {a : List Bool} (ha : a.length ≤ 1000) (n : Int) : l1_shr_s a n = true ∧ (l1_shr a n).1 = a.drop (min n.toNat a.length) ∧ (l1_shr a n).2 = decide (bv a % 2 ^ (min n.toNat a.length) ≠ 0) := by
  have hk : imin (imax n 0) (a.length : Int) = ((min n.toNat a.length : Nat) : Int) := by unfold imin imax; split <;> split <;> omega
  obtain ⟨l, t1, t2, t3, t4, t5, t6⟩ := trim_spec (a := a.take (min n.toNat a.length)) (by simp; omega)
  have hd1 : decide (0 ≤ ((min n.toNat a.length : Nat) : Int)) = true := by simp only [decide_eq_true_eq]; omega
  have hd2 : decide (((min n.toNat a.length : Nat) : Int) ≤ (a.length : Int)) = true := by simp only [decide_eq_true_eq]; omega
  have hd3 : decide ((a.length : Int) ≤ (a.length : Int)) = true := by simp
  have hz : Int.toNat 0 = 0 := rfl
  simp only [l1_shr, l1_shr_s, l1_shr_t, l1_shr_T, Tr.val, Tr.safe, hk, Option.getD_some, Option.getD_none, hd1, hd2, hd3, Int.toNat_natCast, hz, Nat.sub_zero, List.drop_zero, t1, t2, Bool.true_and, true_and]
  refine ⟨List.take_of_length_le (by simp), ?_⟩
  rw [isLen t6, bv_take _ _ (by omega)]
theorem lshl_spec {a : List Bool} (ha : a.length ≤ 1000) (n : Int) : l1_shl_s a n = true ∧ (l1_shl a n).length = a.length ∧ bv (l1_shl a n) = 2 ^ (min n.toNat a.length) * (bv a % 2 ^ (a.length - min n.toNat a.length)) := by
  have hk : imin (imax n 0) (a.length : Int) = ((min n.toNat a.length : Nat) : Int) := by unfold imin imax; split <;> split <;> omega
  have hw : IntKind.i64.wrap ((a.length : Int) - ((min n.toNat a.length : Nat) : Int)) = ((a.length - min n.toNat a.length : Nat) : Int) := by rw [w64 (by omega) (by omega)]; omega
  have hd1 : decide (0 ≤ ((a.length - min n.toNat a.length : Nat) : Int)) = true := by simp only [decide_eq_true_eq]; omega
  have hd2 : decide (((a.length - min n.toNat a.length : Nat) : Int) ≤ (a.length : Int)) = true := by simp only [decide_eq_true_eq]; omega
  have hz : Int.toNat 0 = 0 := rfl
  have hl : (a.take (a.length - min n.toNat a.length)).length = a.length - min n.toNat a.length := by simp
  obtain ⟨s1, s2⟩ := shl_spec (a := a.take (a.length - min n.toNat a.length)) (n := min n.toNat a.length) (by omega) (by omega)
  have s3 := bv_shl (a := a.take (a.length - min n.toNat a.length)) (n := min n.toNat a.length) (by omega) (by omega)
  simp only [l1_shl, l1_shl_s, l1_shl_t, l1_shl_T, Tr.val, Tr.safe, hk, hw, Option.getD_some, hd1, hd2, Int.toNat_natCast, hz, Nat.sub_zero, List.drop_zero, s2, Bool.true_and, true_and]
  refine ⟨?_, ?_⟩
  · rw [s1]; simp; omega
  · rw [s3, bv_take _ _ (by omega)]
theorem big_shift {N L n : Nat} (h : N < 2 ^ L) : N / 2 ^ (min n L) = N / 2 ^ n ∧ (N % 2 ^ (min n L) ≠ 0 ↔ N % 2 ^ n ≠ 0) ∧ 2 ^ (min n L) * (N % 2 ^ (L - min n L)) = N * 2 ^ n % 2 ^ L := by
  rcases Nat.lt_or_ge n L with h' | h'
  · rw [Nat.min_eq_left (by omega)]
    refine ⟨rfl, Iff.rfl, ?_⟩
    have e : 2 ^ L = 2 ^ n * 2 ^ (L - n) := by rw [← Nat.pow_add, Nat.add_sub_cancel' (by omega)]
    rw [e, Nat.mul_comm N, Nat.mul_mod_mul_left]
  · have hle : 2 ^ L ≤ 2 ^ n := Nat.pow_le_pow_right (by decide) h'
    rw [Nat.min_eq_right h']
    refine ⟨by rw [Nat.div_eq_of_lt h, Nat.div_eq_of_lt (by omega)], by rw [Nat.mod_eq_of_lt h, Nat.mod_eq_of_lt (by omega)], ?_⟩
    have e : 2 ^ n = 2 ^ L * 2 ^ (n - L) := by rw [← Nat.pow_add, Nat.add_sub_cancel' h']
    rw [Nat.sub_self, Nat.pow_zero, Nat.mod_one, Nat.mul_zero, e, Nat.mul_left_comm, Nat.mul_mod_right]
theorem WideShifts_both {a : U2} {b : U3} {n : Int} (ha : W2 a) (hb : W3 b) (hn : -9223372036854775808 ≤ n ∧ n ≤ 9223372036854775807) : l1_WideShifts a b n = true ∧ l1_WideShifts_s a b n = true := by
  obtain ⟨o1, o2, o3⟩ := of_spec ha
  obtain ⟨p1, p2, p3⟩ := ofT_spec hb
  obtain ⟨r1, r2, r3⟩ := lshr_spec (a := l1_of a) (by omega) n
  obtain ⟨q1, q2, q3⟩ := lshr_spec (a := l1_of3 b) (by omega) n
  obtain ⟨s1, s2, s3⟩ := lshl_spec (a := l1_of a) (by omega) n
  obtain ⟨t1, t2, t3⟩ := lshl_spec (a := l1_of3 b) (by omega) n
  have e128 : (2 : Nat) ^ 128 = 340282366920938463463374607431768211456 := by decide
  have e192 : (2 : Nat) ^ 192 = 6277101735386680763835789423207666416102355444464034512896 := by decide
  have ga := big_shift (N := n2 a) (L := 128) (n := n.toNat) (n2_lt ha)
  have gb := big_shift (N := n3 b) (L := 192) (n := n.toNat) (n3_lt hb)
  rw [o2, o3] at r3 s3
  rw [p2, p3] at q3 t3
  rw [ga.2.2, e128] at s3
  rw [gb.2.2, e192] at t3
  have hva : bv (l1_shr (l1_of a) n).1 = n2 a / 2 ^ n.toNat := by rw [r2, bv_drop, o2, o3, ga.1]
  have hvb : bv (l1_shr (l1_of3 b) n).1 = n3 b / 2 ^ n.toNat := by rw [q2, bv_drop, p2, p3, gb.1]
  have hla : (l1_shr (l1_of a) n).1.length ≤ 900000 := by rw [r2]; simp; omega
  have hlb : (l1_shr (l1_of3 b) n).1.length ≤ 900000 := by rw [q2]; simp; omega
  have hlost : (l1_shr (l1_of a) n).2 = decide (n2 a % 2 ^ n.toNat ≠ 0) := by rw [r3]; exact decide_eq_decide.2 ga.2.1
  have hlostb : (l1_shr (l1_of3 b) n).2 = decide (n3 b % 2 ^ n.toNat ≠ 0) := by rw [q3]; exact decide_eq_decide.2 gb.2.1
  -- what the program makes of it
  have key : u2_Shr_s a n = true ∧ u3_Shr_s b n = true ∧ u2_Shl_s a n = true ∧ u3_Shl_s b n = true ∧ W2 (u2_Shr a n).1 ∧ n2 (u2_Shr a n).1 = n2 a / 2 ^ n.toNat ∧ (u2_Shr a n).2 = decide (n2 a % 2 ^ n.toNat ≠ 0) ∧
      W3 (u3_Shr b n).1 ∧ n3 (u3_Shr b n).1 = n3 b / 2 ^ n.toNat ∧ (u3_Shr b n).2 = decide (n3 b % 2 ^ n.toNat ≠ 0) ∧ W2 (u2_Shl a n) ∧ n2 (u2_Shl a n) = n2 a * 2 ^ n.toNat % 340282366920938463463374607431768211456 ∧
      W3 (u3_Shl b n) ∧ n3 (u3_Shl b n) = n3 b * 2 ^ n.toNat % 6277101735386680763835789423207666416102355444464034512896 := by
    by_cases h : n < 0
    · obtain ⟨x1, x2⟩ := shr_neg a (n := n) (by omega)
      obtain ⟨y1, y2⟩ := shl_neg a (n := n) (by omega)
      obtain ⟨z1, z2⟩ := tshr_neg b (n := n) (by omega)
      obtain ⟨w1, w2⟩ := tshl_neg b (n := n) (by omega)
      have h0 : n.toNat = 0 := by omega
      rw [x1, y1, z1, w1, h0]
      refine ⟨x2, z2, y2, w2, ha, by simp, by simp [Nat.mod_one], hb, by simp, by simp [Nat.mod_one], ha, ?_, hb, ?_⟩
      · rw [Nat.pow_zero, Nat.mul_one, Nat.mod_eq_of_lt (n2_lt ha)]
      · rw [Nat.pow_zero, Nat.mul_one, Nat.mod_eq_of_lt (n3_lt hb)]
    · obtain ⟨m, rfl⟩ := Int.eq_ofNat_of_zero_le (Int.not_lt.1 h)
      have hm : m < 9223372036854775808 := by omega
      obtain ⟨x1, x2, x3, x4⟩ := ushr_spec ha hm
      obtain ⟨y1, y2, y3⟩ := ushl_spec ha hm
      obtain ⟨z1, z2, z3⟩ := tshr_spec hb hm
      obtain ⟨w1, w2, w3⟩ := tshl_spec hb hm
      simp only [Int.toNat_natCast]
      exact ⟨x1, z1, y1, w1, x2, x3, x4, z2, z3, tshr_lost hb hm, y2, y3, w2, w3⟩
  obtain ⟨k1, k2, k3, k4, k5, k6, k7, k8, k9, k10, k11, k12, k13, k14⟩ := key
  obtain ⟨i1, i2⟩ := is_spec (b := (l1_shr (l1_of a) n).1) k5 hla
  obtain ⟨j1, j2⟩ := is3_spec (b := (l1_shr (l1_of3 b) n).1) k8 hlb
  obtain ⟨u1, u2⟩ := is_spec (b := l1_shl (l1_of a) n) k11 (by omega)
  obtain ⟨v1, v2⟩ := is3_spec (b := l1_shl (l1_of3 b) n) k13 (by omega)
  rw [k6, hva, decide_eq_true rfl] at i1
  rw [k9, hvb, decide_eq_true rfl] at j1
  rw [k12, s3, decide_eq_true rfl] at u1
  rw [k14, t3, decide_eq_true rfl] at v1
  simp only [l1_WideShifts, l1_WideShifts_s, l1_WideShifts_t, l1_WideShifts_T, Tr.val, Tr.safe, works1, k1, k2, k3, k4, o1, p1, r1, q1, s1, t1, i1, i2, j1, j2, u1, u2, v1, v2, k7, hlost, k10, hlostb, beq_self_eq_true]
  exact ⟨rfl, rfl⟩
end Go.Fb
