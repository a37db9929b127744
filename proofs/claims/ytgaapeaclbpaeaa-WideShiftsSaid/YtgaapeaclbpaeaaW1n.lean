/- Contracts and laws of functions of the program, on the way to the claim. Conditions: as each theorem states. -/
import Derived.Test.YtgaapeaclbpaeaaW1m
namespace Go.Fb
open Go.Ev

/-! ### Shifts of two words -/
theorem shl_nat (x k : Nat) (hk : k ≤ 64) : shlI .u64 (x : Int) (k : Int) = ((x * 2 ^ k % 18446744073709551616 : Nat) : Int) := by
  have e : shlI .u64 (x : Int) (k : Int) = IntKind.u64.wrap ((x : Int) * 2 ^ (min (k : Int).toNat 64)) := rfl
  rw [e, u64w, Int.toNat_natCast, Nat.min_eq_left hk]
  have : (x : Int) * 2 ^ k = ((x * 2 ^ k : Nat) : Int) := by simp
  rw [this]
  omega
theorem or_add {a b i : Nat} (hb : b < 2 ^ i) : 2 ^ i * a ||| b = 2 ^ i * a + b := (Nat.two_pow_add_eq_or_of_lt hb a).symm
theorem pow_split {n : Nat} (hn : n ≤ 64) : 2 ^ n * 2 ^ (64 - n) = 18446744073709551616 := by
  rw [← Nat.pow_add, Nat.add_sub_cancel' hn]
theorem mul_mod_pow (x : Nat) {n : Nat} (hn : n ≤ 64) : x * 2 ^ n % 18446744073709551616 = 2 ^ n * (x % 2 ^ (64 - n)) := by
  rw [← pow_split hn, Nat.mul_comm x, Nat.mul_mod_mul_left]
/-- two words, shifted by less than one -/
theorem shl_core {hi lo n : Nat} (hh : hi < 18446744073709551616) (hl : lo < 18446744073709551616) (h0 : 0 < n) (hn : n < 64) :
    (hi * 2 ^ n % 18446744073709551616 ||| lo / 2 ^ (64 - n)) < 18446744073709551616 ∧
    lo * 2 ^ n % 18446744073709551616 + 18446744073709551616 * (hi * 2 ^ n % 18446744073709551616 ||| lo / 2 ^ (64 - n)) = (lo + 18446744073709551616 * hi) * 2 ^ n % 340282366920938463463374607431768211456 := by
  have hs := pow_split (n := n) (by omega)
  have hK : 0 < 2 ^ (64 - n) := Nat.pow_pos (by decide)
  have hN : 0 < 2 ^ n := Nat.pow_pos (by decide)
  have hl1 : lo / 2 ^ (64 - n) < 2 ^ n := (Nat.div_lt_iff_lt_mul hK).2 (by rw [hs]; exact hl)
  have dl := Nat.div_add_mod lo (2 ^ (64 - n))
  have dh := Nat.div_add_mod hi (2 ^ (64 - n))
  have ml := Nat.mod_lt lo hK
  have mh := Nat.mod_lt hi hK
  rw [mul_mod_pow hi (by omega), mul_mod_pow lo (by omega), or_add hl1]
  have e1 : lo * 2 ^ n = 18446744073709551616 * (lo / 2 ^ (64 - n)) + 2 ^ n * (lo % 2 ^ (64 - n)) := by
    conv => lhs; rw [← dl]
    rw [Nat.add_mul, Nat.mul_right_comm, Nat.mul_comm (2 ^ (64 - n)) (2 ^ n), hs, Nat.mul_comm (lo % 2 ^ (64 - n))]
  have e2 : hi * 2 ^ n = 18446744073709551616 * (hi / 2 ^ (64 - n)) + 2 ^ n * (hi % 2 ^ (64 - n)) := by
    conv => lhs; rw [← dh]
    rw [Nat.add_mul, Nat.mul_right_comm, Nat.mul_comm (2 ^ (64 - n)) (2 ^ n), hs, Nat.mul_comm (hi % 2 ^ (64 - n))]
  have b1 : 2 ^ n * (lo % 2 ^ (64 - n)) < 18446744073709551616 := by rw [← hs]; exact Nat.mul_lt_mul_of_pos_left ml hN
  have b2 : 2 ^ n * (hi % 2 ^ (64 - n)) + 2 ^ n ≤ 18446744073709551616 := by
    rw [← hs, ← Nat.mul_succ]; exact Nat.mul_le_mul_left _ mh
  rw [Nat.add_mul, Nat.mul_assoc, e1, e2]
  generalize 2 ^ n * (lo % 2 ^ (64 - n)) = A at *
  generalize 2 ^ n * (hi % 2 ^ (64 - n)) = D at *
  generalize lo / 2 ^ (64 - n) = l1 at *
  generalize hi / 2 ^ (64 - n) = h1 at *
  generalize 2 ^ n = N at *
  constructor <;> omega
/-- two words, shifted back by less than one -/
theorem shr_core {hi lo n : Nat} (hh : hi < 18446744073709551616) (hl : lo < 18446744073709551616) (h0 : 0 < n) (hn : n < 64) :
    (lo / 2 ^ n ||| hi * 2 ^ (64 - n) % 18446744073709551616) < 18446744073709551616 ∧
    (lo / 2 ^ n ||| hi * 2 ^ (64 - n) % 18446744073709551616) + 18446744073709551616 * (hi / 2 ^ n) = (lo + 18446744073709551616 * hi) / 2 ^ n ∧
    (lo * 2 ^ (64 - n) % 18446744073709551616 ≠ 0 ↔ (lo + 18446744073709551616 * hi) % 2 ^ n ≠ 0) := by
  have hs := pow_split (n := n) (by omega)
  have hK : 0 < 2 ^ (64 - n) := Nat.pow_pos (by decide)
  have hN : 0 < 2 ^ n := Nat.pow_pos (by decide)
  have hl1 : lo / 2 ^ n < 2 ^ (64 - n) := (Nat.div_lt_iff_lt_mul hN).2 (by rw [Nat.mul_comm, hs]; exact hl)
  have dh := Nat.div_add_mod hi (2 ^ n)
  have mh := Nat.mod_lt hi hN
  have em : ∀ x : Nat, x * 2 ^ (64 - n) % 18446744073709551616 = 2 ^ (64 - n) * (x % 2 ^ n) := fun x => by
    have := mul_mod_pow x (n := 64 - n) (by omega)
    rw [show 64 - (64 - n) = n by omega] at this
    exact this
  rw [em, em, Nat.or_comm, or_add hl1]
  have e2 : 18446744073709551616 * hi = 2 ^ n * (18446744073709551616 * (hi / 2 ^ n) + 2 ^ (64 - n) * (hi % 2 ^ n)) := by
    conv => lhs; rw [← dh]
    rw [Nat.mul_add, Nat.mul_add, ← Nat.mul_assoc (2 ^ n) (2 ^ (64 - n)), hs, Nat.mul_left_comm]
  have b2 : 2 ^ (64 - n) * (hi % 2 ^ n) + 2 ^ (64 - n) ≤ 18446744073709551616 := by
    rw [← hs, Nat.mul_comm (2 ^ n), ← Nat.mul_succ]; exact Nat.mul_le_mul_left _ mh
  rw [e2, Nat.add_mul_div_left _ _ hN, Nat.add_mul_mod_self_left]
  refine ⟨?_, ?_, ?_⟩
  · generalize 2 ^ (64 - n) * (hi % 2 ^ n) = D at *
    generalize lo / 2 ^ n = l1 at *
    omega
  · generalize 2 ^ (64 - n) * (hi % 2 ^ n) = D at *
    omega
  · refine not_congr ?_
    rw [Nat.mul_eq_zero]
    constructor
    · rintro (h | h)
      · omega
      · exact h
    · exact .inr
theorem shl_small {a : U2} (ha : W2 a) {n : Nat} (h0 : 0 < n) (hn : n < 64) {b : U2} {m : Int} (hr : u2_Shl_L0_r (0, 0) (m, b.hi, b.lo) = some (.inl ((n : Int), a.hi, a.lo))) :
    u2_Shl_s b m = true ∧ W2 (u2_Shl b m) ∧ n2 (u2_Shl b m) = n2 a * 2 ^ n % 340282366920938463463374607431768211456 := by
  obtain ⟨ahi, alo⟩ := a
  obtain ⟨h1, h2⟩ := ha
  simp only at h1 h2 hr
  obtain ⟨hi, rfl⟩ := Int.eq_ofNat_of_zero_le h1.1
  obtain ⟨lo, rfl⟩ := Int.eq_ofNat_of_zero_le h2.1
  have b1 := h1.2
  have b2 := h2.2
  obtain ⟨c1, c2⟩ := shl_core (hi := hi) (lo := lo) (by omega) (by omega) h0 hn
  have w1 : IntKind.i64.wrap (64 - (n : Int)) = ((64 - n : Nat) : Int) := by rw [w64 (by omega) (by omega)]; omega
  have hv : u2_Shl_L0_v (0, 0) (m, b.hi, b.lo) = ((n : Int), (hi : Int), (lo : Int)) := by unfold u2_Shl_L0_v; rw [hr]; rfl
  have ht : u2_Shl_L0_rt (0, 0) (m, b.hi, b.lo) = false := by unfold u2_Shl_L0_rt; rw [hr]; rfl
  have ho : u2_Shl_L0_ok (0, 0) (m, b.hi, b.lo) = true := by unfold u2_Shl_L0_ok; rw [hr]; rfl
  have x1 : hi * 2 ^ n % 18446744073709551616 < 18446744073709551616 := Nat.mod_lt _ (by decide)
  have x2 : lo / 2 ^ (64 - n) < 18446744073709551616 := Nat.lt_of_le_of_lt (Nat.div_le_self _ _) (by omega)
  have x3 : lo * 2 ^ n % 18446744073709551616 < 18446744073709551616 := Nat.mod_lt _ (by decide)
  simp only [u2_Shl, u2_Shl_s, u2_Shl_t, u2_Shl_T, Tr.val, Tr.safe, ho, ht, hv, w1, shl_nat _ n (by omega), shr_nat lo (64 - n) (by omega), bits_or x1 x2]
  rw [decide_eq_false (show ¬ (n : Int) ≤ 0 by omega), decide_eq_true (show (0 : Int) ≤ (n : Int) by omega), decide_eq_true (show (0 : Int) ≤ ((64 - n : Nat) : Int) by omega)]
  unfold W2 Wd n2
  simp only [cond_false, Int.toNat_natCast]
  refine ⟨rfl, ⟨?_, ?_⟩, c2⟩ <;> omega
theorem wd0 : Wd 0 := by unfold Wd; omega
theorem mul4N (c d : Nat) : 18446744073709551616 * c * (18446744073709551616 * d) = 340282366920938463463374607431768211456 * (c * d) := by
  rw [Nat.mul_mul_mul_comm]
theorem n2_lt {a : U2} (ha : W2 a) : n2 a < 340282366920938463463374607431768211456 := by
  obtain ⟨h1, h2⟩ := ha
  unfold Wd n2 at *
  omega
/-- the loop of Shl, its rounds one by one -/
theorem shl_L0_end {hi lo : Int} {n : Nat} (h : n < 64) (k : Nat) : runL (u2_Shl_L0_step (0, 0)) (k + 1) ((n : Int), hi, lo) = some (.inl ((n : Int), hi, lo)) := by
  rw [runL]
  simp only [u2_Shl_L0_step, u2_Shl_L0_T, Tr.val, Tr.safe, decide_eq_false (show ¬ (n : Int) ≥ 64 by omega)]
  rfl
theorem shl_L0_zero {hi : Int} {n : Nat} (h : 64 ≤ n) (k : Nat) : runL (u2_Shl_L0_step (0, 0)) (k + 1) ((n : Int), hi, 0) = some (.inr (0, 0)) := by
  rw [runL]
  simp only [u2_Shl_L0_step, u2_Shl_L0_T, Tr.val, Tr.safe, decide_eq_true (show (n : Int) ≥ 64 by omega)]
  rfl
theorem shl_L0_next {hi lo : Int} {n : Nat} (h : 64 ≤ n) (hb : n < 9223372036854775808) (hl : lo ≠ 0) (k : Nat) : runL (u2_Shl_L0_step (0, 0)) (k + 1) ((n : Int), hi, lo) = runL (u2_Shl_L0_step (0, 0)) k (((n - 64 : Nat) : Int), lo, 0) := by
  have w : IntKind.i64.wrap ((n : Int) - 64) = ((n - 64 : Nat) : Int) := by rw [w64 (by omega) (by omega)]; omega
  rw [runL]
  simp only [u2_Shl_L0_step, u2_Shl_L0_T, Tr.val, Tr.safe, decide_eq_true (show (n : Int) ≥ 64 by omega), beq_eq_false_iff_ne.2 hl, w]
  rfl
theorem shl_ret {b : U2} {m : Int} (hr : u2_Shl_L0_r (0, 0) (m, b.hi, b.lo) = some (.inr (0, 0))) : u2_Shl_s b m = true ∧ u2_Shl b m = ⟨0, 0⟩ := by
  have ht : u2_Shl_L0_rt (0, 0) (m, b.hi, b.lo) = true := by unfold u2_Shl_L0_rt; rw [hr]; rfl
  have ho : u2_Shl_L0_ok (0, 0) (m, b.hi, b.lo) = true := by unfold u2_Shl_L0_ok; rw [hr]; rfl
  have hv : u2_Shl_L0_rv (0, 0) (m, b.hi, b.lo) = (0, 0) := by unfold u2_Shl_L0_rv; rw [hr]; rfl
  simp only [u2_Shl, u2_Shl_s, u2_Shl_t, u2_Shl_T, Tr.val, Tr.safe, ho, ht, hv]
  exact ⟨rfl, rfl⟩
theorem shl_none {a b : U2} {m : Int} (hr : u2_Shl_L0_r (0, 0) (m, b.hi, b.lo) = some (.inl (0, a.hi, a.lo))) : u2_Shl_s b m = true ∧ u2_Shl b m = a := by
  have ht : u2_Shl_L0_rt (0, 0) (m, b.hi, b.lo) = false := by unfold u2_Shl_L0_rt; rw [hr]; rfl
  have ho : u2_Shl_L0_ok (0, 0) (m, b.hi, b.lo) = true := by unfold u2_Shl_L0_ok; rw [hr]; rfl
  have hv : u2_Shl_L0_v (0, 0) (m, b.hi, b.lo) = (0, a.hi, a.lo) := by unfold u2_Shl_L0_v; rw [hr]; rfl
  have hd : decide ((0 : Int) ≤ 0) = true := rfl
  simp only [u2_Shl, u2_Shl_s, u2_Shl_t, u2_Shl_T, Tr.val, Tr.safe, ho, ht, hv, hd]
  exact ⟨rfl, rfl⟩
theorem ushl_spec {a : U2} (ha : W2 a) {n : Nat} (hn : n < 9223372036854775808) : u2_Shl_s a (n : Int) = true ∧ W2 (u2_Shl a (n : Int)) ∧ n2 (u2_Shl a (n : Int)) = n2 a * 2 ^ n % 340282366920938463463374607431768211456 := by
  have hz : W2 ⟨0, 0⟩ ∧ n2 ⟨0, 0⟩ = 0 := ⟨⟨wd0, wd0⟩, rfl⟩
  have p64 : (2 : Nat) ^ 64 = 18446744073709551616 := by decide
  rcases Nat.lt_or_ge n 64 with h | h
  · rcases Nat.eq_zero_or_pos n with h0 | h0
    · subst h0
      obtain ⟨k1, k2⟩ := shl_none (a := a) (b := a) (m := ((0 : Nat) : Int)) (runB_of (shl_L0_end (n := 0) (by omega) 0) (by omega))
      rw [k2]
      exact ⟨k1, ha, by rw [Nat.pow_zero, Nat.mul_one, Nat.mod_eq_of_lt (n2_lt ha)]⟩
    · exact shl_small ha h0 h (runB_of (shl_L0_end h 0) (by omega))
  · have ep : 2 ^ n = 18446744073709551616 * 2 ^ (n - 64) := by rw [← p64, ← Nat.pow_add, Nat.add_sub_cancel' h]
    obtain ⟨ahi, alo⟩ := a
    obtain ⟨w1, w2⟩ := ha
    simp only at w1 w2
    by_cases hl : alo = 0
    · subst hl
      obtain ⟨k1, k2⟩ := shl_ret (b := ⟨ahi, 0⟩) (m := (n : Int)) (runB_of (shl_L0_zero h 0) (by omega))
      rw [k2]
      refine ⟨k1, hz.1, ?_⟩
      have : n2 ⟨ahi, 0⟩ * 2 ^ n = 340282366920938463463374607431768211456 * (ahi.toNat * 2 ^ (n - 64)) := by
        unfold n2
        simp only [Int.toNat_zero, Nat.zero_add]
        rw [ep, mul4N]
      rw [this, Nat.mul_mod_right]; exact hz.2
    · have hw : W2 ⟨alo, 0⟩ := ⟨w2, wd0⟩
      have hmod : n2 ⟨ahi, alo⟩ * 2 ^ n % 340282366920938463463374607431768211456 = n2 ⟨alo, 0⟩ * 2 ^ (n - 64) % 340282366920938463463374607431768211456 := by
        have : n2 ⟨ahi, alo⟩ * 2 ^ n = n2 ⟨alo, 0⟩ * 2 ^ (n - 64) + 340282366920938463463374607431768211456 * (ahi.toNat * 2 ^ (n - 64)) := by
          unfold n2
          simp only [Int.toNat_zero, Nat.zero_add]
          rw [ep, Nat.add_mul, mul4N, Nat.mul_left_comm, Nat.mul_assoc]
        rw [this, Nat.add_mul_mod_self_left]
      rw [hmod]
      rcases Nat.lt_or_ge (n - 64) 64 with h2 | h2
      · rcases Nat.eq_zero_or_pos (n - 64) with h0 | h0
        · have hr := runB_of (n := 2) (step := u2_Shl_L0_step (0, 0)) (i := ((n : Int), ahi, alo)) (r := .inl (0, alo, 0)) (by
            rw [shl_L0_next h hn hl 1, h0]; exact shl_L0_end (n := 0) (by omega) 0) (by omega)
          obtain ⟨k1, k2⟩ := shl_none (a := ⟨alo, 0⟩) (b := ⟨ahi, alo⟩) (m := (n : Int)) hr
          rw [k2, h0]
          exact ⟨k1, hw, by rw [Nat.pow_zero, Nat.mul_one, Nat.mod_eq_of_lt (n2_lt hw)]⟩
        · have hr := runB_of (n := 2) (step := u2_Shl_L0_step (0, 0)) (i := ((n : Int), ahi, alo)) (r := .inl (((n - 64 : Nat) : Int), alo, 0)) (by
            rw [shl_L0_next h hn hl 1]; exact shl_L0_end h2 0) (by omega)
          exact shl_small (a := ⟨alo, 0⟩) (b := ⟨ahi, alo⟩) hw h0 h2 hr
      · have hr := runB_of (n := 2) (step := u2_Shl_L0_step (0, 0)) (i := ((n : Int), ahi, alo)) (r := .inr (0, 0)) (by
          rw [shl_L0_next h hn hl 1]; exact shl_L0_zero h2 0) (by omega)
        obtain ⟨k1, k2⟩ := shl_ret (b := ⟨ahi, alo⟩) (m := (n : Int)) hr
        rw [k2]
        refine ⟨k1, hz.1, ?_⟩
        have ep2 : 2 ^ (n - 64) = 18446744073709551616 * 2 ^ (n - 64 - 64) := by rw [← p64, ← Nat.pow_add, Nat.add_sub_cancel' h2]
        have : n2 ⟨alo, 0⟩ * 2 ^ (n - 64) = 340282366920938463463374607431768211456 * (alo.toNat * 2 ^ (n - 64 - 64)) := by
          unfold n2
          simp only [Int.toNat_zero, Nat.zero_add]
          rw [ep2, mul4N]
        rw [this, Nat.mul_mod_right]; exact hz.2
end Go.Fb
