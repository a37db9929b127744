/- Contracts and laws of functions of the program, on the way to the claim. Conditions: as each theorem states. -/
import Derived.Test.YtgaapeaclbpaeaaW1n
namespace Go.Fb
open Go.Ev

/-! ### Two words, shifted to the right -/
section
variable (z : Bool × Int × Int)
theorem shr_L0_end {hi lo : Int} {l : Bool} {n : Nat} (h : n < 64) (k : Nat) : runL (u2_Shr_L0_step z) (k + 1) ((n : Int), l, hi, lo) = some (.inl ((n : Int), l, hi, lo)) := by
  rw [runL]
  simp only [u2_Shr_L0_step, u2_Shr_L0_T, Tr.val, Tr.safe, decide_eq_false (show ¬ (n : Int) ≥ 64 by omega)]
  rfl
theorem shr_L0_zero {lo : Int} {l : Bool} {n : Nat} (h : 64 ≤ n) (k : Nat) : runL (u2_Shr_L0_step z) (k + 1) ((n : Int), l, 0, lo) = some (.inr (l || lo != 0, 0, 0)) := by
  rw [runL]
  simp only [u2_Shr_L0_step, u2_Shr_L0_T, Tr.val, Tr.safe, decide_eq_true (show (n : Int) ≥ 64 by omega)]
  cases l <;> rfl
theorem shr_L0_next {hi lo : Int} {l : Bool} {n : Nat} (h : 64 ≤ n) (hb : n < 9223372036854775808) (hl : hi ≠ 0) (k : Nat) : runL (u2_Shr_L0_step z) (k + 1) ((n : Int), l, hi, lo) = runL (u2_Shr_L0_step z) k (((n - 64 : Nat) : Int), l || lo != 0, 0, hi) := by
  have w : IntKind.i64.wrap ((n : Int) - 64) = ((n - 64 : Nat) : Int) := by rw [w64 (by omega) (by omega)]; omega
  rw [runL]
  simp only [u2_Shr_L0_step, u2_Shr_L0_T, Tr.val, Tr.safe, decide_eq_true (show (n : Int) ≥ 64 by omega), beq_eq_false_iff_ne.2 hl, w]
  cases l <;> rfl
end
theorem shr_ret {b : U2} {m : Int} {l : Bool} (hr : u2_Shr_L0_r (false, 0, 0) (m, false, b.hi, b.lo) = some (.inr (l, 0, 0))) : u2_Shr_s b m = true ∧ u2_Shr b m = (⟨0, 0⟩, l) := by
  have ht : u2_Shr_L0_rt (false, 0, 0) (m, false, b.hi, b.lo) = true := by unfold u2_Shr_L0_rt; rw [hr]; rfl
  have ho : u2_Shr_L0_ok (false, 0, 0) (m, false, b.hi, b.lo) = true := by unfold u2_Shr_L0_ok; rw [hr]; rfl
  have hv : u2_Shr_L0_rv (false, 0, 0) (m, false, b.hi, b.lo) = (l, 0, 0) := by unfold u2_Shr_L0_rv; rw [hr]; rfl
  simp only [u2_Shr, u2_Shr_s, u2_Shr_t, u2_Shr_T, Tr.val, Tr.safe, ho, ht, hv]
  exact ⟨rfl, rfl⟩
theorem shr_none {a b : U2} {m : Int} {l : Bool} (hr : u2_Shr_L0_r (false, 0, 0) (m, false, b.hi, b.lo) = some (.inl (0, l, a.hi, a.lo))) : u2_Shr_s b m = true ∧ u2_Shr b m = (a, l) := by
  have ht : u2_Shr_L0_rt (false, 0, 0) (m, false, b.hi, b.lo) = false := by unfold u2_Shr_L0_rt; rw [hr]; rfl
  have ho : u2_Shr_L0_ok (false, 0, 0) (m, false, b.hi, b.lo) = true := by unfold u2_Shr_L0_ok; rw [hr]; rfl
  have hv : u2_Shr_L0_v (false, 0, 0) (m, false, b.hi, b.lo) = (0, l, a.hi, a.lo) := by unfold u2_Shr_L0_v; rw [hr]; rfl
  have hd : decide ((0 : Int) ≤ 0) = true := rfl
  simp only [u2_Shr, u2_Shr_s, u2_Shr_t, u2_Shr_T, Tr.val, Tr.safe, ho, ht, hv, hd]
  exact ⟨rfl, rfl⟩
theorem shr_small {a : U2} (ha : W2 a) {n : Nat} (h0 : 0 < n) (hn : n < 64) {b : U2} {m : Int} {l : Bool} (hr : u2_Shr_L0_r (false, 0, 0) (m, false, b.hi, b.lo) = some (.inl ((n : Int), l, a.hi, a.lo))) :
    u2_Shr_s b m = true ∧ W2 (u2_Shr b m).1 ∧ n2 (u2_Shr b m).1 = n2 a / 2 ^ n ∧ (u2_Shr b m).2 = (l || decide (n2 a % 2 ^ n ≠ 0)) := by
  obtain ⟨ahi, alo⟩ := a
  obtain ⟨h1, h2⟩ := ha
  simp only at h1 h2 hr
  obtain ⟨hi, rfl⟩ := Int.eq_ofNat_of_zero_le h1.1
  obtain ⟨lo, rfl⟩ := Int.eq_ofNat_of_zero_le h2.1
  have b1 := h1.2
  have b2 := h2.2
  obtain ⟨c1, c2, c3⟩ := shr_core (hi := hi) (lo := lo) (by omega) (by omega) h0 hn
  have w1 : IntKind.i64.wrap (64 - (n : Int)) = ((64 - n : Nat) : Int) := by rw [w64 (by omega) (by omega)]; omega
  have hv : u2_Shr_L0_v (false, 0, 0) (m, false, b.hi, b.lo) = ((n : Int), l, (hi : Int), (lo : Int)) := by unfold u2_Shr_L0_v; rw [hr]; rfl
  have ht : u2_Shr_L0_rt (false, 0, 0) (m, false, b.hi, b.lo) = false := by unfold u2_Shr_L0_rt; rw [hr]; rfl
  have ho : u2_Shr_L0_ok (false, 0, 0) (m, false, b.hi, b.lo) = true := by unfold u2_Shr_L0_ok; rw [hr]; rfl
  have x1 : hi * 2 ^ (64 - n) % 18446744073709551616 < 18446744073709551616 := Nat.mod_lt _ (by decide)
  have x2 : lo / 2 ^ n < 18446744073709551616 := Nat.lt_of_le_of_lt (Nat.div_le_self _ _) (by omega)
  have x3 : hi / 2 ^ n < 18446744073709551616 := Nat.lt_of_le_of_lt (Nat.div_le_self _ _) (by omega)
  have x4 : ((((lo * 2 ^ (64 - n) % 18446744073709551616 : Nat) : Int)) != 0) = decide ((lo + 18446744073709551616 * hi) % 2 ^ n ≠ 0) := by
    by_cases hz : lo * 2 ^ (64 - n) % 18446744073709551616 ≠ 0
    · rw [decide_eq_true (c3.1 hz)]
      exact bne_iff_ne.2 (by omega)
    · rw [decide_eq_false (fun h => hz (c3.2 h))]
      have : lo * 2 ^ (64 - n) % 18446744073709551616 = 0 := by omega
      rw [this]; rfl
  simp only [u2_Shr, u2_Shr_s, u2_Shr_t, u2_Shr_T, Tr.val, Tr.safe, ho, ht, hv, w1, shl_nat _ (64 - n) (by omega), shr_nat _ n (by omega), bits_or x2 x1, x4]
  rw [decide_eq_false (show ¬ (n : Int) ≤ 0 by omega), decide_eq_true (show (0 : Int) ≤ (n : Int) by omega), decide_eq_true (show (0 : Int) ≤ ((64 - n : Nat) : Int) by omega)]
  unfold W2 Wd n2
  cases l
  · simp only [cond_false, Int.toNat_natCast]
    refine ⟨rfl, ⟨?_, ?_⟩, c2, ?_⟩
    · omega
    · omega
    · rw [Bool.false_or]
  · simp only [cond_false, cond_true, Int.toNat_natCast]
    refine ⟨rfl, ⟨?_, ?_⟩, c2, rfl⟩ <;> omega
theorem ushr_spec {a : U2} (ha : W2 a) {n : Nat} (hn : n < 9223372036854775808) : u2_Shr_s a (n : Int) = true ∧ W2 (u2_Shr a (n : Int)).1 ∧ n2 (u2_Shr a (n : Int)).1 = n2 a / 2 ^ n ∧ (u2_Shr a (n : Int)).2 = decide (n2 a % 2 ^ n ≠ 0) := by
  have hz : W2 ⟨0, 0⟩ ∧ n2 ⟨0, 0⟩ = 0 := ⟨⟨wd0, wd0⟩, rfl⟩
  have p64 : (2 : Nat) ^ 64 = 18446744073709551616 := by decide
  have hlt := n2_lt ha
  rcases Nat.lt_or_ge n 64 with h | h
  · rcases Nat.eq_zero_or_pos n with h0 | h0
    · subst h0
      obtain ⟨k1, k2⟩ := shr_none (a := a) (b := a) (m := ((0 : Nat) : Int)) (l := false) (runB_of (shr_L0_end _ (n := 0) (by omega) 0) (by omega))
      rw [k2]
      exact ⟨k1, ha, by simp, by simp [Nat.mod_one]⟩
    · obtain ⟨k1, k2, k3, k4⟩ := shr_small ha h0 h (b := a) (m := (n : Int)) (l := false) (runB_of (shr_L0_end _ h 0) (by omega))
      exact ⟨k1, k2, k3, by rw [k4, Bool.false_or]⟩
  · have ep : 2 ^ n = 18446744073709551616 * 2 ^ (n - 64) := by rw [← p64, ← Nat.pow_add, Nat.add_sub_cancel' h]
    obtain ⟨ahi, alo⟩ := a
    obtain ⟨w1, w2⟩ := ha
    simp only at w1 w2
    obtain ⟨hi, rfl⟩ := Int.eq_ofNat_of_zero_le w1.1
    obtain ⟨lo, rfl⟩ := Int.eq_ofNat_of_zero_le w2.1
    have b1 := w1.2
    have b2 := w2.2
    have en : n2 ⟨(hi : Int), (lo : Int)⟩ = lo + 18446744073709551616 * hi := rfl
    rw [en] at hlt ⊢
    have hd : (lo + 18446744073709551616 * hi) / 2 ^ n = hi / 2 ^ (n - 64) := by
      rw [ep, ← Nat.div_div_eq_div_mul]
      congr 1; omega
    have hm : (lo + 18446744073709551616 * hi) % 2 ^ n = lo + 18446744073709551616 * (hi % 2 ^ (n - 64)) := by
      rw [ep, Nat.mod_mul]
      have e1 : (lo + 18446744073709551616 * hi) % 18446744073709551616 = lo := by omega
      have e2 : (lo + 18446744073709551616 * hi) / 18446744073709551616 = hi := by omega
      rw [e1, e2]
    have hlo : ((lo : Int) != 0) = decide (lo ≠ 0) := by
      by_cases hz : lo = 0
      · subst hz; rfl
      · rw [decide_eq_true hz]; exact bne_iff_ne.2 (by omega)
    rw [hd, hm]
    by_cases hh : hi = 0
    · subst hh
      obtain ⟨k1, k2⟩ := shr_ret (b := ⟨((0 : Nat) : Int), (lo : Int)⟩) (m := (n : Int)) (runB_of (shr_L0_zero _ h 0) (by omega))
      rw [k2]
      refine ⟨k1, hz.1, by simp; exact hz.2, ?_⟩
      rw [Bool.false_or, hlo]
      by_cases q : lo = 0 <;> simp [q]
    · have hw : W2 ⟨0, (hi : Int)⟩ := ⟨wd0, w1⟩
      have hhi : (hi : Int) ≠ 0 := by omega
      have e0 : n2 ⟨0, (hi : Int)⟩ = hi := by unfold n2; simp
      have hls : ∀ q : Nat, (decide (lo ≠ 0) || decide (q ≠ 0)) = decide (lo + 18446744073709551616 * q ≠ 0) := fun q => by
        by_cases h1 : lo = 0 <;> by_cases h2 : q = 0 <;> simp [h1, h2] <;> omega
      rcases Nat.lt_or_ge (n - 64) 64 with h2 | h2
      · rcases Nat.eq_zero_or_pos (n - 64) with h0 | h0
        · have hr := runB_of (n := 2) (step := u2_Shr_L0_step (false, 0, 0)) (i := ((n : Int), false, (hi : Int), (lo : Int))) (r := .inl (0, false || (lo : Int) != 0, 0, (hi : Int))) (by
            rw [shr_L0_next _ h hn hhi 1, h0]; exact shr_L0_end _ (n := 0) (by omega) 0) (by omega)
          obtain ⟨k1, k2⟩ := shr_none (a := ⟨0, (hi : Int)⟩) (b := ⟨(hi : Int), (lo : Int)⟩) (m := (n : Int)) hr
          rw [k2, h0]
          refine ⟨k1, hw, by simp [e0], ?_⟩
          rw [Bool.false_or, hlo]; simp [Nat.mod_one]
        · have hr := runB_of (n := 2) (step := u2_Shr_L0_step (false, 0, 0)) (i := ((n : Int), false, (hi : Int), (lo : Int))) (r := .inl (((n - 64 : Nat) : Int), false || (lo : Int) != 0, 0, (hi : Int))) (by
            rw [shr_L0_next _ h hn hhi 1]; exact shr_L0_end _ h2 0) (by omega)
          obtain ⟨k1, k2, k3, k4⟩ := shr_small (a := ⟨0, (hi : Int)⟩) (b := ⟨(hi : Int), (lo : Int)⟩) hw h0 h2 hr
          rw [e0] at k3 k4
          exact ⟨k1, k2, k3, by rw [k4, Bool.false_or, hlo, hls]⟩
      · have hr := runB_of (n := 2) (step := u2_Shr_L0_step (false, 0, 0)) (i := ((n : Int), false, (hi : Int), (lo : Int))) (r := .inr ((false || (lo : Int) != 0) || (hi : Int) != 0, 0, 0)) (by
          rw [shr_L0_next _ h hn hhi 1]; exact shr_L0_zero _ h2 0) (by omega)
        obtain ⟨k1, k2⟩ := shr_ret (b := ⟨(hi : Int), (lo : Int)⟩) (m := (n : Int)) hr
        have hp : hi < 2 ^ (n - 64) := Nat.lt_of_lt_of_le (show hi < 2 ^ 64 by omega) (Nat.pow_le_pow_right (by decide) h2)
        rw [k2, Nat.div_eq_of_lt hp, Nat.mod_eq_of_lt hp]
        refine ⟨k1, hz.1, hz.2, ?_⟩
        rw [bne_iff_ne.2 hhi, Bool.or_true, decide_eq_true (by omega)]
end Go.Fb
