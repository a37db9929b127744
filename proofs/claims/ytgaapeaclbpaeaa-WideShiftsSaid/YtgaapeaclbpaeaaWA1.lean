/- Contracts and laws of functions of the program, on the way to the claim. Conditions: as each theorem states. -/
import Derived.Test.YtgaapeaclbpaeaaW1y
namespace Go.Fb
open Go.Ev

/-! ### Two words divided by one: a digit of the quotient is guessed, and goes down -/
theorem dig_stop {q r u d1 d0 w : Nat} (h : q * d1 + r = u) (hs : q * d0 ≤ 4294967296 * r + w) : q * (4294967296 * d1 + d0) ≤ 4294967296 * u + w := by
  subst h
  rw [Nat.mul_add q, Nat.mul_left_comm q]
  omega
theorem dig_down {q r u d1 d0 w : Nat} (h : q * d1 + r = u) (hu : u < 4294967296 * d1 + d0) (hw : w < 4294967296) (hs : 4294967296 ≤ q ∨ 4294967296 * r + w < q * d0) : 4294967296 * u + w < q * (4294967296 * d1 + d0) := by
  rcases hs with hs | hs
  · have := Nat.mul_le_mul_right (4294967296 * d1 + d0) hs
    omega
  · subst h
    rw [Nat.mul_add q, Nat.mul_left_comm q]
    omega
theorem dig_break {q r u d1 d0 w : Nat} (h : q * d1 + r = u) (hu : u < 4294967296 * d1 + d0) (h0 : d0 < 4294967296) (hr : 4294967296 ≤ r) : q * (4294967296 * d1 + d0) ≤ 4294967296 * u + w := by
  refine dig_stop h ?_
  have hq : q < 4294967296 := by
    rcases Nat.lt_or_ge q 4294967296 with h' | h'
    · exact h'
    · have := Nat.mul_le_mul_right d1 h'
      omega
  have := Nat.mul_le_mul (Nat.le_of_lt hq) (Nat.le_of_lt h0)
  omega
theorem div_is {N y q : Nat} (_hy : 0 < y) (h1 : q * y ≤ N) (h2 : N < (q + 1) * y) : N / y = q :=
  Nat.div_eq_of_lt_le h1 h2

theorem dig0_step {d1 d0 w q r : Nat} (h1 : d1 < 4294967296) (h0 : d0 < 4294967296) (hw : w < 4294967296) (hr : r < 4294967296) (hq : 0 < q ∧ q ≤ 18446744073709551615 ∨ q = 0) (z0 z1 z2 z3 z5 z7 : Int) (z8 : Bool × Bool × Bool) (n : Nat) :
    runL (bits_Div64_L0_step (z0, z1, z2, z3, (d1 : Int), (d0 : Int), z5, (w : Int), z7, z8)) (n + 1) ((q : Int), (r : Int)) = if 4294967296 ≤ q ∨ 4294967296 * r + w < q * d0 then (if 4294967296 ≤ r + d1 then some (((q - 1 : Nat) : Int), ((r + d1 : Nat) : Int)) else runL (bits_Div64_L0_step (z0, z1, z2, z3, (d1 : Int), (d0 : Int), z5, (w : Int), z7, z8)) n (((q - 1 : Nat) : Int), ((r + d1 : Nat) : Int))) else some ((q : Int), (r : Int)) := by
  have hqr : q < 4294967296 → q * d0 < 18446744073709551616 := fun h => by
    have := Nat.mul_le_mul (Nat.le_of_lt h) (Nat.le_of_lt h0)
    have h2 : q * d0 ≤ 4294967295 * 4294967295 := Nat.mul_le_mul (by omega) (by omega)
    omega
  have e1 : IntKind.u64.wrap ((r : Int) + (d1 : Int)) = ((r + d1 : Nat) : Int) := by rw [u64w]; omega
  have e2 : 0 < q → IntKind.u64.wrap ((q : Int) - 1) = ((q - 1 : Nat) : Int) := fun h => by rw [u64w]; omega
  have e3 : q < 4294967296 → IntKind.u64.wrap ((q : Int) * (d0 : Int)) = ((q * d0 : Nat) : Int) := fun h => by
    have := hqr h
    rw [← Int.natCast_mul, u64w]; omega
  have e4 : IntKind.u64.wrap (IntKind.u64.wrap (4294967296 * (r : Int)) + (w : Int)) = ((4294967296 * r + w : Nat) : Int) := by rw [u64w, u64w]; omega
  rw [runL]
  simp only [bits_Div64_L0_step, bits_Div64_L0_T]
  by_cases hb : 4294967296 ≤ q
  · have hb' : decide ((q : Int) ≥ 4294967296) = true := by simp; omega
    simp only [Tr.safe, Tr.val, hb', cond_true, e1, e2 (by omega), if_pos (Or.inl hb : 4294967296 ≤ q ∨ 4294967296 * r + w < q * d0)]
    by_cases hc : 4294967296 ≤ r + d1
    · have hc' : decide (((r + d1 : Nat) : Int) ≥ 4294967296) = true := by simp; omega
      simp only [hc', cond_true, if_pos hc]
    · have hc' : decide (((r + d1 : Nat) : Int) ≥ 4294967296) = false := by simp; omega
      simp only [hc', cond_false, cond_true, if_neg hc]
  · have hb' : decide ((q : Int) ≥ 4294967296) = false := by simp; omega
    simp only [Tr.safe, Tr.val, hb', cond_false, e1, e3 (by omega), e4]
    by_cases hd : 4294967296 * r + w < q * d0
    · have hd' : decide (((q * d0 : Nat) : Int) > ((4294967296 * r + w : Nat) : Int)) = true := by simp only [decide_eq_true_eq]; omega
      have hq0 : 0 < q := by rcases Nat.eq_zero_or_pos q with h | h; · subst h; omega
                             · exact h
      simp only [hd', cond_true, e2 hq0, if_pos (Or.inr hd : 4294967296 ≤ q ∨ 4294967296 * r + w < q * d0)]
      by_cases hc : 4294967296 ≤ r + d1
      · have hc' : decide (((r + d1 : Nat) : Int) ≥ 4294967296) = true := by simp; omega
        simp only [hc', cond_true, if_pos hc]
      · have hc' : decide (((r + d1 : Nat) : Int) ≥ 4294967296) = false := by simp; omega
        simp only [hc', cond_false, cond_true, if_neg hc]

    · have hd' : decide (((q * d0 : Nat) : Int) > ((4294967296 * r + w : Nat) : Int)) = false := by simp only [decide_eq_false_iff_not]; omega
      have hn : ¬ (4294967296 ≤ q ∨ 4294967296 * r + w < q * d0) := by omega
      simp only [hd', cond_false, cond_true, if_neg hn]
theorem dig0_run {d1 d0 w u : Nat} (h1 : d1 < 4294967296) (hd : 2147483648 ≤ d1) (h0 : d0 < 4294967296) (hw : w < 4294967296) (hu : u < 4294967296 * d1 + d0) (z0 z1 z2 z3 z5 z7 : Int) (z8 : Bool × Bool × Bool) : ∀ (n q r : Nat), q ≤ n → q ≤ 18446744073709551615 → q * d1 + r = u → r < 4294967296 → (4294967296 * u + w) / (4294967296 * d1 + d0) ≤ q →
    ∃ q' r' : Nat, runL (bits_Div64_L0_step (z0, z1, z2, z3, (d1 : Int), (d0 : Int), z5, (w : Int), z7, z8)) (n + 1) ((q : Int), (r : Int)) = some ((q' : Int), (r' : Int)) ∧ q' = (4294967296 * u + w) / (4294967296 * d1 + d0) ∧ q' * d1 + r' = u := by
  intro n
  induction n with
  | zero =>
    intro q r hqn hq2 hq hr hle
    have hq0 : q = 0 := by omega
    subst hq0
    refine ⟨0, r, ?_, (Nat.le_zero.1 hle).symm, hq⟩
    rw [dig0_step h1 h0 hw hr (.inr rfl), if_neg (by omega)]
  | succ n ih =>
    intro q r hqn hq2 hq hr hle
    have hy : 0 < 4294967296 * d1 + d0 := by omega
    rw [dig0_step h1 h0 hw hr (by omega)]
    by_cases hs : 4294967296 ≤ q ∨ 4294967296 * r + w < q * d0
    · rw [if_pos hs]
      have hlt := dig_down hq hu hw hs
      have hq0 : 0 < q := by rcases Nat.eq_zero_or_pos q with h | h; · subst h; omega
                             · exact h
      have hle' : (4294967296 * u + w) / (4294967296 * d1 + d0) ≤ q - 1 := by
        have := (Nat.div_lt_iff_lt_mul hy).2 hlt
        omega
      have hq' : (q - 1) * d1 + (r + d1) = u := by
        have : (q - 1) * d1 + d1 = q * d1 := by rw [← Nat.succ_mul]; congr 1; omega
        omega
      by_cases hc : 4294967296 ≤ r + d1
      · rw [if_pos hc]
        refine ⟨q - 1, r + d1, rfl, ?_, hq'⟩
        exact Nat.le_antisymm ((Nat.le_div_iff_mul_le hy).2 (dig_break hq' hu h0 hc)) hle'
      · rw [if_neg hc]
        exact ih (q - 1) (r + d1) (by omega) (by omega) hq' (by omega) hle'
    · rw [if_neg hs]
      refine ⟨q, r, rfl, ?_, hq⟩
      exact Nat.le_antisymm ((Nat.le_div_iff_mul_le hy).2 (dig_stop hq (by omega))) hle

theorem dig1_step {d1 d0 w q r : Nat} (h1 : d1 < 4294967296) (h0 : d0 < 4294967296) (hw : w < 4294967296) (hr : r < 4294967296) (hq : 0 < q ∧ q ≤ 18446744073709551615 ∨ q = 0) (z0 z1 z2 z3 z5 z7 : Int) (z8 : Bool × Bool × Bool) (n : Nat) :
    runL (bits_Div64_L1_step (z0, z1, z2, z3, (d1 : Int), (d0 : Int), (w : Int), z5, z7, z8)) (n + 1) ((r : Int), (q : Int)) = if 4294967296 ≤ q ∨ 4294967296 * r + w < q * d0 then (if 4294967296 ≤ r + d1 then some (((r + d1 : Nat) : Int), ((q - 1 : Nat) : Int)) else runL (bits_Div64_L1_step (z0, z1, z2, z3, (d1 : Int), (d0 : Int), (w : Int), z5, z7, z8)) n (((r + d1 : Nat) : Int), ((q - 1 : Nat) : Int))) else some ((r : Int), (q : Int)) := by
  have hqr : q < 4294967296 → q * d0 < 18446744073709551616 := fun h => by
    have := Nat.mul_le_mul (Nat.le_of_lt h) (Nat.le_of_lt h0)
    have h2 : q * d0 ≤ 4294967295 * 4294967295 := Nat.mul_le_mul (by omega) (by omega)
    omega
  have e1 : IntKind.u64.wrap ((r : Int) + (d1 : Int)) = ((r + d1 : Nat) : Int) := by rw [u64w]; omega
  have e2 : 0 < q → IntKind.u64.wrap ((q : Int) - 1) = ((q - 1 : Nat) : Int) := fun h => by rw [u64w]; omega
  have e3 : q < 4294967296 → IntKind.u64.wrap ((q : Int) * (d0 : Int)) = ((q * d0 : Nat) : Int) := fun h => by
    have := hqr h
    rw [← Int.natCast_mul, u64w]; omega
  have e4 : IntKind.u64.wrap (IntKind.u64.wrap (4294967296 * (r : Int)) + (w : Int)) = ((4294967296 * r + w : Nat) : Int) := by rw [u64w, u64w]; omega
  rw [runL]
  simp only [bits_Div64_L1_step, bits_Div64_L1_T]
  by_cases hb : 4294967296 ≤ q
  · have hb' : decide ((q : Int) ≥ 4294967296) = true := by simp; omega
    simp only [Tr.safe, Tr.val, hb', cond_true, e1, e2 (by omega), if_pos (Or.inl hb : 4294967296 ≤ q ∨ 4294967296 * r + w < q * d0)]
    by_cases hc : 4294967296 ≤ r + d1
    · have hc' : decide (((r + d1 : Nat) : Int) ≥ 4294967296) = true := by simp; omega
      simp only [hc', cond_true, if_pos hc]
    · have hc' : decide (((r + d1 : Nat) : Int) ≥ 4294967296) = false := by simp; omega
      simp only [hc', cond_false, cond_true, if_neg hc]
  · have hb' : decide ((q : Int) ≥ 4294967296) = false := by simp; omega
    simp only [Tr.safe, Tr.val, hb', cond_false, e1, e3 (by omega), e4]
    by_cases hd : 4294967296 * r + w < q * d0
    · have hd' : decide (((q * d0 : Nat) : Int) > ((4294967296 * r + w : Nat) : Int)) = true := by simp only [decide_eq_true_eq]; omega
      have hq0 : 0 < q := by rcases Nat.eq_zero_or_pos q with h | h; · subst h; omega
                             · exact h
      simp only [hd', cond_true, e2 hq0, if_pos (Or.inr hd : 4294967296 ≤ q ∨ 4294967296 * r + w < q * d0)]
      by_cases hc : 4294967296 ≤ r + d1
      · have hc' : decide (((r + d1 : Nat) : Int) ≥ 4294967296) = true := by simp; omega
        simp only [hc', cond_true, if_pos hc]
      · have hc' : decide (((r + d1 : Nat) : Int) ≥ 4294967296) = false := by simp; omega
        simp only [hc', cond_false, cond_true, if_neg hc]

    · have hd' : decide (((q * d0 : Nat) : Int) > ((4294967296 * r + w : Nat) : Int)) = false := by simp only [decide_eq_false_iff_not]; omega
      have hn : ¬ (4294967296 ≤ q ∨ 4294967296 * r + w < q * d0) := by omega
      simp only [hd', cond_false, cond_true, if_neg hn]
theorem dig1_run {d1 d0 w u : Nat} (h1 : d1 < 4294967296) (hd : 2147483648 ≤ d1) (h0 : d0 < 4294967296) (hw : w < 4294967296) (hu : u < 4294967296 * d1 + d0) (z0 z1 z2 z3 z5 z7 : Int) (z8 : Bool × Bool × Bool) : ∀ (n q r : Nat), q ≤ n → q ≤ 18446744073709551615 → q * d1 + r = u → r < 4294967296 → (4294967296 * u + w) / (4294967296 * d1 + d0) ≤ q →
    ∃ q' r' : Nat, runL (bits_Div64_L1_step (z0, z1, z2, z3, (d1 : Int), (d0 : Int), (w : Int), z5, z7, z8)) (n + 1) ((r : Int), (q : Int)) = some ((r' : Int), (q' : Int)) ∧ q' = (4294967296 * u + w) / (4294967296 * d1 + d0) ∧ q' * d1 + r' = u := by
  intro n
  induction n with
  | zero =>
    intro q r hqn hq2 hq hr hle
    have hq0 : q = 0 := by omega
    subst hq0
    refine ⟨0, r, ?_, (Nat.le_zero.1 hle).symm, hq⟩
    rw [dig1_step h1 h0 hw hr (.inr rfl), if_neg (by omega)]
  | succ n ih =>
    intro q r hqn hq2 hq hr hle
    have hy : 0 < 4294967296 * d1 + d0 := by omega
    rw [dig1_step h1 h0 hw hr (by omega)]
    by_cases hs : 4294967296 ≤ q ∨ 4294967296 * r + w < q * d0
    · rw [if_pos hs]
      have hlt := dig_down hq hu hw hs
      have hq0 : 0 < q := by rcases Nat.eq_zero_or_pos q with h | h; · subst h; omega
                             · exact h
      have hle' : (4294967296 * u + w) / (4294967296 * d1 + d0) ≤ q - 1 := by
        have := (Nat.div_lt_iff_lt_mul hy).2 hlt
        omega
      have hq' : (q - 1) * d1 + (r + d1) = u := by
        have : (q - 1) * d1 + d1 = q * d1 := by rw [← Nat.succ_mul]; congr 1; omega
        omega
      by_cases hc : 4294967296 ≤ r + d1
      · rw [if_pos hc]
        refine ⟨q - 1, r + d1, rfl, ?_, hq'⟩
        exact Nat.le_antisymm ((Nat.le_div_iff_mul_le hy).2 (dig_break hq' hu h0 hc)) hle'
      · rw [if_neg hc]
        exact ih (q - 1) (r + d1) (by omega) (by omega) hq' (by omega) hle'
    · rw [if_neg hs]
      refine ⟨q, r, rfl, ?_, hq⟩
      exact Nat.le_antisymm ((Nat.le_div_iff_mul_le hy).2 (dig_stop hq (by omega))) hle
end Go.Fb
