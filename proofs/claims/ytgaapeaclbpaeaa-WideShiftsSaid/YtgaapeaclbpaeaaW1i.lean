/- Contracts and laws of functions of the program, on the way to the claim. Conditions: as each theorem states. -/
import Derived.Test.YtgaapeaclbpaeaaW1h
namespace Go.Fb
open Go.Ev

theorem sub64 {x y c : Int} (hx : Wd x) (hy : Wd y) (hc : c = 0 ∨ c = 1) : bits_Sub64 x y c = ((x - y - c) % 18446744073709551616, if x < y + c then 1 else 0) ∧ bits_Sub64_s x y c = true := by
  unfold Wd at hx hy
  refine ⟨?_, ?_⟩
  · unfold bits_Sub64
    refine Prod.ext ?_ ?_
    · simp only; omega
    · simp only
      split <;> split <;> omega
  · unfold bits_Sub64_s
    rcases hc with rfl | rfl <;> rfl
theorem addc {x y c : Int} (hx : Wd x) (hy : Wd y) (hc : c = 0 ∨ c = 1) : bits_Add64 x y c = ((x + y + c) % 18446744073709551616, (x + y + c) / 18446744073709551616) ∧ bits_Add64_s x y c = true := by
  unfold Wd at hx hy
  refine ⟨?_, ?_⟩
  · unfold bits_Add64
    refine Prod.ext ?_ ?_ <;> simp only <;> omega
  · unfold bits_Add64_s
    rcases hc with rfl | rfl <;> rfl
theorem uadd_spec {a b : U2} (ha : W2 a) (hb : W2 b) : u2_Add_s a b = true ∧ W2 (u2_Add a b).1 ∧ n2 (u2_Add a b).1 = (n2 a + n2 b) % 340282366920938463463374607431768211456 ∧ (u2_Add a b).2 = (((n2 a + n2 b) / 340282366920938463463374607431768211456 : Nat) : Int) := by
  obtain ⟨e1, s1⟩ := addc (c := 0) ha.2 hb.2 (.inl rfl)
  have hc : (a.lo + b.lo + 0) / 18446744073709551616 = 0 ∨ (a.lo + b.lo + 0) / 18446744073709551616 = 1 := by
    have := ha.2; have := hb.2; unfold Wd at *; omega
  obtain ⟨e2, s2⟩ := addc ha.1 hb.1 hc
  simp only [u2_Add, u2_Add_s, u2_Add_t, u2_Add_T, Tr.val, Tr.safe, e1, s1, e2, s2]
  obtain ⟨h1, h2⟩ := ha
  obtain ⟨h3, h4⟩ := hb
  unfold W2 Wd n2 at *
  simp only
  refine ⟨rfl, ⟨?_, ?_⟩, ?_, ?_⟩ <;> omega
theorem usub_spec {a b : U2} (ha : W2 a) (hb : W2 b) : u2_Sub_s a b = true ∧ W2 (u2_Sub a b).1 ∧ n2 (u2_Sub a b).1 = (n2 a + 340282366920938463463374607431768211456 - n2 b) % 340282366920938463463374607431768211456 ∧ (u2_Sub a b).2 = if n2 a < n2 b then 1 else 0 := by
  obtain ⟨e1, s1⟩ := sub64 (c := 0) ha.2 hb.2 (.inl rfl)
  have hc : (if a.lo < b.lo + 0 then (1 : Int) else 0) = 0 ∨ (if a.lo < b.lo + 0 then (1 : Int) else 0) = 1 := by split <;> simp
  obtain ⟨e2, s2⟩ := sub64 ha.1 hb.1 hc
  simp only [u2_Sub, u2_Sub_s, u2_Sub_t, u2_Sub_T, Tr.val, Tr.safe, e1, s1, e2, s2]
  obtain ⟨h1, h2⟩ := ha
  obtain ⟨h3, h4⟩ := hb
  unfold W2 Wd n2 at *
  simp only
  refine ⟨rfl, ⟨?_, ?_⟩, ?_, ?_⟩
  · omega
  · omega
  · split <;> omega
  · split <;> split <;> split <;> omega
theorem ucmp_spec {a b : U2} (ha : W2 a) (hb : W2 b) : u2_Cmp a b = cmpN (n2 a) (n2 b) := by
  have e : u2_Cmp a b = wide_order2 ((a.hi, b.hi), a.lo, b.lo) := rfl
  rw [e]
  simp only [wide_order2, wide_order2_t, wide_order2_T, Tr.val, Bool.cond_decide]
  obtain ⟨h1, h2⟩ := ha
  obtain ⟨h3, h4⟩ := hb
  unfold Wd at *
  unfold cmpN n2
  (repeat' split) <;> omega
theorem n2_inj {a b : U2} (ha : W2 a) (hb : W2 b) (h : n2 a = n2 b) : a = b := by
  obtain ⟨a1, a2⟩ := a
  obtain ⟨b1, b2⟩ := b
  obtain ⟨h1, h2⟩ := ha
  obtain ⟨h3, h4⟩ := hb
  unfold Wd n2 at *
  simp only at *
  rw [U2.mk.injEq]
  omega
theorem bits_or {x y : Nat} (hx : x < 18446744073709551616) (hy : y < 18446744073709551616) : bitsI .or .u64 (x : Int) (y : Int) = ((x ||| y : Nat) : Int) := by
  have h : (x ||| y) < 18446744073709551616 := Nat.or_lt_two_pow (n := 64) hx hy
  have e : (BitVec.ofInt 64 (x : Int) ||| BitVec.ofInt 64 (y : Int)).toNat = x ||| y := by
    rw [BitVec.toNat_or]
    simp only [BitVec.ofInt_natCast, BitVec.toNat_ofNat]
    rw [Nat.mod_eq_of_lt (by omega), Nat.mod_eq_of_lt (by omega)]
  have e0 : bitsI .or .u64 (x : Int) (y : Int) = IntKind.u64.wrap ((BitVec.ofInt 64 (x : Int) ||| BitVec.ofInt 64 (y : Int)).toNat : Int) := rfl
  rw [e0, e, u64i (by omega) (by omega)]
theorem or_bit {r j : Nat} (h : r % 2 ^ (j + 1) = 0) : r ||| 2 ^ j = r + 2 ^ j := by
  have e : r = 2 ^ (j + 1) * (r / 2 ^ (j + 1)) := by
    have := Nat.div_add_mod r (2 ^ (j + 1)); omega
  have hlt : 2 ^ j < 2 ^ (j + 1) := Nat.pow_lt_pow_right (by decide) (by omega)
  have := Nat.two_pow_add_eq_or_of_lt hlt (r / 2 ^ (j + 1))
  rw [← e] at this
  exact this.symm

/-! ### Roots -/
/-- the root of a number -/
def IsRt (n r : Nat) : Prop := r * r ≤ n ∧ n < (r + 1) * (r + 1)
theorem sq_lt {x y : Nat} (h : x * x < y * y) : x < y := by
  rcases Nat.lt_or_ge x y with h' | h'
  · exact h'
  · have := Nat.mul_le_mul h' h'; omega
theorem IsRt.unique {n r s : Nat} (h1 : IsRt n r) (h2 : IsRt n s) : r = s := by
  have a := sq_lt (Nat.lt_of_le_of_lt h1.1 h2.2)
  have b := sq_lt (Nat.lt_of_le_of_lt h2.1 h1.2)
  omega
theorem sqrt_run {a : U2} (ha : W2 a) (z1 z2 z3 : Int) : ∀ (j r : Nat), r % 2 ^ j = 0 → r * r ≤ n2 a → n2 a < (r + 2 ^ j) * (r + 2 ^ j) → r + 2 ^ j ≤ 18446744073709551616 →
    ∃ s : Nat, runL (u2_Sqrt_L0_step (z1, a.hi, a.lo, z2, z3)) (j + 1) ((r : Int), ((2 ^ j / 2 : Nat) : Int)) = some ((s : Int), 0) ∧ IsRt (n2 a) s ∧ s < 18446744073709551616
  | 0, r, _, h1, h2, h3 => by
    refine ⟨r, ?_, ⟨h1, h2⟩, by omega⟩
    rw [runL]
    simp only [u2_Sqrt_L0_step, u2_Sqrt_L0_T, Tr.val, Tr.safe]
    rfl
  | j + 1, r, h0, h1, h2, h3 => by
    have hp : 0 < 2 ^ j := Nat.pow_pos (by decide)
    have e2 : 2 ^ (j + 1) / 2 = 2 ^ j := by rw [Nat.pow_succ]; omega
    have e3 : 2 ^ (j + 1) = 2 * 2 ^ j := by rw [Nat.pow_succ]; omega
    have hj : j ≤ 63 := by
      rcases Nat.lt_or_ge j 64 with h | h
      · omega
      · have : 2 ^ 64 ≤ 2 ^ j := Nat.pow_le_pow_right (by decide) h
        omega
    have ho : bitsI .or .u64 (r : Int) ((2 ^ j : Nat) : Int) = ((r + 2 ^ j : Nat) : Int) := by rw [bits_or (by omega) (by omega), or_bit h0]
    have hs : shrI .u64 ((2 ^ j : Nat) : Int) 1 = ((2 ^ j / 2 : Nat) : Int) := by
      have := shr_nat (2 ^ j) 1 (by omega)
      simpa using this
    have hw : Wd ((r + 2 ^ j : Nat) : Int) := by unfold Wd; omega
    obtain ⟨m1, m2⟩ := wmul_spec hw hw
    have hc := ucmp_spec m1 (b := ⟨a.hi, a.lo⟩) ha
    rw [m2, Int.toNat_natCast, show n2 ⟨a.hi, a.lo⟩ = n2 a from rfl] at hc
    have hm : r % 2 ^ j = 0 := by
      have := Nat.mod_mul_left_mod r 2 (2 ^ j)
      rw [← e3, h0] at this
      simpa using this.symm
    have key : (u2_Sqrt_L0_step (z1, a.hi, a.lo, z2, z3) ((r : Int), ((2 ^ (j + 1) / 2 : Nat) : Int))).safe = true ∧ (u2_Sqrt_L0_step (z1, a.hi, a.lo, z2, z3) ((r : Int), ((2 ^ (j + 1) / 2 : Nat) : Int))).val = .inl ((((if (r + 2 ^ j) * (r + 2 ^ j) ≤ n2 a then r + 2 ^ j else r) : Nat) : Int), ((2 ^ j / 2 : Nat) : Int)) := by
      simp only [u2_Sqrt_L0_step, u2_Sqrt_L0_T, Tr.val, Tr.safe, e2, ho, hs, hc]
      rw [decide_eq_true (show ((2 ^ j : Nat) : Int) > 0 by omega)]
      by_cases hle : (r + 2 ^ j) * (r + 2 ^ j) ≤ n2 a
      · have : cmpN ((r + 2 ^ j) * (r + 2 ^ j)) (n2 a) ≤ 0 := by unfold cmpN; split <;> (try split) <;> omega
        rw [decide_eq_true this, if_pos hle]
        exact ⟨rfl, rfl⟩
      · have : ¬ cmpN ((r + 2 ^ j) * (r + 2 ^ j)) (n2 a) ≤ 0 := by unfold cmpN; rw [if_neg (by omega), if_neg (by omega)]; decide
        rw [decide_eq_false this, if_neg hle]
        exact ⟨rfl, rfl⟩
    rw [runL, key.1, key.2]
    by_cases hle : (r + 2 ^ j) * (r + 2 ^ j) ≤ n2 a
    · rw [if_pos hle]
      exact sqrt_run ha z1 z2 z3 j (r + 2 ^ j) (by rw [Nat.add_mod, hm]; simp) hle (by
        rw [Nat.add_assoc, ← Nat.two_mul, ← e3]; exact h2) (by omega)
    · rw [if_neg hle]
      exact sqrt_run ha z1 z2 z3 j r hm h1 (by omega) (by omega)
theorem sqrt_spec {a : U2} (ha : W2 a) : ∃ s : Nat, u2_Sqrt_s a = true ∧ (u2_Sqrt a).1 = (s : Int) ∧ IsRt (n2 a) s ∧ s < 18446744073709551616 ∧ W2 (u2_Sqrt a).2 ∧ n2 (u2_Sqrt a).2 = n2 a - s * s := by
  have hn : n2 a < 340282366920938463463374607431768211456 := by
    obtain ⟨h1, h2⟩ := ha
    unfold Wd n2 at *
    omega
  obtain ⟨s, h1, h2, h3⟩ := sqrt_run ha 0 0 0 64 0 (by simp) (by omega) (by simpa using hn) (by simp)
  have hr : u2_Sqrt_L0_r (0, a.hi, a.lo, 0, 0) (0, 9223372036854775808) = some ((s : Int), 0) := runB_of h1 (by omega)
  have hw : Wd (s : Int) := by unfold Wd; omega
  obtain ⟨m1, m2⟩ := wmul_spec hw hw
  obtain ⟨k1, k2, k3, _⟩ := usub_spec ha m1
  refine ⟨s, ?_, ?_, h2, h3, ?_, ?_⟩
  · simp only [u2_Sqrt_s, u2_Sqrt_t, u2_Sqrt_T, u2_Sqrt_L0_ok, u2_Sqrt_L0_v, hr, Tr.safe, Option.isSome_some, Option.getD_some, k1]
    rfl
  · simp only [u2_Sqrt, u2_Sqrt_t, u2_Sqrt_T, u2_Sqrt_L0_v, hr, Tr.val, Option.getD_some]
  · simp only [u2_Sqrt, u2_Sqrt_t, u2_Sqrt_T, u2_Sqrt_L0_v, hr, Tr.val, Option.getD_some]
    exact k2
  · simp only [u2_Sqrt, u2_Sqrt_t, u2_Sqrt_T, u2_Sqrt_L0_v, hr, Tr.val, Option.getD_some]
    rw [k3, m2, Int.toNat_natCast]
    have := h2.1
    omega
end Go.Fb
