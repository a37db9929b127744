/- Contracts and laws of functions of the program, on the way to the claim. Conditions: as each theorem states. -/
import Derived.Test.YtgaapeaclbpaeaaW1f
namespace Go.Fb
open Go.Ev

/-! ### Rows of bits as numbers -/
def bv : List Bool → Nat
  | [] => 0
  | b :: l => b.toNat + 2 * bv l
theorem bv_lt : ∀ l : List Bool, bv l < 2 ^ l.length
  | [] => by simp [bv]
  | b :: l => by
    have := bv_lt l
    have hb : b.toNat ≤ 1 := by cases b <;> decide
    simp only [bv, List.length_cons, Nat.pow_succ]
    omega
theorem bv_app : ∀ a b : List Bool, bv (a ++ b) = bv a + 2 ^ a.length * bv b
  | [], b => by simp [bv]
  | x :: a, b => by
    simp only [List.cons_append, bv, bv_app a b, List.length_cons, Nat.pow_succ]
    rw [Nat.mul_add, ← Nat.mul_assoc, Nat.mul_comm 2 (2 ^ a.length)]
    omega
theorem bv_snoc (a : List Bool) (b : Bool) : bv (a ++ [b]) = bv a + 2 ^ a.length * b.toNat := by
  rw [bv_app]; simp [bv]
theorem bv_rep (n : Nat) : bv (List.replicate n false) = 0 := by
  induction n with
  | zero => rfl
  | succ n ih => simp [List.replicate_succ, bv, ih]
theorem getD_bit : ∀ (l : List Bool) (i : Nat), (l.getD i false).toNat = bv l / 2 ^ i % 2
  | [], i => by simp [bv]
  | b :: l, 0 => by
    simp only [List.getD_cons_zero, bv, Nat.pow_zero, Nat.div_one]
    cases b <;> simp <;> omega
  | b :: l, i + 1 => by
    simp only [List.getD_cons_succ, bv]
    rw [getD_bit l i, Nat.pow_succ, Nat.mul_comm (2 ^ i) 2, ← Nat.div_div_eq_div_mul]
    have : (b.toNat + 2 * bv l) / 2 = bv l := by cases b <;> simp <;> omega
    rw [this]
theorem div_step (n i : Nat) : n / 2 ^ i = 2 * (n / 2 ^ (i + 1)) + n / 2 ^ i % 2 := by
  rw [Nat.pow_succ, ← Nat.div_div_eq_div_mul]
  omega
theorem getD_none {l : List Bool} {i : Nat} (h : l.length ≤ i) : l.getD i false = false := by simp [List.getD, h]
theorem bit_eq (a : List Bool) (k : Nat) : r1_bit a (k : Int) = a.getD k false ∧ r1_bit_s a (k : Int) = true := by
  simp only [r1_bit, r1_bit_s, r1_bit_t, r1_bit_T, Tr.val, Tr.safe]
  rw [decide_eq_true (show (k : Int) ≥ 0 by omega)]
  by_cases h : (k : Int) < (a.length : Int)
  · rw [decide_eq_true h]
    simp
  · rw [decide_eq_false h, getD_none (i := k) (by omega)]
    exact ⟨rfl, rfl⟩
theorem w64 {n : Int} (h0 : -9223372036854775808 ≤ n) (h1 : n ≤ 9223372036854775807) : IntKind.i64.wrap n = n := by
  simp only [IntKind.wrap, IntKind.bits, IntKind.signed]
  simp
  omega
theorem wnext {i : Nat} (h : i < 4611686018427387904) : IntKind.i64.wrap ((i : Int) + 1) = ((i + 1 : Nat) : Int) := by rw [w64 (by omega) (by omega)]; rfl

/-! ### Sums -/
theorem add_step {a b : List Bool} {c : Bool} {i : Nat} {out : List Bool} (hi : i < 4611686018427387904) (hl : out.length ≤ 1000000) (h : i < a.length ∨ i < b.length ∨ c = true) :
    (r1_Add_L0_step (a, b) (c, i, out)).safe = true ∧ (r1_Add_L0_step (a, b) (c, i, out)).val = .inl ((a.getD i false && b.getD i false || a.getD i false && c || b.getD i false && c), ((i + 1 : Nat) : Int), out ++ [(a.getD i false != b.getD i false) != c]) := by
  obtain ⟨a1, a2⟩ := bit_eq a i
  obtain ⟨b1, b2⟩ := bit_eq b i
  have hd : ∀ x : Bool, decide ((out.length + [x].length) * 1 ≤ 140737488355328) = true := fun x => decide_eq_true (by simp; omega)
  simp only [r1_Add_L0_step, r1_Add_L0_T, Tr.val, Tr.safe, a1, a2, b1, b2, hd, wnext hi]
  by_cases h1 : (i : Int) < (a.length : Int)
  · rw [decide_eq_true h1]
    cases a.getD i false <;> cases b.getD i false <;> cases c <;> exact ⟨rfl, rfl⟩
  · rw [decide_eq_false h1]
    by_cases h2 : (i : Int) < (b.length : Int)
    · rw [decide_eq_true h2]
      cases a.getD i false <;> cases b.getD i false <;> cases c <;> exact ⟨rfl, rfl⟩
    · rw [decide_eq_false h2]
      have : c = true := by
        rcases h with h | h | h
        · omega
        · omega
        · exact h
      subst this
      cases a.getD i false <;> cases b.getD i false <;> exact ⟨rfl, rfl⟩
theorem add_end {a b : List Bool} {i : Nat} {out : List Bool} (h1 : a.length ≤ i) (h2 : b.length ≤ i) :
    (r1_Add_L0_step (a, b) (false, i, out)).safe = true ∧ (r1_Add_L0_step (a, b) (false, i, out)).val = .inr (false, (i : Int), out) := by
  simp only [r1_Add_L0_step, r1_Add_L0_T, Tr.val, Tr.safe]
  rw [decide_eq_false (show ¬ (i : Int) < (a.length : Int) by omega), decide_eq_false (show ¬ (i : Int) < (b.length : Int) by omega)]
  exact ⟨rfl, rfl⟩
theorem add_run {a b : List Bool} : ∀ (m i : Nat) (c : Bool) (out : List Bool), out.length = i → a.length ≤ i + m → b.length ≤ i + m → i + m ≤ 900000 →
    bv out + 2 ^ i * (c.toNat + bv a / 2 ^ i + bv b / 2 ^ i) = bv a + bv b →
    ∃ out', runL (r1_Add_L0_step (a, b)) (m + 2) (c, i, out) = some (false, (out'.length : Int), out') ∧ bv out' = bv a + bv b ∧ (a.length ≤ out'.length ∧ b.length ≤ out'.length) ∧ out'.length ≤ i + m + 1
  | 0, i, c, out, ho, ha, hb, hm, hv => by
    have za : bv a / 2 ^ i = 0 := Nat.div_eq_of_lt (Nat.lt_of_lt_of_le (bv_lt a) (Nat.pow_le_pow_right (by decide) ha))
    have zb : bv b / 2 ^ i = 0 := Nat.div_eq_of_lt (Nat.lt_of_lt_of_le (bv_lt b) (Nat.pow_le_pow_right (by decide) hb))
    rw [za, zb] at hv
    cases c with
    | false =>
      obtain ⟨h1, h2⟩ := add_end (out := out) (i := i) ha hb
      refine ⟨out, ?_, by simpa using hv, ⟨by omega, by omega⟩, by omega⟩
      rw [runL, h1, h2, ho]; rfl
    | true =>
      obtain ⟨h1, h2⟩ := add_step (a := a) (b := b) (c := true) (i := i) (out := out) (by omega) (by omega) (.inr (.inr rfl))
      rw [getD_none (i := i) (by omega), getD_none (i := i) (by omega)] at h2
      obtain ⟨h3, h4⟩ := add_end (a := a) (b := b) (out := out ++ [true]) (i := i + 1) (by omega) (by omega)
      refine ⟨out ++ [true], ?_, ?_, ⟨by simp; omega, by simp; omega⟩, by simp [ho]⟩
      · rw [runL, h1, h2]
        show runL _ (0 + 1) (false, ((i + 1 : Nat) : Int), out ++ [true]) = _
        rw [runL, h3, h4]
        simp [ho]
      · rw [bv_snoc, ho]; simpa using hv
  | m + 1, i, c, out, ho, ha, hb, hm, hv => by
    by_cases hz : i < a.length ∨ i < b.length ∨ c = true
    · obtain ⟨h1, h2⟩ := add_step (out := out) (by omega) (by omega) hz
      have sa := div_step (bv a) i
      have sb := div_step (bv b) i
      rw [← getD_bit] at sa sb
      obtain ⟨out', k1, k2, k3, k4⟩ := add_run (a := a) (b := b) m (i + 1) (a.getD i false && b.getD i false || a.getD i false && c || b.getD i false && c) (out ++ [(a.getD i false != b.getD i false) != c]) (by simp [ho]) (by omega) (by omega) (by omega) (by
        have hs : ∀ x y c : Bool, ((x != y) != c).toNat + 2 * (x && y || x && c || y && c).toNat = x.toNat + y.toNat + c.toNat := by decide
        have hs := hs (a.getD i false) (b.getD i false) c
        have e : ((a.getD i false != b.getD i false) != c).toNat + 2 * ((a.getD i false && b.getD i false || a.getD i false && c || b.getD i false && c).toNat + bv a / 2 ^ (i + 1) + bv b / 2 ^ (i + 1)) = c.toNat + bv a / 2 ^ i + bv b / 2 ^ i := by omega
        rw [bv_snoc, ho, ← hv, ← e, Nat.pow_succ 2 i, Nat.mul_assoc, Nat.mul_add (2 ^ i), ← Nat.add_assoc])
      refine ⟨out', ?_, k2, k3, by omega⟩
      rw [runL, h1, h2]
      exact k1
    · have hc : c = false := by cases c <;> simp_all
      subst hc
      obtain ⟨h1, h2⟩ := add_end (a := a) (b := b) (out := out) (i := i) (by omega) (by omega)
      have za : bv a / 2 ^ i = 0 := Nat.div_eq_of_lt (Nat.lt_of_lt_of_le (bv_lt a) (Nat.pow_le_pow_right (by decide) (by omega)))
      have zb : bv b / 2 ^ i = 0 := Nat.div_eq_of_lt (Nat.lt_of_lt_of_le (bv_lt b) (Nat.pow_le_pow_right (by decide) (by omega)))
      rw [za, zb] at hv
      refine ⟨out, ?_, by simpa using hv, ⟨by omega, by omega⟩, by omega⟩
      rw [runL, h1, h2, ho]; rfl
theorem add_full {a b : List Bool} (ha : a.length ≤ 800000) (hb : b.length ≤ 800000) : r1_Add_s a b = true ∧ bv (r1_Add a b) = bv a + bv b ∧ (r1_Add a b).length ≤ max a.length b.length + 1 ∧ a.length ≤ (r1_Add a b).length ∧ b.length ≤ (r1_Add a b).length := by
  obtain ⟨out, h1, h2, h3, h4⟩ := add_run (a := a) (b := b) (max a.length b.length) 0 false [] rfl (by omega) (by omega) (by omega) (by simp [bv])
  have hr : r1_Add_L0_r (a, b) (false, 0, []) = some (false, (out.length : Int), out) := runB_of h1 (by omega)
  simp only [r1_Add, r1_Add_s, r1_Add_t, r1_Add_T, r1_Add_L0_ok, r1_Add_L0_v, Tr.val, Tr.safe, hr, Option.isSome_some, Option.getD_some]
  exact ⟨rfl, h2, by omega, h3⟩
theorem add_spec {a b : List Bool} (ha : a.length ≤ 800000) (hb : b.length ≤ 800000) : r1_Add_s a b = true ∧ bv (r1_Add a b) = bv a + bv b ∧ (r1_Add a b).length ≤ max a.length b.length + 1 := by
  obtain ⟨h1, h2, h3, _⟩ := add_full ha hb
  exact ⟨h1, h2, h3⟩

/-! ### Comparing -/
def cmpN (x y : Nat) : Int := if x < y then -1 else if x = y then 0 else 1
theorem cmp_run (a b : List Bool) (z : Int) : ∀ j : Nat, j ≤ 1000000 → bv a / 2 ^ j = bv b / 2 ^ j →
    runL (r1_Cmp_L0_step (a, b, z)) (j + 1) ((j : Int) - 1) = some (if bv a = bv b then .inl (-1) else .inr (cmpN (bv a) (bv b)))
  | 0, _, h => by
    simp only [Nat.pow_zero, Nat.div_one] at h
    rw [if_pos h, runL]
    rfl
  | j + 1, hj, h => by
    have e : ((j + 1 : Nat) : Int) - 1 = (j : Int) := by omega
    obtain ⟨a1, a2⟩ := bit_eq a j
    obtain ⟨b1, b2⟩ := bit_eq b j
    have sa := div_step (bv a) j
    have sb := div_step (bv b) j
    rw [← getD_bit] at sa sb
    rw [h] at sa
    have ih := cmp_run a b z j (by omega)
    rw [e, runL]
    simp only [r1_Cmp_L0_step, r1_Cmp_L0_T, Tr.val, Tr.safe, a1, a2, b1, b2]
    rw [decide_eq_true (show (j : Int) ≥ 0 by omega), w64 (n := (j : Int) - 1) (by omega) (by omega)]
    have lt_of : ∀ {x y : Nat}, x / 2 ^ j < y / 2 ^ j → x < y := fun {x y} h => by
      rcases Nat.lt_or_ge x y with h' | h'
      · exact h'
      · have := Nat.div_le_div_right (c := 2 ^ j) h'; omega
    cases hx : a.getD j false <;> cases hy : b.getD j false <;> rw [hx] at sa <;> rw [hy] at sb
    · exact ih (by omega)
    · have hlt : bv a < bv b := lt_of (by rw [sa, sb]; simp)
      rw [if_neg (by omega)]
      simp [cmpN, hlt]
    · have hlt : bv b < bv a := lt_of (by rw [sa, sb]; simp)
      rw [if_neg (by omega)]
      have h1 : ¬ bv a < bv b := by omega
      have h2 : ¬ bv a = bv b := by omega
      simp [cmpN, h1, h2]
    · exact ih (by omega)
theorem cmp_spec {a b : List Bool} (ha : a.length ≤ 900000) (hb : b.length ≤ 900000) : r1_Cmp a b = cmpN (bv a) (bv b) ∧ r1_Cmp_s a b = true := by
  have za : bv a / 2 ^ (max a.length b.length) = 0 := Nat.div_eq_of_lt (Nat.lt_of_lt_of_le (bv_lt a) (Nat.pow_le_pow_right (by decide) (by omega)))
  have zb : bv b / 2 ^ (max a.length b.length) = 0 := Nat.div_eq_of_lt (Nat.lt_of_lt_of_le (bv_lt b) (Nat.pow_le_pow_right (by decide) (by omega)))
  have h := cmp_run a b 0 (max a.length b.length) (by omega) (by rw [za, zb])
  have e : IntKind.i64.wrap (imax (a.length : Int) (b.length : Int) - 1) = ((max a.length b.length : Nat) : Int) - 1 := by
    have : imax (a.length : Int) (b.length : Int) = ((max a.length b.length : Nat) : Int) := by unfold imax; split <;> omega
    rw [this, w64 (by omega) (by omega)]
  have hr : r1_Cmp_L0_r (a, b, 0) (((max a.length b.length : Nat) : Int) - 1) = some (if bv a = bv b then .inl (-1) else .inr (cmpN (bv a) (bv b))) := runB_of h (by omega)
  simp only [r1_Cmp, r1_Cmp_s, r1_Cmp_t, r1_Cmp_T, r1_Cmp_L0_ok, r1_Cmp_L0_rt, r1_Cmp_L0_rv, e, hr, Tr.val, Tr.safe]
  by_cases hab : bv a = bv b
  · rw [if_pos hab]; simp [isR, cmpN, hab]
  · rw [if_neg hab]; simp [isR, outR_]

/-! ### Shifts -/
theorem shl_run (a : List Bool) (n : Nat) (hn : n ≤ 1000000) : ∀ (m i : Nat), i + m = n → runL (r1_Shl_L0_step (a, (n : Int))) (m + 1) ((i : Int), List.replicate i false) = some ((n : Int), List.replicate n false)
  | 0, i, h => by
    have : i = n := by omega
    subst this
    rw [runL]
    simp only [r1_Shl_L0_step, r1_Shl_L0_T, Tr.val, Tr.safe, decide_eq_false (show ¬ (i : Int) < (i : Int) by omega)]
    rfl
  | m + 1, i, h => by
    have ih := shl_run a n hn m (i + 1) (by omega)
    rw [runL]
    simp only [r1_Shl_L0_step, r1_Shl_L0_T, Tr.val, Tr.safe, decide_eq_true (show (i : Int) < (n : Int) by omega), wnext (show i < 4611686018427387904 by omega)]
    rw [decide_eq_true (by simp; omega)]
    rw [List.replicate_succ'] at ih
    exact ih
theorem shl_spec {a : List Bool} {n : Nat} (ha : a.length ≤ 1000000) (hn : n ≤ 1000000) : r1_Shl a (n : Int) = List.replicate n false ++ a ∧ r1_Shl_s a (n : Int) = true := by
  have hr : r1_Shl_L0_r (a, (n : Int)) (0, []) = some ((n : Int), List.replicate n false) := runB_of (shl_run a n hn n 0 (by omega)) (by omega)
  simp only [r1_Shl, r1_Shl_s, r1_Shl_t, r1_Shl_T, r1_Shl_L0_ok, r1_Shl_L0_v, hr, Tr.val, Tr.safe, Option.isSome_some, Option.getD_some]
  refine ⟨trivial, ?_⟩
  rw [decide_eq_true (by simp; omega)]
  rfl
theorem bv_shl {a : List Bool} {n : Nat} (ha : a.length ≤ 1000000) (hn : n ≤ 1000000) : bv (r1_Shl a (n : Int)) = 2 ^ n * bv a := by
  rw [(shl_spec ha hn).1, bv_app, bv_rep]; simp

/-! ### Products -/
theorem mul_run {a b : List Bool} (hab : a.length + b.length ≤ 700000) : ∀ (m i : Nat) (out : List Bool), i + m = b.length → out.length ≤ a.length + i → bv out = bv a * (bv b % 2 ^ i) →
    ∃ out', runL (r1_Mul_L0_step (a, b)) (m + 1) (out, (i : Int)) = some (out', (b.length : Int)) ∧ bv out' = bv a * bv b ∧ out'.length ≤ a.length + b.length
  | 0, i, out, h, hl, hv => by
    have : i = b.length := by omega
    subst this
    refine ⟨out, ?_, by rw [hv, Nat.mod_eq_of_lt (bv_lt b)], hl⟩
    rw [runL]
    simp only [r1_Mul_L0_step, r1_Mul_L0_T, Tr.val, Tr.safe, decide_eq_false (show ¬ (b.length : Int) < (b.length : Int) by omega)]
    rfl
  | m + 1, i, out, h, hl, hv => by
    have hi : i < b.length := by omega
    obtain ⟨s1, s2⟩ := shl_spec (a := a) (n := i) (by omega) (by omega)
    have s3 := bv_shl (a := a) (n := i) (by omega) (by omega)
    have sl : (r1_Shl a (i : Int)).length = i + a.length := by rw [s1]; simp
    obtain ⟨t1, t2, t3⟩ := add_spec (a := out) (b := r1_Shl a (i : Int)) (by omega) (by omega)
    have hmod : bv b % 2 ^ (i + 1) = bv b % 2 ^ i + 2 ^ i * (b.getD i false).toNat := by
      rw [getD_bit, Nat.pow_succ, Nat.mod_mul]
    have key : (r1_Mul_L0_step (a, b) (out, (i : Int))).safe = true ∧ (r1_Mul_L0_step (a, b) (out, (i : Int))).val = .inl (cond (b.getD i false) (r1_Add out (r1_Shl a (i : Int))) out, ((i + 1 : Nat) : Int)) := by
      simp only [r1_Mul_L0_step, r1_Mul_L0_T, Tr.val, Tr.safe, Int.toNat_natCast, s2, t1, wnext (show i < 4611686018427387904 by omega)]
      rw [decide_eq_true (show (i : Int) < (b.length : Int) by omega), decide_eq_true (show (0 : Int) ≤ (i : Int) by omega)]
      cases b.getD i false <;> exact ⟨rfl, rfl⟩
    obtain ⟨out', k1, k2, k3⟩ := mul_run hab m (i + 1) (cond (b.getD i false) (r1_Add out (r1_Shl a (i : Int))) out) (by omega) (by
        cases b.getD i false
        · show out.length ≤ _; omega
        · show (r1_Add out (r1_Shl a (i : Int))).length ≤ _; omega) (by
        rw [hmod]
        cases b.getD i false
        · show bv out = _; rw [hv]; simp
        · show bv (r1_Add out (r1_Shl a (i : Int))) = _
          rw [t2, hv, s3, Nat.mul_add]; simp [Nat.mul_comm])
    refine ⟨out', ?_, k2, k3⟩
    rw [runL, key.1, key.2]
    exact k1
theorem mul_spec {a b : List Bool} (hab : a.length + b.length ≤ 700000) : r1_Mul_s a b = true ∧ bv (r1_Mul a b) = bv a * bv b ∧ (r1_Mul a b).length ≤ a.length + b.length := by
  obtain ⟨out, h1, h2, h3⟩ := mul_run hab b.length 0 [] (by omega) (by simp) (by simp [bv, Nat.mod_one])
  have hr : r1_Mul_L0_r (a, b) ([], 0) = some (out, (b.length : Int)) := runB_of h1 (by omega)
  simp only [r1_Mul, r1_Mul_s, r1_Mul_t, r1_Mul_T, r1_Mul_L0_ok, r1_Mul_L0_v, hr, Tr.val, Tr.safe, Option.isSome_some, Option.getD_some]
  exact ⟨rfl, h2, h3⟩

/-! ### Words -/
def Wd (x : Int) : Prop := 0 ≤ x ∧ x < 18446744073709551616
theorem u64w (n : Int) : IntKind.u64.wrap n = n % 18446744073709551616 := by
  simp [IntKind.wrap, IntKind.bits, IntKind.signed]
theorem u64i {n : Int} (h0 : 0 ≤ n) (h1 : n < 18446744073709551616) : IntKind.u64.wrap n = n := by rw [u64w]; omega
theorem bits_and {x y : Nat} (hx : x < 18446744073709551616) (hy : y < 18446744073709551616) : bitsI .and .u64 (x : Int) (y : Int) = ((x &&& y : Nat) : Int) := by
  have h : (x &&& y) < 18446744073709551616 := Nat.and_lt_two_pow x (n := 64) hy
  have e : (BitVec.ofInt 64 (x : Int) &&& BitVec.ofInt 64 (y : Int)).toNat = x &&& y := by
    rw [BitVec.toNat_and]
    simp only [BitVec.ofInt_natCast, BitVec.toNat_ofNat]
    rw [Nat.mod_eq_of_lt (by omega), Nat.mod_eq_of_lt (by omega)]
  have e0 : bitsI .and .u64 (x : Int) (y : Int) = IntKind.u64.wrap ((BitVec.ofInt 64 (x : Int) &&& BitVec.ofInt 64 (y : Int)).toNat : Int) := rfl
  rw [e0, e, u64i (by omega) (by omega)]
theorem shr_nat (x k : Nat) (hk : k ≤ 64) : shrI .u64 (x : Int) (k : Int) = ((x / 2 ^ k : Nat) : Int) := by
  simp only [shrI, IntKind.bits, Int.toNat_natCast, Nat.min_eq_left hk]
  rw [Int.fdiv_eq_ediv_of_nonneg _ (Int.le_of_lt (Int.pow_pos (by decide)))]
  simp

theorem of_run1 (l : List Int) (j : Nat) (x : Nat) (hx : x < 18446744073709551616) (hj : j < l.length) (hl : l.length ≤ 1000) (hg : l.getD j 0 = (x : Int)) (z1 z2 : Int) (l2 : List Int) (b : Bool) : ∀ (m i : Nat) (out : List Bool), i + m = 64 → out.length ≤ 10000 + i →
    ∃ out', runL (r1_Of1_L1_step (l, (j : Int), z1, l2, z2, b)) (m + 1) ((i : Int), out) = some (64, out') ∧ out'.length = out.length + m ∧ bv out' = bv out + 2 ^ out.length * (x / 2 ^ i % 2 ^ m)
  | 0, i, out, h, _ => by
    have : i = 64 := by omega
    subst this
    refine ⟨out, ?_, by simp, by simp [Nat.mod_one]⟩
    rw [runL]
    simp only [r1_Of1_L1_step, r1_Of1_L1_T, Tr.val, Tr.safe]
    rfl
  | m + 1, i, out, h, ho => by
    have e0 : IntKind.u64.wrap (i : Int) = (i : Int) := u64i (by omega) (by omega)
    have e1 : (bitsI .and .u64 (shrI .u64 (x : Int) (i : Int)) 1 == 1) = decide (x / 2 ^ i % 2 = 1) := by
      rw [shr_nat x i (by omega)]
      have hlt : x / 2 ^ i < 18446744073709551616 := Nat.lt_of_le_of_lt (Nat.div_le_self _ _) hx
      have := bits_and (y := 1) hlt (by decide)
      rw [show ((1 : Nat) : Int) = 1 from rfl] at this
      rw [this, Nat.and_one_is_mod]
      by_cases hb : x / 2 ^ i % 2 = 1
      · rw [hb]; rfl
      · rw [decide_eq_false hb]
        have : x / 2 ^ i % 2 = 0 := by omega
        rw [this]; rfl
    obtain ⟨out', k1, k2, k3⟩ := of_run1 l j x hx hj hl hg z1 z2 l2 b m (i + 1) (out ++ [decide (x / 2 ^ i % 2 = 1)]) (by omega) (by simp; omega)
    refine ⟨out', ?_, by rw [k2]; simp; omega, ?_⟩
    · rw [runL]
      simp only [r1_Of1_L1_step, r1_Of1_L1_T, Tr.val, Tr.safe, Int.toNat_natCast, hg, e0, e1, wnext (show i < 4611686018427387904 by omega)]
      rw [decide_eq_true (show (i : Int) < 64 by omega), decide_eq_true (show (0 : Int) ≤ (j : Int) by omega), decide_eq_true (show (j : Int) < (l.length : Int) by omega), decide_eq_true (show (0 : Int) ≤ (i : Int) by omega), decide_eq_true (by simp; omega)]
      exact k1
    · rw [k3, bv_snoc]
      have hb : (decide (x / 2 ^ i % 2 = 1)).toNat = x / 2 ^ i % 2 := by
        by_cases hb : x / 2 ^ i % 2 = 1
        · rw [decide_eq_true hb, hb]; rfl
        · rw [decide_eq_false hb]
          have : x / 2 ^ i % 2 = 0 := by omega
          rw [this]; rfl
      rw [hb, List.length_append, List.length_singleton, Nat.pow_succ 2 out.length, Nat.add_assoc, Nat.mul_assoc, ← Nat.mul_add]
      congr 2
      rw [Nat.pow_succ 2 m, Nat.mul_comm (2 ^ m) 2, Nat.mod_mul, Nat.div_div_eq_div_mul, ← Nat.pow_succ]

theorem of_run2 (l : List Int) (j : Nat) (x : Nat) (hx : x < 18446744073709551616) (hj : j < l.length) (hl : l.length ≤ 1000) (hg : l.getD j 0 = (x : Int)) (z1 z2 : Int) (l2 : List Int) (b : Bool) : ∀ (m i : Nat) (out : List Bool), i + m = 64 → out.length ≤ 10000 + i →
    ∃ out', runL (r1_Of2_L1_step (l, (j : Int), z1, l2, z2, b)) (m + 1) ((i : Int), out) = some (64, out') ∧ out'.length = out.length + m ∧ bv out' = bv out + 2 ^ out.length * (x / 2 ^ i % 2 ^ m)
  | 0, i, out, h, _ => by
    have : i = 64 := by omega
    subst this
    refine ⟨out, ?_, by simp, by simp [Nat.mod_one]⟩
    rw [runL]
    simp only [r1_Of2_L1_step, r1_Of2_L1_T, Tr.val, Tr.safe]
    rfl
  | m + 1, i, out, h, ho => by
    have e0 : IntKind.u64.wrap (i : Int) = (i : Int) := u64i (by omega) (by omega)
    have e1 : (bitsI .and .u64 (shrI .u64 (x : Int) (i : Int)) 1 == 1) = decide (x / 2 ^ i % 2 = 1) := by
      rw [shr_nat x i (by omega)]
      have hlt : x / 2 ^ i < 18446744073709551616 := Nat.lt_of_le_of_lt (Nat.div_le_self _ _) hx
      have := bits_and (y := 1) hlt (by decide)
      rw [show ((1 : Nat) : Int) = 1 from rfl] at this
      rw [this, Nat.and_one_is_mod]
      by_cases hb : x / 2 ^ i % 2 = 1
      · rw [hb]; rfl
      · rw [decide_eq_false hb]
        have : x / 2 ^ i % 2 = 0 := by omega
        rw [this]; rfl
    obtain ⟨out', k1, k2, k3⟩ := of_run2 l j x hx hj hl hg z1 z2 l2 b m (i + 1) (out ++ [decide (x / 2 ^ i % 2 = 1)]) (by omega) (by simp; omega)
    refine ⟨out', ?_, by rw [k2]; simp; omega, ?_⟩
    · rw [runL]
      simp only [r1_Of2_L1_step, r1_Of2_L1_T, Tr.val, Tr.safe, Int.toNat_natCast, hg, e0, e1, wnext (show i < 4611686018427387904 by omega)]
      rw [decide_eq_true (show (i : Int) < 64 by omega), decide_eq_true (show (0 : Int) ≤ (j : Int) by omega), decide_eq_true (show (j : Int) < (l.length : Int) by omega), decide_eq_true (show (0 : Int) ≤ (i : Int) by omega), decide_eq_true (by simp; omega)]
      exact k1
    · rw [k3, bv_snoc]
      have hb : (decide (x / 2 ^ i % 2 = 1)).toNat = x / 2 ^ i % 2 := by
        by_cases hb : x / 2 ^ i % 2 = 1
        · rw [decide_eq_true hb, hb]; rfl
        · rw [decide_eq_false hb]
          have : x / 2 ^ i % 2 = 0 := by omega
          rw [this]; rfl
      rw [hb, List.length_append, List.length_singleton, Nat.pow_succ 2 out.length, Nat.add_assoc, Nat.mul_assoc, ← Nat.mul_add]
      congr 2
      rw [Nat.pow_succ 2 m, Nat.mul_comm (2 ^ m) 2, Nat.mod_mul, Nat.div_div_eq_div_mul, ← Nat.pow_succ]

theorem of_run3 (l : List Int) (j : Nat) (x : Nat) (hx : x < 18446744073709551616) (hj : j < l.length) (hl : l.length ≤ 1000) (hg : l.getD j 0 = (x : Int)) (z1 z2 : Int) (l2 : List Int) (b : Bool) : ∀ (m i : Nat) (out : List Bool), i + m = 64 → out.length ≤ 10000 + i →
    ∃ out', runL (r1_Of3_L1_step (l, (j : Int), z1, l2, z2, b)) (m + 1) ((i : Int), out) = some (64, out') ∧ out'.length = out.length + m ∧ bv out' = bv out + 2 ^ out.length * (x / 2 ^ i % 2 ^ m)
  | 0, i, out, h, _ => by
    have : i = 64 := by omega
    subst this
    refine ⟨out, ?_, by simp, by simp [Nat.mod_one]⟩
    rw [runL]
    simp only [r1_Of3_L1_step, r1_Of3_L1_T, Tr.val, Tr.safe]
    rfl
  | m + 1, i, out, h, ho => by
    have e0 : IntKind.u64.wrap (i : Int) = (i : Int) := u64i (by omega) (by omega)
    have e1 : (bitsI .and .u64 (shrI .u64 (x : Int) (i : Int)) 1 == 1) = decide (x / 2 ^ i % 2 = 1) := by
      rw [shr_nat x i (by omega)]
      have hlt : x / 2 ^ i < 18446744073709551616 := Nat.lt_of_le_of_lt (Nat.div_le_self _ _) hx
      have := bits_and (y := 1) hlt (by decide)
      rw [show ((1 : Nat) : Int) = 1 from rfl] at this
      rw [this, Nat.and_one_is_mod]
      by_cases hb : x / 2 ^ i % 2 = 1
      · rw [hb]; rfl
      · rw [decide_eq_false hb]
        have : x / 2 ^ i % 2 = 0 := by omega
        rw [this]; rfl
    obtain ⟨out', k1, k2, k3⟩ := of_run3 l j x hx hj hl hg z1 z2 l2 b m (i + 1) (out ++ [decide (x / 2 ^ i % 2 = 1)]) (by omega) (by simp; omega)
    refine ⟨out', ?_, by rw [k2]; simp; omega, ?_⟩
    · rw [runL]
      simp only [r1_Of3_L1_step, r1_Of3_L1_T, Tr.val, Tr.safe, Int.toNat_natCast, hg, e0, e1, wnext (show i < 4611686018427387904 by omega)]
      rw [decide_eq_true (show (i : Int) < 64 by omega), decide_eq_true (show (0 : Int) ≤ (j : Int) by omega), decide_eq_true (show (j : Int) < (l.length : Int) by omega), decide_eq_true (show (0 : Int) ≤ (i : Int) by omega), decide_eq_true (by simp; omega)]
      exact k1
    · rw [k3, bv_snoc]
      have hb : (decide (x / 2 ^ i % 2 = 1)).toNat = x / 2 ^ i % 2 := by
        by_cases hb : x / 2 ^ i % 2 = 1
        · rw [decide_eq_true hb, hb]; rfl
        · rw [decide_eq_false hb]
          have : x / 2 ^ i % 2 = 0 := by omega
          rw [this]; rfl
      rw [hb, List.length_append, List.length_singleton, Nat.pow_succ 2 out.length, Nat.add_assoc, Nat.mul_assoc, ← Nat.mul_add]
      congr 2
      rw [Nat.pow_succ 2 m, Nat.mul_comm (2 ^ m) 2, Nat.mod_mul, Nat.div_div_eq_div_mul, ← Nat.pow_succ]

theorem of1_spec {x : Int} (h : Wd x) : r1_Of1_s x = true ∧ (r1_Of1 x).length = 64 ∧ bv (r1_Of1 x) = x.toNat := by
  obtain ⟨k, rfl⟩ := Int.eq_ofNat_of_zero_le h.1
  have hk : k < 18446744073709551616 := by have := h.2; omega
  obtain ⟨out, h1, h2, h3⟩ := of_run1 (to1 (k : Int)) 0 k hk (by simp [to1]) (by simp [to1]) rfl 0 1 (to1 (k : Int)) true 64 0 [] (by omega) (by simp)
  have hr : r1_Of1_L1_r (to1 (k : Int), 0, 0, to1 (k : Int), ((to1 (k : Int)).length : Int), true) (0, []) = some (64, out) := runB_of h1 (by omega)
  simp only [r1_Of1, r1_Of1_s, r1_Of1_t, r1_Of1_T, r1_Of1_L1_ok, r1_Of1_L1_v, hr, Tr.val, Tr.safe, Option.isSome_some, Option.getD_some]
  refine ⟨rfl, by simpa using h2, ?_⟩
  rw [h3]
  simp [bv]
  omega
theorem of2_spec {x y : Int} (hx : Wd x) (hy : Wd y) : r1_Of2_s (x, y) = true ∧ (r1_Of2 (x, y)).length = 128 ∧ bv (r1_Of2 (x, y)) = x.toNat + 18446744073709551616 * y.toNat := by
  obtain ⟨k, rfl⟩ := Int.eq_ofNat_of_zero_le hx.1
  obtain ⟨n, rfl⟩ := Int.eq_ofNat_of_zero_le hy.1
  have hk : k < 18446744073709551616 := by have := hx.2; omega
  have hn : n < 18446744073709551616 := by have := hy.2; omega
  generalize hl : to2 ((k : Int), (n : Int)) = l
  have g0 : l.getD 0 0 = (k : Int) := by rw [← hl]; rfl
  have g1 : l.getD 1 0 = (n : Int) := by rw [← hl]; rfl
  have hlen : l.length = 2 := by rw [← hl]; rfl
  obtain ⟨out, h1, h2, h3⟩ := of_run2 l 0 k hk (by omega) (by omega) g0 0 2 l true 64 0 [] (by omega) (by simp)
  obtain ⟨out2, k1, k2, k3⟩ := of_run2 l 1 n hn (by omega) (by omega) g1 1 2 l true 64 0 out (by omega) (by simp at h2; omega)
  have hr : r1_Of2_L1_r (l, 0, 0, l, 2, true) (0, []) = some (64, out) := runB_of h1 (by omega)
  have hr2 : r1_Of2_L1_r (l, 1, 1, l, 2, true) (0, out) = some (64, out2) := runB_of k1 (by omega)
  have w1 : IntKind.i64.wrap (0 + 1) = 1 := rfl
  have hl2 : ((l.length : Nat) : Int) = 2 := by rw [hlen]; rfl
  simp only [r1_Of2, r1_Of2_s, r1_Of2_t, r1_Of2_T, r1_Of2_L1_ok, r1_Of2_L1_v, hl, hl2, w1, hr, hr2, Tr.val, Tr.safe, Option.isSome_some, Option.getD_some]
  simp at h2
  refine ⟨rfl, by omega, ?_⟩
  rw [k3, h3, h2]
  simp [bv]
  omega
theorem of3_spec {x y z : Int} (hx : Wd x) (hy : Wd y) (hz : Wd z) : r1_Of3_s (x, y, z) = true ∧ (r1_Of3 (x, y, z)).length = 192 ∧ bv (r1_Of3 (x, y, z)) = x.toNat + 18446744073709551616 * (y.toNat + 18446744073709551616 * z.toNat) := by
  obtain ⟨k, rfl⟩ := Int.eq_ofNat_of_zero_le hx.1
  obtain ⟨n, rfl⟩ := Int.eq_ofNat_of_zero_le hy.1
  obtain ⟨u, rfl⟩ := Int.eq_ofNat_of_zero_le hz.1
  have hk : k < 18446744073709551616 := by have := hx.2; omega
  have hn : n < 18446744073709551616 := by have := hy.2; omega
  have hu : u < 18446744073709551616 := by have := hz.2; omega
  generalize hl : to3 ((k : Int), (n : Int), (u : Int)) = l
  have g0 : l.getD 0 0 = (k : Int) := by rw [← hl]; rfl
  have g1 : l.getD 1 0 = (n : Int) := by rw [← hl]; rfl
  have g2 : l.getD 2 0 = (u : Int) := by rw [← hl]; rfl
  have hlen : l.length = 3 := by rw [← hl]; rfl
  obtain ⟨out, h1, h2, h3⟩ := of_run3 l 0 k hk (by omega) (by omega) g0 0 3 l true 64 0 [] (by omega) (by simp)
  obtain ⟨out2, k1, k2, k3⟩ := of_run3 l 1 n hn (by omega) (by omega) g1 1 3 l true 64 0 out (by omega) (by simp at h2; omega)
  obtain ⟨out3, m1, m2, m3⟩ := of_run3 l 2 u hu (by omega) (by omega) g2 2 3 l true 64 0 out2 (by omega) (by simp at h2; omega)
  have hr : r1_Of3_L1_r (l, 0, 0, l, 3, true) (0, []) = some (64, out) := runB_of h1 (by omega)
  have hr2 : r1_Of3_L1_r (l, 1, 1, l, 3, true) (0, out) = some (64, out2) := runB_of k1 (by omega)
  have hr3 : r1_Of3_L1_r (l, 2, 2, l, 3, true) (0, out2) = some (64, out3) := runB_of m1 (by omega)
  have w1 : IntKind.i64.wrap (0 + 1) = 1 := rfl
  have w2 : IntKind.i64.wrap (1 + 1) = 2 := rfl
  have hl2 : ((l.length : Nat) : Int) = 3 := by rw [hlen]; rfl
  simp only [r1_Of3, r1_Of3_s, r1_Of3_t, r1_Of3_T, r1_Of3_L1_ok, r1_Of3_L1_v, hl, hl2, w1, w2, hr, hr2, hr3, Tr.val, Tr.safe, Option.isSome_some, Option.getD_some]
  simp at h2
  refine ⟨rfl, by omega, ?_⟩
  rw [m3, k3, h3, k2, h2]
  simp [bv]
  omega
end Go.Fb
