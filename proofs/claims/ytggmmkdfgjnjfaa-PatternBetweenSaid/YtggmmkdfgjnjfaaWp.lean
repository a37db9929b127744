/- Layer 1: plain laws of what the functions compute. Conditions: as each theorem states. -/
import Derived.Test.YtggmmkdfgjnjfaaWd
namespace Go.Fb
open Go.Ev
def bv : List Bool → Nat
  | [] => 0
  | b :: l => b.toNat + 2 * bv l
theorem bv_lt : ∀ l : List Bool, bv l < 2 ^ l.length
  | [] => by simp [bv]
  | b :: l => by
    have := bv_lt l
    have hb : b.toNat ≤ 1 := by cases b <;> decide
    simp only [bv, List.length_cons, Nat.pow_succ]
    omega
theorem bv_app : ∀ a b : List Bool, bv (a ++ b) = bv a + 2 ^ a.length * bv b
  | [], b => by simp [bv]
  | x :: a, b => by
    simp only [List.cons_append, bv, bv_app a b, List.length_cons, Nat.pow_succ]
    rw [Nat.mul_add, ← Nat.mul_assoc, Nat.mul_comm 2 (2 ^ a.length)]
    omega
theorem bv_snoc (a : List Bool) (b : Bool) : bv (a ++ [b]) = bv a + 2 ^ a.length * b.toNat := by
  rw [bv_app]; simp [bv]
theorem bv_rep (n : Nat) : bv (List.replicate n false) = 0 := by
  induction n with
  | zero => rfl
  | succ n ih => simp [List.replicate_succ, bv, ih]
theorem getD_bit : ∀ (l : List Bool) (i : Nat), (l.getD i false).toNat = bv l / 2 ^ i % 2
  | [], i => by simp [bv]
  | b :: l, 0 => by
    simp only [List.getD_cons_zero, bv, Nat.pow_zero, Nat.div_one]
    cases b <;> simp <;> omega
  | b :: l, i + 1 => by
    simp only [List.getD_cons_succ, bv]
    rw [getD_bit l i, Nat.pow_succ, Nat.mul_comm (2 ^ i) 2, ← Nat.div_div_eq_div_mul]
    have : (b.toNat + 2 * bv l) / 2 = bv l := by cases b <;> simp <;> omega
    rw [this]
theorem div_step (n i : Nat) : n / 2 ^ i = 2 * (n / 2 ^ (i + 1)) + n / 2 ^ i % 2 := by
  rw [Nat.pow_succ, ← Nat.div_div_eq_div_mul]
  omega
theorem getD_none {l : List Bool} {i : Nat} (h : l.length ≤ i) : l.getD i false = false := by simp [List.getD, h]
theorem bit_eq (a : List Bool) (k : Nat) : r1_bit a (k : Int) = a.getD k false ∧ r1_bit_s a (k : Int) = true := by
  simp only [r1_bit, r1_bit_s, r1_bit_t, r1_bit_T, Tr.val, Tr.safe]
  rw [decide_eq_true (show (k : Int) ≥ 0 by omega)]
  by_cases h : (k : Int) < (a.length : Int)
  · rw [decide_eq_true h]
    simp
  · rw [decide_eq_false h, getD_none (i := k) (by omega)]
    exact ⟨rfl, rfl⟩
theorem w64 {n : Int} (h0 : -9223372036854775808 ≤ n) (h1 : n ≤ 9223372036854775807) : IntKind.i64.wrap n = n := by
  simp only [IntKind.wrap, IntKind.bits, IntKind.signed]
  simp
  omega
theorem wnext {i : Nat} (h : i < 4611686018427387904) : IntKind.i64.wrap ((i : Int) + 1) = ((i + 1 : Nat) : Int) := by rw [w64 (by omega) (by omega)]; rfl
def cmpN (x y : Nat) : Int := if x < y then -1 else if x = y then 0 else 1
theorem cmp_run (a b : List Bool) (z : Int) : ∀ j : Nat, j ≤ 1000000 → bv a / 2 ^ j = bv b / 2 ^ j →
    runL (r1_Cmp_L0_step (a, b, z)) (j + 1) ((j : Int) - 1) = some (if bv a = bv b then .inl (-1) else .inr (cmpN (bv a) (bv b)))
  | 0, _, h => by
    simp only [Nat.pow_zero, Nat.div_one] at h
    rw [if_pos h, runL]
    rfl
  | j + 1, hj, h => by
    have e : ((j + 1 : Nat) : Int) - 1 = (j : Int) := by omega
    obtain ⟨a1, a2⟩ := bit_eq a j
    obtain ⟨b1, b2⟩ := bit_eq b j
    have sa := div_step (bv a) j
    have sb := div_step (bv b) j
    rw [← getD_bit] at sa sb
    rw [h] at sa
    have ih := cmp_run a b z j (by omega)
    rw [e, runL]
    simp only [r1_Cmp_L0_step, r1_Cmp_L0_T, Tr.val, Tr.safe, a1, a2, b1, b2]
    rw [decide_eq_true (show (j : Int) ≥ 0 by omega), w64 (n := (j : Int) - 1) (by omega) (by omega)]
    have lt_of : ∀ {x y : Nat}, x / 2 ^ j < y / 2 ^ j → x < y := fun {x y} h => by
      rcases Nat.lt_or_ge x y with h' | h'
      · exact h'
      · have := Nat.div_le_div_right (c := 2 ^ j) h'; omega
    cases hx : a.getD j false <;> cases hy : b.getD j false <;> rw [hx] at sa <;> rw [hy] at sb
    · exact ih (by omega)
    · have hlt : bv a < bv b := lt_of (by rw [sa, sb]; simp)
      rw [if_neg (by omega)]
      simp [cmpN, hlt]
    · have hlt : bv b < bv a := lt_of (by rw [sa, sb]; simp)
      rw [if_neg (by omega)]
      have h1 : ¬ bv a < bv b := by omega
      have h2 : ¬ bv a = bv b := by omega
      simp [cmpN, h1, h2]
    · exact ih (by omega)
theorem cmp_spec {a b : List Bool} (ha : a.length ≤ 900000) (hb : b.length ≤ 900000) : r1_Cmp a b = cmpN (bv a) (bv b) ∧ r1_Cmp_s a b = true := by
  have za : bv a / 2 ^ (max a.length b.length) = 0 := Nat.div_eq_of_lt (Nat.lt_of_lt_of_le (bv_lt a) (Nat.pow_le_pow_right (by decide) (by omega)))
  have zb : bv b / 2 ^ (max a.length b.length) = 0 := Nat.div_eq_of_lt (Nat.lt_of_lt_of_le (bv_lt b) (Nat.pow_le_pow_right (by decide) (by omega)))
  have h := cmp_run a b 0 (max a.length b.length) (by omega) (by rw [za, zb])
  have e : IntKind.i64.wrap (imax (a.length : Int) (b.length : Int) - 1) = ((max a.length b.length : Nat) : Int) - 1 := by
    have : imax (a.length : Int) (b.length : Int) = ((max a.length b.length : Nat) : Int) := by unfold imax; split <;> omega
    rw [this, w64 (by omega) (by omega)]
  have hr : r1_Cmp_L0_r (a, b, 0) (((max a.length b.length : Nat) : Int) - 1) = some (if bv a = bv b then .inl (-1) else .inr (cmpN (bv a) (bv b))) := runB_of h (by omega)
  simp only [r1_Cmp, r1_Cmp_s, r1_Cmp_t, r1_Cmp_T, r1_Cmp_L0_ok, r1_Cmp_L0_rt, r1_Cmp_L0_rv, e, hr, Tr.val, Tr.safe]
  by_cases hab : bv a = bv b
  · rw [if_pos hab]; simp [isR, cmpN, hab]
  · rw [if_neg hab]; simp [isR, outR_]
theorem shl_run (a : List Bool) (n : Nat) (hn : n ≤ 1000000) : ∀ (m i : Nat), i + m = n → runL (r1_Shl_L0_step (a, (n : Int))) (m + 1) ((i : Int), List.replicate i false) = some ((n : Int), List.replicate n false)
  | 0, i, h => by
    have : i = n := by omega
    subst this
    rw [runL]
    simp only [r1_Shl_L0_step, r1_Shl_L0_T, Tr.val, Tr.safe, decide_eq_false (show ¬ (i : Int) < (i : Int) by omega)]
    rfl
  | m + 1, i, h => by
    have ih := shl_run a n hn m (i + 1) (by omega)
    rw [runL]
    simp only [r1_Shl_L0_step, r1_Shl_L0_T, Tr.val, Tr.safe, decide_eq_true (show (i : Int) < (n : Int) by omega), wnext (show i < 4611686018427387904 by omega)]
    rw [decide_eq_true (by simp; omega)]
    rw [List.replicate_succ'] at ih
    exact ih
theorem shl_spec {a : List Bool} {n : Nat} (ha : a.length ≤ 1000000) (hn : n ≤ 1000000) : r1_Shl a (n : Int) = List.replicate n false ++ a ∧ r1_Shl_s a (n : Int) = true := by
  have hr : r1_Shl_L0_r (a, (n : Int)) (0, []) = some ((n : Int), List.replicate n false) := runB_of (shl_run a n hn n 0 (by omega)) (by omega)
  simp only [r1_Shl, r1_Shl_s, r1_Shl_t, r1_Shl_T, r1_Shl_L0_ok, r1_Shl_L0_v, hr, Tr.val, Tr.safe, Option.isSome_some, Option.getD_some]
  refine ⟨trivial, ?_⟩
  rw [decide_eq_true (by simp; omega)]
  rfl
theorem bv_shl {a : List Bool} {n : Nat} (ha : a.length ≤ 1000000) (hn : n ≤ 1000000) : bv (r1_Shl a (n : Int)) = 2 ^ n * bv a := by
  rw [(shl_spec ha hn).1, bv_app, bv_rep]; simp
def Wd (x : Int) : Prop := 0 ≤ x ∧ x < 18446744073709551616
theorem u64w (n : Int) : IntKind.u64.wrap n = n % 18446744073709551616 := by
  simp [IntKind.wrap, IntKind.bits, IntKind.signed]
theorem u64i {n : Int} (h0 : 0 ≤ n) (h1 : n < 18446744073709551616) : IntKind.u64.wrap n = n := by rw [u64w]; omega
theorem bits_and {x y : Nat} (hx : x < 18446744073709551616) (hy : y < 18446744073709551616) : bitsI .and .u64 (x : Int) (y : Int) = ((x &&& y : Nat) : Int) := by
  have h : (x &&& y) < 18446744073709551616 := Nat.and_lt_two_pow x (n := 64) hy
  have e : (BitVec.ofInt 64 (x : Int) &&& BitVec.ofInt 64 (y : Int)).toNat = x &&& y := by
    rw [BitVec.toNat_and]
    simp only [BitVec.ofInt_natCast, BitVec.toNat_ofNat]
    rw [Nat.mod_eq_of_lt (by omega), Nat.mod_eq_of_lt (by omega)]
  have e0 : bitsI .and .u64 (x : Int) (y : Int) = IntKind.u64.wrap ((BitVec.ofInt 64 (x : Int) &&& BitVec.ofInt 64 (y : Int)).toNat : Int) := rfl
  rw [e0, e, u64i (by omega) (by omega)]
theorem shr_nat (x k : Nat) (hk : k ≤ 64) : shrI .u64 (x : Int) (k : Int) = ((x / 2 ^ k : Nat) : Int) := by
  simp only [shrI, IntKind.bits, Int.toNat_natCast, Nat.min_eq_left hk]
  rw [Int.fdiv_eq_ediv_of_nonneg _ (Int.le_of_lt (Int.pow_pos (by decide)))]
  simp
theorem of_run1 (l : List Int) (j : Nat) (x : Nat) (hx : x < 18446744073709551616) (hj : j < l.length) (hl : l.length ≤ 1000) (hg : l.getD j 0 = (x : Int)) (z1 z2 : Int) (l2 : List Int) (b : Bool) : ∀ (m i : Nat) (out : List Bool), i + m = 64 → out.length ≤ 10000 + i →
    ∃ out', runL (r1_Of1_L1_step (l, (j : Int), z1, l2, z2, b)) (m + 1) ((i : Int), out) = some (64, out') ∧ out'.length = out.length + m ∧ bv out' = bv out + 2 ^ out.length * (x / 2 ^ i % 2 ^ m)
  | 0, i, out, h, _ => by
    have : i = 64 := by omega
    subst this
    refine ⟨out, ?_, by simp, by simp [Nat.mod_one]⟩
    rw [runL]
    simp only [r1_Of1_L1_step, r1_Of1_L1_T, Tr.val, Tr.safe]
    rfl
  | m + 1, i, out, h, ho => by
    have e0 : IntKind.u64.wrap (i : Int) = (i : Int) := u64i (by omega) (by omega)
    have e1 : (bitsI .and .u64 (shrI .u64 (x : Int) (i : Int)) 1 == 1) = decide (x / 2 ^ i % 2 = 1) := by
      rw [shr_nat x i (by omega)]
      have hlt : x / 2 ^ i < 18446744073709551616 := Nat.lt_of_le_of_lt (Nat.div_le_self _ _) hx
      have := bits_and (y := 1) hlt (by decide)
      rw [show ((1 : Nat) : Int) = 1 from rfl] at this
      rw [this, Nat.and_one_is_mod]
      by_cases hb : x / 2 ^ i % 2 = 1
      · rw [hb]; rfl
      · rw [decide_eq_false hb]
        have : x / 2 ^ i % 2 = 0 := by omega
        rw [this]; rfl
    obtain ⟨out', k1, k2, k3⟩ := of_run1 l j x hx hj hl hg z1 z2 l2 b m (i + 1) (out ++ [decide (x / 2 ^ i % 2 = 1)]) (by omega) (by simp; omega)
    refine ⟨out', ?_, by rw [k2]; simp; omega, ?_⟩
    · rw [runL]
      simp only [r1_Of1_L1_step, r1_Of1_L1_T, Tr.val, Tr.safe, Int.toNat_natCast, hg, e0, e1, wnext (show i < 4611686018427387904 by omega)]
      rw [decide_eq_true (show (i : Int) < 64 by omega), decide_eq_true (show (0 : Int) ≤ (j : Int) by omega), decide_eq_true (show (j : Int) < (l.length : Int) by omega), decide_eq_true (show (0 : Int) ≤ (i : Int) by omega), decide_eq_true (by simp; omega)]
      exact k1
    · rw [k3, bv_snoc]
      have hb : (decide (x / 2 ^ i % 2 = 1)).toNat = x / 2 ^ i % 2 := by
        by_cases hb : x / 2 ^ i % 2 = 1
        · rw [decide_eq_true hb, hb]; rfl
        · rw [decide_eq_false hb]
          have : x / 2 ^ i % 2 = 0 := by omega
          rw [this]; rfl
      rw [hb, List.length_append, List.length_singleton, Nat.pow_succ 2 out.length, Nat.add_assoc, Nat.mul_assoc, ← Nat.mul_add]
      congr 2
      rw [Nat.pow_succ 2 m, Nat.mul_comm (2 ^ m) 2, Nat.mod_mul, Nat.div_div_eq_div_mul, ← Nat.pow_succ]
theorem of1_spec {x : Int} (h : Wd x) : r1_Of1_s x = true ∧ (r1_Of1 x).length = 64 ∧ bv (r1_Of1 x) = x.toNat := by
  obtain ⟨k, rfl⟩ := Int.eq_ofNat_of_zero_le h.1
  have hk : k < 18446744073709551616 := by have := h.2; omega
  obtain ⟨out, h1, h2, h3⟩ := of_run1 (to1 (k : Int)) 0 k hk (by simp [to1]) (by simp [to1]) rfl 0 1 (to1 (k : Int)) true 64 0 [] (by omega) (by simp)
  have hr : r1_Of1_L1_r (to1 (k : Int), 0, 0, to1 (k : Int), ((to1 (k : Int)).length : Int), true) (0, []) = some (64, out) := runB_of h1 (by omega)
  simp only [r1_Of1, r1_Of1_s, r1_Of1_t, r1_Of1_T, r1_Of1_L1_ok, r1_Of1_L1_v, hr, Tr.val, Tr.safe, Option.isSome_some, Option.getD_some]
  refine ⟨rfl, by simpa using h2, ?_⟩
  rw [h3]
  simp [bv]
  omega
end Go.Fb
namespace Go.Fb
open Go.Ev
theorem and32 {z : Int} (h : Wd z) : bitsI .and .u64 z 4294967295 = z % 4294967296 := by
  obtain ⟨k, rfl⟩ := Int.eq_ofNat_of_zero_le h.1
  have hk : k < 18446744073709551616 := by have := h.2; omega
  have e := bits_and (x := k) (y := 4294967295) hk (by decide)
  have e2 : k &&& 4294967295 = k % 4294967296 := Nat.and_two_pow_sub_one_eq_mod k 32
  rw [show ((4294967295 : Nat) : Int) = 4294967295 from rfl] at e
  rw [e, e2]
  omega
def W2 (a : U2) : Prop := Wd a.hi ∧ Wd a.lo
def W3 (a : U3) : Prop := Wd a.hi ∧ Wd a.mid ∧ Wd a.lo
def n2 (a : U2) : Nat := a.lo.toNat + 18446744073709551616 * a.hi.toNat
def n3 (a : U3) : Nat := a.lo.toNat + 18446744073709551616 * (a.mid.toNat + 18446744073709551616 * a.hi.toNat)
end Go.Fb
namespace Go.Fb
open Go.Ev
theorem bits_or {x y : Nat} (hx : x < 18446744073709551616) (hy : y < 18446744073709551616) : bitsI .or .u64 (x : Int) (y : Int) = ((x ||| y : Nat) : Int) := by
  have h : (x ||| y) < 18446744073709551616 := Nat.or_lt_two_pow (n := 64) hx hy
  have e : (BitVec.ofInt 64 (x : Int) ||| BitVec.ofInt 64 (y : Int)).toNat = x ||| y := by
    rw [BitVec.toNat_or]
    simp only [BitVec.ofInt_natCast, BitVec.toNat_ofNat]
    rw [Nat.mod_eq_of_lt (by omega), Nat.mod_eq_of_lt (by omega)]
  have e0 : bitsI .or .u64 (x : Int) (y : Int) = IntKind.u64.wrap ((BitVec.ofInt 64 (x : Int) ||| BitVec.ofInt 64 (y : Int)).toNat : Int) := rfl
  rw [e0, e, u64i (by omega) (by omega)]
/-- the root of a number -/
def IsRt (n r : Nat) : Prop := r * r ≤ n ∧ n < (r + 1) * (r + 1)
theorem sq_lt {x y : Nat} (h : x * x < y * y) : x < y := by
  rcases Nat.lt_or_ge x y with h' | h'
  · exact h'
  · have := Nat.mul_le_mul h' h'; omega
theorem IsRt.unique {n r s : Nat} (h1 : IsRt n r) (h2 : IsRt n s) : r = s := by
  have a := sq_lt (Nat.lt_of_le_of_lt h1.1 h2.2)
  have b := sq_lt (Nat.lt_of_le_of_lt h2.1 h1.2)
  omega
end Go.Fb
namespace Go.Fb
open Go.Ev
end Go.Fb
namespace Go.Fb
open Go.Ev
theorem mod_step (n i : Nat) : n % 2 ^ (i + 1) = n % 2 ^ i + 2 ^ i * (n / 2 ^ i % 2) := by rw [Nat.pow_succ, Nat.mod_mul]
theorem sub_step {a b : List Bool} {n : Nat} {z w : Bool} {i : Nat} {out : List Bool} (hi : i < n) (hn : n ≤ 900000) (hl : out.length ≤ 1000000) :
    (r1_Sub_L0_step (a, b, (n : Int), z) (w, i, out)).safe = true ∧ (r1_Sub_L0_step (a, b, (n : Int), z) (w, i, out)).val = .inl ((!a.getD i false && (b.getD i false || w) || a.getD i false && b.getD i false && w), ((i + 1 : Nat) : Int), out ++ [(a.getD i false != b.getD i false) != w]) := by
  obtain ⟨a1, a2⟩ := bit_eq a i
  obtain ⟨b1, b2⟩ := bit_eq b i
  have hd : ∀ x : Bool, decide ((out.length + [x].length) * 1 ≤ 140737488355328) = true := fun x => decide_eq_true (by simp; omega)
  simp only [r1_Sub_L0_step, r1_Sub_L0_T, Tr.val, Tr.safe, a1, a2, b1, b2, hd, wnext (show i < 4611686018427387904 by omega)]
  rw [decide_eq_true (show (i : Int) < (n : Int) by omega)]
  cases a.getD i false <;> cases b.getD i false <;> cases w <;> exact ⟨rfl, rfl⟩
theorem sub_run {a b : List Bool} {n : Nat} (z : Bool) (hn : n ≤ 900000) : ∀ (m i : Nat) (w : Bool) (out : List Bool), i + m = n → out.length = i → bv a % 2 ^ i + 2 ^ i * w.toNat = bv b % 2 ^ i + bv out →
    ∃ w' out', runL (r1_Sub_L0_step (a, b, (n : Int), z)) (m + 1) (w, (i : Int), out) = some (w', (n : Int), out') ∧ out'.length = n ∧ bv a % 2 ^ n + 2 ^ n * w'.toNat = bv b % 2 ^ n + bv out'
  | 0, i, w, out, h, ho, hv => by
    have : i = n := by omega
    subst this
    refine ⟨w, out, ?_, ho, hv⟩
    rw [runL]
    simp only [r1_Sub_L0_step, r1_Sub_L0_T, Tr.val, Tr.safe, decide_eq_false (show ¬ (i : Int) < (i : Int) by omega)]
    rfl
  | m + 1, i, w, out, h, ho, hv => by
    obtain ⟨h1, h2⟩ := sub_step (a := a) (b := b) (z := z) (w := w) (out := out) (show i < n by omega) hn (by omega)
    have hs : ∀ x y w : Bool, x.toNat + 2 * (!x && (y || w) || x && y && w).toNat = y.toNat + w.toNat + ((x != y) != w).toNat := by decide
    have hs := hs (a.getD i false) (b.getD i false) w
    obtain ⟨w', out', k1, k2, k3⟩ := sub_run (a := a) (b := b) z hn m (i + 1) (!a.getD i false && (b.getD i false || w) || a.getD i false && b.getD i false && w) (out ++ [(a.getD i false != b.getD i false) != w]) (by omega) (by simp [ho]) (by
      rw [mod_step (bv a), mod_step (bv b), ← getD_bit, ← getD_bit, bv_snoc, ho, Nat.pow_succ 2 i, Nat.mul_assoc (2 ^ i) 2, Nat.add_assoc, ← Nat.mul_add, hs, Nat.mul_add, Nat.mul_add]
      omega)
    refine ⟨w', out', ?_, k2, k3⟩
    rw [runL, h1, h2]
    exact k1
theorem sub_spec (a b : List Bool) {n : Nat} (hn : n ≤ 900000) : r1_Sub_s a b (n : Int) = true ∧ (r1_Sub a b (n : Int)).1.length = n ∧ bv a % 2 ^ n + 2 ^ n * (r1_Sub a b (n : Int)).2.toNat = bv b % 2 ^ n + bv (r1_Sub a b (n : Int)).1 := by
  obtain ⟨w, out, h1, h2, h3⟩ := sub_run (a := a) (b := b) (n := n) false hn n 0 false [] (by omega) rfl (by simp [bv, Nat.mod_one])
  have hr : r1_Sub_L0_r (a, b, (n : Int), false) (false, 0, []) = some (w, (n : Int), out) := runB_of h1 (by omega)
  simp only [r1_Sub, r1_Sub_s, r1_Sub_t, r1_Sub_T, r1_Sub_L0_ok, r1_Sub_L0_v, hr, Tr.val, Tr.safe, Option.isSome_some, Option.getD_some]
  exact ⟨rfl, h2, h3⟩
/-- a lesser one taken away -/
theorem sub_le {a b : List Bool} {n : Nat} (hn : n ≤ 900000) (ha : bv a < 2 ^ n) (h : bv b ≤ bv a) : r1_Sub_s a b (n : Int) = true ∧ (r1_Sub a b (n : Int)).1.length = n ∧ bv (r1_Sub a b (n : Int)).1 = bv a - bv b ∧ (r1_Sub a b (n : Int)).2 = false := by
  obtain ⟨h1, h2, h3⟩ := sub_spec a b hn
  have hlt := bv_lt (r1_Sub a b (n : Int)).1
  rw [h2] at hlt
  rw [Nat.mod_eq_of_lt ha, Nat.mod_eq_of_lt (by omega)] at h3
  refine ⟨h1, h2, ?_, ?_⟩
  · cases hw : (r1_Sub a b (n : Int)).2 <;> rw [hw] at h3 <;> simp only [Bool.toNat_true, Bool.toNat_false] at h3 <;> omega
  · cases hw : (r1_Sub a b (n : Int)).2 <;> rw [hw] at h3 <;> simp only [Bool.toNat_true] at h3
    omega
theorem bv_set : ∀ (l : List Bool) (i : Nat) (b : Bool), i < l.length → bv (l.set i b) + 2 ^ i * (l.getD i false).toNat = bv l + 2 ^ i * b.toNat
  | [], i, b, h => by simp at h
  | x :: l, 0, b, h => by simp [bv]; omega
  | x :: l, i + 1, b, h => by
    have := bv_set l i b (by simpa using h)
    simp only [List.set_cons_succ, bv, List.getD_cons_succ]
    rw [Nat.pow_succ, Nat.mul_comm (2 ^ i) 2, Nat.mul_assoc, Nat.mul_assoc]
    omega
end Go.Fb
namespace Go.Fb
open Go.Ev
def LenIs (n l : Nat) : Prop := n < 2 ^ l ∧ (l = 0 ∨ 2 ^ (l - 1) ≤ n)
theorem LenIs.unique {n l m : Nat} (h1 : LenIs n l) (h2 : LenIs n m) : l = m := by
  have key : ∀ {a b : Nat}, LenIs n a → LenIs n b → a ≤ b := fun {a b} ha hb => by
    rcases ha.2 with h | h
    · omega
    · rcases Nat.lt_or_ge b a with h' | h'
      · have : 2 ^ b ≤ 2 ^ (a - 1) := Nat.pow_le_pow_right (by decide) (by omega)
        have := hb.1
        omega
      · exact h'
  exact Nat.le_antisymm (key h1 h2) (key h2 h1)
theorem LenIs.shift {n k l : Nat} (h0 : 0 < n / 2 ^ k) (h : LenIs (n / 2 ^ k) l) : LenIs n (k + l) := by
  have hp : 0 < 2 ^ k := Nat.pow_pos (by decide)
  refine ⟨?_, .inr ?_⟩
  · rw [Nat.pow_add, Nat.mul_comm]
    exact (Nat.div_lt_iff_lt_mul hp).1 h.1
  · rcases h.2 with h2 | h2
    · subst h2; have := h.1; rw [Nat.pow_zero] at this; omega
    · have hl : l ≠ 0 := by
        intro e; subst e; have := h.1; rw [Nat.pow_zero] at this; omega
      rw [show k + l - 1 = (l - 1) + k by omega, Nat.pow_add]
      exact (Nat.le_div_iff_mul_le hp).1 h2
def len8n (n : Nat) : Nat := (len8.data.getD n 0).toNat
theorem len8_tab : ∀ n : Fin 256, n.val < 2 ^ len8n n.val ∧ (len8n n.val = 0 ∨ 2 ^ (len8n n.val - 1) ≤ n.val) ∧ len8n n.val ≤ 8 := by decide +kernel
theorem len8_is {n : Nat} (h : n < 256) : LenIs n (len8n n) ∧ len8n n ≤ 8 := by
  have := len8_tab ⟨n, h⟩
  exact ⟨⟨this.1, this.2.1⟩, this.2.2⟩
theorem u8i {n : Nat} (h : n < 256) : IntKind.u8.wrap (n : Int) = (n : Int) := by
  simp [IntKind.wrap, IntKind.bits, IntKind.signed]; omega
theorem rlen_run (a : List Bool) (hn : a.length ≤ 1000000) (z : Int) : ∀ j : Nat, j ≤ a.length → bv a < 2 ^ j → ∃ l : Nat, runL (r1_Len_L0_step (a, z)) (j + 1) (j : Int) = some (l : Int) ∧ LenIs (bv a) l
  | 0, _, h => by
    refine ⟨0, ?_, h, .inl rfl⟩
    rw [runL]
    rfl
  | j + 1, hj, h => by
    have hp : 0 < 2 ^ j := Nat.pow_pos (by decide)
    have hbit := getD_bit a j
    have hd : bv a / 2 ^ j < 2 := (Nat.div_lt_iff_lt_mul hp).2 (by rw [Nat.pow_succ] at h; omega)
    have e1 : IntKind.i64.wrap (((j + 1 : Nat) : Int) - 1) = (j : Int) := by rw [w64 (by omega) (by omega)]; omega
    rw [runL]
    simp only [r1_Len_L0_step, r1_Len_L0_T, Tr.val, Tr.safe, e1, Int.toNat_natCast]
    rw [decide_eq_true (show ((j + 1 : Nat) : Int) > 0 by omega), decide_eq_true (show (0 : Int) ≤ (j : Int) by omega), decide_eq_true (show (j : Int) < (a.length : Int) by omega)]
    cases hb : a.getD j false <;> rw [hb] at hbit
    · simp only [Bool.toNat_false] at hbit
      exact rlen_run a hn z j (by omega) (by
        have : bv a / 2 ^ j = 0 := by
          generalize bv a / 2 ^ j = A at hbit hd
          omega
        rcases Nat.lt_or_ge (bv a) (2 ^ j) with h' | h'
        · exact h'
        · have := Nat.div_pos h' hp; omega)
    · simp only [Bool.toNat_true] at hbit
      refine ⟨j + 1, rfl, h, .inr ?_⟩
      have : 1 ≤ bv a / 2 ^ j := by
        generalize bv a / 2 ^ j = A at hbit hd
        omega
      have := (Nat.le_div_iff_mul_le hp).1 this
      simpa using this
theorem rlen_spec {a : List Bool} (hn : a.length ≤ 1000000) : r1_Len_s a = true ∧ ∃ l : Nat, r1_Len a = (l : Int) ∧ LenIs (bv a) l := by
  obtain ⟨l, h1, h2⟩ := rlen_run a hn 0 a.length (Nat.le_refl _) (bv_lt a)
  have hr : r1_Len_L0_r (a, 0) (a.length : Int) = some (l : Int) := runB_of h1 (by omega)
  simp only [r1_Len, r1_Len_s, r1_Len_t, r1_Len_T, r1_Len_L0_ok, r1_Len_L0_v, hr, Tr.val, Tr.safe, Option.isSome_some, Option.getD_some]
  exact ⟨rfl, l, rfl, h2⟩
theorem bv_take (l : List Bool) (n : Nat) (h : n ≤ l.length) : bv (l.take n) = bv l % 2 ^ n := by
  have e := bv_app (l.take n) (l.drop n)
  rw [List.take_append_drop, List.length_take, Nat.min_eq_left h] at e
  have hlt := bv_lt (l.take n)
  rw [List.length_take, Nat.min_eq_left h] at hlt
  rw [e, Nat.add_mul_mod_self_left, Nat.mod_eq_of_lt hlt]
end Go.Fb
namespace Go.Fb
open Go.Ev
theorem shl_nat (x k : Nat) (hk : k ≤ 64) : shlI .u64 (x : Int) (k : Int) = ((x * 2 ^ k % 18446744073709551616 : Nat) : Int) := by
  have e : shlI .u64 (x : Int) (k : Int) = IntKind.u64.wrap ((x : Int) * 2 ^ (min (k : Int).toNat 64)) := rfl
  rw [e, u64w, Int.toNat_natCast, Nat.min_eq_left hk]
  have : (x : Int) * 2 ^ k = ((x * 2 ^ k : Nat) : Int) := by simp
  rw [this]
  omega
theorem or_add {a b i : Nat} (hb : b < 2 ^ i) : 2 ^ i * a ||| b = 2 ^ i * a + b := (Nat.two_pow_add_eq_or_of_lt hb a).symm
end Go.Fb
namespace Go.Fb
open Go.Ev
section
variable (z : Bool × Int × Int)
end
end Go.Fb
namespace Go.Fb
open Go.Ev
end Go.Fb
namespace Go.Fb
open Go.Ev
end Go.Fb
namespace Go.Fb
open Go.Ev
end Go.Fb
namespace Go.Fb
open Go.Ev
end Go.Fb
namespace Go.Fb
open Go.Ev
end Go.Fb
namespace Go.Fb
open Go.Ev
end Go.Fb
namespace Go.Fb
open Go.Ev
theorem lenIs_le {n l m : Nat} (h : LenIs n l) (hn : n < 2 ^ m) : l ≤ m := by
  rcases h.2 with h' | h'
  · omega
  · rcases Nat.lt_or_ge m l with h2 | h2
    · have : 2 ^ m ≤ 2 ^ (l - 1) := Nat.pow_le_pow_right (by decide) (by omega)
      omega
    · exact h2
end Go.Fb
namespace Go.Fb
open Go.Ev
end Go.Fb
namespace Go.Fb
open Go.Ev
end Go.Fb
namespace Go.Fb
open Go.Ev
end Go.Fb
namespace Go.Fb
open Go.Ev
/-- without noughts ahead -/
theorem trim_spec {a : List Bool} (ha : a.length ≤ 1000000) : ∃ l : Nat, r1_Len_s a = true ∧ r1_Len a = (l : Int) ∧ l ≤ a.length ∧ bv (a.take l) = bv a ∧ (a.take l).length = l ∧ LenIs (bv a) l := by
  obtain ⟨h1, l, h2, h3⟩ := rlen_spec ha
  have hl : l ≤ a.length := lenIs_le h3 (bv_lt a)
  exact ⟨l, h1, h2, hl, by rw [bv_take _ _ hl, Nat.mod_eq_of_lt h3.1], by simp [hl], h3⟩
theorem dm_step {N n c B : Nat} (hB : 0 < B) (h : N = 2 * n + c) : (2 * (n % B) + c) % B = N % B ∧ N / B = 2 * (n / B) + (2 * (n % B) + c) / B := by
  have e : N = 2 * (n % B) + c + B * (2 * (n / B)) := by
    have := Nat.div_add_mod n B
    rw [Nat.mul_left_comm, h]
    omega
  rw [e, Nat.add_mul_mod_self_left, Nat.add_mul_div_left _ _ hB]
  exact ⟨rfl, by omega⟩
theorem take_eq (l : List Bool) (n : Nat) : List.take ((n : Int).toNat - Int.toNat 0) (List.drop (Int.toNat 0) l) = l.take n := by simp
theorem rdiv_run {a b : List Bool} (ha : a.length ≤ 800000) (hb : b.length ≤ 800000) (hB : 0 < bv b) : ∀ (j : Nat), j ≤ a.length → ∀ (r q : List Bool), r.length ≤ b.length → bv r = bv a / 2 ^ j % bv b → q.length = a.length → bv q = bv a / 2 ^ j / bv b * 2 ^ j →
    ∃ r' q' : List Bool, runL (r1_Div_L0_step (a, b)) (j + 1) (r, (j : Int) - 1, q) = some (r', -1, q') ∧ r'.length ≤ b.length ∧ bv r' = bv a % bv b ∧ q'.length = a.length ∧ bv q' = bv a / bv b ∧ (j = 0 ∨ LenIs (bv r') r'.length)
  | 0, _, r, q, hr, hrv, hq, hqv => by
    refine ⟨r, q, ?_, hr, by simpa using hrv, hq, by simpa using hqv, .inl rfl⟩
    rw [runL]; rfl
  | j + 1, hj, r, q, hr, hrv, hq, hqv => by
    have e : ((j + 1 : Nat) : Int) - 1 = (j : Int) := by omega
    rw [e, runL]
    simp only [r1_Div_L0_step, r1_Div_L0_T]
    have hj0 : decide ((j : Int) ≥ 0) = true := by simp
    have hj1 : decide (0 ≤ (j : Int)) = true := by simp
    have hj2 : decide ((j : Int) < (a.length : Int)) = true := by simp; omega
    have hj3 : decide ((j : Int) < (q.length : Int)) = true := by simp; omega
    have hsz : decide (([a.getD j false].length + r.length) * 1 ≤ 140737488355328) = true := by simp; omega
    have hw : IntKind.i64.wrap ((j : Int) - 1) = (j : Int) - 1 := w64 (by omega) (by omega)
    have htn : (j : Int).toNat = j := rfl
    simp only [htn, hj0, hj2, hj3, hsz, hw, Tr.safe, Tr.val, cond_true, Bool.true_and, Option.getD_some]
    generalize hx : [a.getD j false] ++ r = x
    have hxl : x.length = r.length + 1 := by rw [← hx]; simp
    have hxv : bv x = 2 * bv r + bv a / 2 ^ j % 2 := by rw [← hx]; simp only [List.cons_append, List.nil_append, bv, getD_bit]; omega
    -- what the bit makes of it
    have hstep := div_step (bv a) j
    obtain ⟨hmod, hdiv⟩ := dm_step hB hstep
    rw [← hrv, ← hxv] at hmod hdiv
    have hx2 : bv x < 2 * bv b := by
      have := Nat.mod_lt (bv a / 2 ^ (j + 1)) hB
      rw [← hrv] at this
      have := Nat.mod_lt (bv a / 2 ^ j) (show 0 < 2 by decide)
      omega
    obtain ⟨hc, hcs⟩ := cmp_spec (a := x) (b := b) (by omega) (by omega)
    simp only [hc, hcs]
    have hqj : q.getD j false = false := by
      have h1 := getD_bit q j
      rw [hqv, Nat.pow_succ, ← Nat.mul_assoc, Nat.mul_right_comm, Nat.mul_div_cancel _ (Nat.two_pow_pos j), Nat.mul_mod_left] at h1
      cases h : q.getD j false with
      | false => rfl
      | true => rw [h] at h1; cases h1
    by_cases hge : bv b ≤ bv x
    · have hcv : decide (cmpN (bv x) (bv b) ≥ 0) = true := by unfold cmpN; simp; split <;> (try split) <;> omega
      obtain ⟨s1, s2, s3, _⟩ := sub_le (a := x) (b := b) (n := x.length) (by omega) (bv_lt x) hge
      obtain ⟨l, t1, t2, t3, t4, t5, t6⟩ := trim_spec (a := (r1_Sub x b (x.length : Int)).1) (by omega)
      simp only [hcv, s1, t1, t2, cond_true, Bool.true_and, take_eq]
      have hd1 : decide (0 ≤ (l : Int)) = true := by simp
      have hd2 : decide ((l : Int) ≤ (((r1_Sub x b (x.length : Int)).1.length : Nat) : Int)) = true := by simp; omega
      simp only [hd1, hd2, Bool.true_and, cond_true]
      have hxdiv : bv x / bv b = 1 := by
        refine Nat.div_eq_of_lt_le (by omega) (by omega)
      have hxmod : bv x % bv b = bv x - bv b := by
        rw [Nat.mod_eq_sub_mod hge, Nat.mod_eq_of_lt (by omega)]
      obtain ⟨r', q', g1, g2, g3, g4, g5, g6⟩ := rdiv_run ha hb hB j (by omega) ((r1_Sub x b (x.length : Int)).1.take l) (q.set j true)
        (by rw [t5]; rw [s3] at t6; exact lenIs_le t6 (Nat.lt_trans (by omega : bv x - bv b < bv b) (bv_lt b))) (by rw [t4, s3, ← hxmod, hmod]) (by simp [hq]) (by
          have := bv_set q j true (by omega)
          rw [hqj] at this
          simp only [Bool.toNat_false, Nat.mul_zero, Nat.add_zero, Bool.toNat_true, Nat.mul_one] at this
          rw [this, hqv, hdiv, hxdiv, Nat.pow_succ, Nat.add_mul, Nat.one_mul, Nat.mul_comm (2 ^ j) 2, Nat.mul_left_comm, Nat.mul_assoc])
      refine ⟨r', q', g1, g2, g3, g4, g5, .inr ?_⟩
      rcases g6 with g6 | g6
      · subst g6
        rw [runL] at g1
        cases g1
        rw [t4, t5]; exact t6
      · exact g6
    · have hcv : decide (cmpN (bv x) (bv b) ≥ 0) = false := by unfold cmpN; simp; split <;> (try split) <;> omega
      obtain ⟨l, t1, t2, t3, t4, t5, t6⟩ := trim_spec (a := x) (by omega)
      simp only [hcv, t1, t2, cond_false, Bool.true_and, take_eq]
      have hd1 : decide (0 ≤ (l : Int)) = true := by simp
      have hd2 : decide ((l : Int) ≤ ((x.length : Nat) : Int)) = true := by simp; omega
      simp only [hd1, hd2, Bool.true_and, cond_true]
      have hxdiv : bv x / bv b = 0 := Nat.div_eq_of_lt (by omega)
      have hxmod : bv x % bv b = bv x := Nat.mod_eq_of_lt (by omega)
      obtain ⟨r', q', g1, g2, g3, g4, g5, g6⟩ := rdiv_run ha hb hB j (by omega) (x.take l) q
        (by rw [t5]; exact lenIs_le t6 (Nat.lt_trans (by omega : bv x < bv b) (bv_lt b))) (by rw [t4, ← hxmod, hmod]) hq (by
          rw [hqv, hdiv, hxdiv, Nat.pow_succ, Nat.add_zero, Nat.mul_comm (2 ^ j) 2, Nat.mul_left_comm, Nat.mul_assoc])
      refine ⟨r', q', g1, g2, g3, g4, g5, .inr ?_⟩
      rcases g6 with g6 | g6
      · subst g6
        rw [runL] at g1
        cases g1
        rw [t4, t5]; exact t6
      · exact g6
theorem lenIs_zero : LenIs 0 0 := ⟨by decide, .inl rfl⟩
theorem rdiv_spec {a b : List Bool} (ha : a.length ≤ 800000) (hb : b.length ≤ 800000) (hB : 0 < bv b) : r1_Div_s a b = true ∧ (r1_Div a b).1.length = a.length ∧ bv (r1_Div a b).1 = bv a / bv b ∧ (r1_Div a b).2.length ≤ b.length ∧ bv (r1_Div a b).2 = bv a % bv b ∧ LenIs (bv a % bv b) (r1_Div a b).2.length := by
  obtain ⟨r', q', g1, g2, g3, g4, g5, g6⟩ := rdiv_run ha hb hB a.length (Nat.le_refl _) [] (List.replicate a.length false) (Nat.zero_le _) (by rw [Nat.div_eq_of_lt (bv_lt a)]; simp [bv]) (by simp) (by rw [Nat.div_eq_of_lt (bv_lt a)]; simp [bv_rep])
  have hr : r1_Div_L0_r (a, b) ([], IntKind.i64.wrap ((a.length : Int) - 1), List.replicate ((a.length : Int)).toNat false) = some (r', -1, q') := by
    rw [w64 (by omega) (by omega)]
    exact runB_of g1 (by omega)
  have h1 : decide ((a.length : Int) ≤ (a.length : Int)) = true := by simp
  have h2 : decide ((1 : Int) * (a.length : Int) ≤ 281474976710656) = true := by simp; omega
  simp only [r1_Div, r1_Div_s, r1_Div_t, r1_Div_T, Tr.val, Tr.safe, r1_Div_L0_ok, r1_Div_L0_v, hr, h1, h2, Option.isSome_some, Option.getD_some, Bool.true_and]
  refine ⟨trivial, g4, g5, g2, g3, ?_⟩
  rcases g6 with g6 | g6
  · have ha0 : a = [] := List.length_eq_zero_iff.1 g6
    subst ha0
    have : r' = [] := by
      rw [runL] at g1
      cases g1; rfl
    subst this
    simp only [bv, Nat.zero_mod]
    exact lenIs_zero
  · rw [← g3]; exact g6
end Go.Fb
namespace Go.Fb
open Go.Ev
end Go.Fb
namespace Go.Fb
open Go.Ev
/-- a row of two words -/
def row2 (r : List Cv) : U2 := ⟨(r.headD (.i 0)).int, (r.tail.headD (.i 0)).int⟩
def ok2 (l : List (List Cv)) : Prop := ∀ r ∈ l, W2 (row2 r)
end Go.Fb
namespace Go.Fb
open Go.Ev
end Go.Fb
namespace Go.Fb
open Go.Ev
theorem isLen {n l : Nat} (h : LenIs n l) : decide ((l : Int) > 0) = decide (n ≠ 0) := by
  rcases Nat.eq_zero_or_pos l with h0 | h0
  · subst h0
    have := h.1
    have hn : n = 0 := by simpa using this
    subst hn; rfl
  · have := h.2.resolve_left (by omega)
    have hp : 0 < 2 ^ (l - 1) := Nat.two_pow_pos _
    rw [decide_eq_true (by omega), decide_eq_true (by omega)]
end Go.Fb
