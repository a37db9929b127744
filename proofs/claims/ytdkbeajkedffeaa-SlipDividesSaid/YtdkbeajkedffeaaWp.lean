/- Layer 1: plain laws of what the functions compute. Conditions: as each theorem states. -/
import Derived.Test.YtdkbeajkedffeaaWd
namespace Go.Fb
open Go.Ev
def bv : List Bool → Nat
  | [] => 0
  | b :: l => b.toNat + 2 * bv l
theorem bv_app : ∀ a b : List Bool, bv (a ++ b) = bv a + 2 ^ a.length * bv b
  | [], b => by simp [bv]
  | x :: a, b => by
    simp only [List.cons_append, bv, bv_app a b, List.length_cons, Nat.pow_succ]
    rw [Nat.mul_add, ← Nat.mul_assoc, Nat.mul_comm 2 (2 ^ a.length)]
    omega
theorem bv_snoc (a : List Bool) (b : Bool) : bv (a ++ [b]) = bv a + 2 ^ a.length * b.toNat := by
  rw [bv_app]; simp [bv]
theorem getD_none {l : List Bool} {i : Nat} (h : l.length ≤ i) : l.getD i false = false := by simp [List.getD, h]
theorem w64 {n : Int} (h0 : -9223372036854775808 ≤ n) (h1 : n ≤ 9223372036854775807) : IntKind.i64.wrap n = n := by
  simp only [IntKind.wrap, IntKind.bits, IntKind.signed]
  simp
  omega
theorem wnext {i : Nat} (h : i < 4611686018427387904) : IntKind.i64.wrap ((i : Int) + 1) = ((i + 1 : Nat) : Int) := by rw [w64 (by omega) (by omega)]; rfl
def cmpN (x y : Nat) : Int := if x < y then -1 else if x = y then 0 else 1
def Wd (x : Int) : Prop := 0 ≤ x ∧ x < 18446744073709551616
theorem u64w (n : Int) : IntKind.u64.wrap n = n % 18446744073709551616 := by
  simp [IntKind.wrap, IntKind.bits, IntKind.signed]
theorem u64i {n : Int} (h0 : 0 ≤ n) (h1 : n < 18446744073709551616) : IntKind.u64.wrap n = n := by rw [u64w]; omega
theorem bits_and {x y : Nat} (hx : x < 18446744073709551616) (hy : y < 18446744073709551616) : bitsI .and .u64 (x : Int) (y : Int) = ((x &&& y : Nat) : Int) := by
  have h : (x &&& y) < 18446744073709551616 := Nat.and_lt_two_pow x (n := 64) hy
  have e : (BitVec.ofInt 64 (x : Int) &&& BitVec.ofInt 64 (y : Int)).toNat = x &&& y := by
    rw [BitVec.toNat_and]
    simp only [BitVec.ofInt_natCast, BitVec.toNat_ofNat]
    rw [Nat.mod_eq_of_lt (by omega), Nat.mod_eq_of_lt (by omega)]
  have e0 : bitsI .and .u64 (x : Int) (y : Int) = IntKind.u64.wrap ((BitVec.ofInt 64 (x : Int) &&& BitVec.ofInt 64 (y : Int)).toNat : Int) := rfl
  rw [e0, e, u64i (by omega) (by omega)]
theorem shr_nat (x k : Nat) (hk : k ≤ 64) : shrI .u64 (x : Int) (k : Int) = ((x / 2 ^ k : Nat) : Int) := by
  simp only [shrI, IntKind.bits, Int.toNat_natCast, Nat.min_eq_left hk]
  rw [Int.fdiv_eq_ediv_of_nonneg _ (Int.le_of_lt (Int.pow_pos (by decide)))]
  simp
theorem of_run1 (l : List Int) (j : Nat) (x : Nat) (hx : x < 18446744073709551616) (hj : j < l.length) (hl : l.length ≤ 1000) (hg : l.getD j 0 = (x : Int)) (z1 z2 : Int) (l2 : List Int) (b : Bool) : ∀ (m i : Nat) (out : List Bool), i + m = 64 → out.length ≤ 10000 + i →
    ∃ out', runL (r1_Of1_L1_step (l, (j : Int), z1, l2, z2, b)) (m + 1) ((i : Int), out) = some (64, out') ∧ out'.length = out.length + m ∧ bv out' = bv out + 2 ^ out.length * (x / 2 ^ i % 2 ^ m)
  | 0, i, out, h, _ => by
    have : i = 64 := by omega
    subst this
    refine ⟨out, ?_, by simp, by simp [Nat.mod_one]⟩
    rw [runL]
    simp only [r1_Of1_L1_step, r1_Of1_L1_T, Tr.val, Tr.safe]
    rfl
  | m + 1, i, out, h, ho => by
    have e0 : IntKind.u64.wrap (i : Int) = (i : Int) := u64i (by omega) (by omega)
    have e1 : (bitsI .and .u64 (shrI .u64 (x : Int) (i : Int)) 1 == 1) = decide (x / 2 ^ i % 2 = 1) := by
      rw [shr_nat x i (by omega)]
      have hlt : x / 2 ^ i < 18446744073709551616 := Nat.lt_of_le_of_lt (Nat.div_le_self _ _) hx
      have := bits_and (y := 1) hlt (by decide)
      rw [show ((1 : Nat) : Int) = 1 from rfl] at this
      rw [this, Nat.and_one_is_mod]
      by_cases hb : x / 2 ^ i % 2 = 1
      · rw [hb]; rfl
      · rw [decide_eq_false hb]
        have : x / 2 ^ i % 2 = 0 := by omega
        rw [this]; rfl
    obtain ⟨out', k1, k2, k3⟩ := of_run1 l j x hx hj hl hg z1 z2 l2 b m (i + 1) (out ++ [decide (x / 2 ^ i % 2 = 1)]) (by omega) (by simp; omega)
    refine ⟨out', ?_, by rw [k2]; simp; omega, ?_⟩
    · rw [runL]
      simp only [r1_Of1_L1_step, r1_Of1_L1_T, Tr.val, Tr.safe, Int.toNat_natCast, hg, e0, e1, wnext (show i < 4611686018427387904 by omega)]
      rw [decide_eq_true (show (i : Int) < 64 by omega), decide_eq_true (show (0 : Int) ≤ (j : Int) by omega), decide_eq_true (show (j : Int) < (l.length : Int) by omega), decide_eq_true (show (0 : Int) ≤ (i : Int) by omega), decide_eq_true (by simp; omega)]
      exact k1
    · rw [k3, bv_snoc]
      have hb : (decide (x / 2 ^ i % 2 = 1)).toNat = x / 2 ^ i % 2 := by
        by_cases hb : x / 2 ^ i % 2 = 1
        · rw [decide_eq_true hb, hb]; rfl
        · rw [decide_eq_false hb]
          have : x / 2 ^ i % 2 = 0 := by omega
          rw [this]; rfl
      rw [hb, List.length_append, List.length_singleton, Nat.pow_succ 2 out.length, Nat.add_assoc, Nat.mul_assoc, ← Nat.mul_add]
      congr 2
      rw [Nat.pow_succ 2 m, Nat.mul_comm (2 ^ m) 2, Nat.mod_mul, Nat.div_div_eq_div_mul, ← Nat.pow_succ]
theorem of1_spec {x : Int} (h : Wd x) : r1_Of1_s x = true ∧ (r1_Of1 x).length = 64 ∧ bv (r1_Of1 x) = x.toNat := by
  obtain ⟨k, rfl⟩ := Int.eq_ofNat_of_zero_le h.1
  have hk : k < 18446744073709551616 := by have := h.2; omega
  obtain ⟨out, h1, h2, h3⟩ := of_run1 (to1 (k : Int)) 0 k hk (by simp [to1]) (by simp [to1]) rfl 0 1 (to1 (k : Int)) true 64 0 [] (by omega) (by simp)
  have hr : r1_Of1_L1_r (to1 (k : Int), 0, 0, to1 (k : Int), ((to1 (k : Int)).length : Int), true) (0, []) = some (64, out) := runB_of h1 (by omega)
  simp only [r1_Of1, r1_Of1_s, r1_Of1_t, r1_Of1_T, r1_Of1_L1_ok, r1_Of1_L1_v, hr, Tr.val, Tr.safe, Option.isSome_some, Option.getD_some]
  refine ⟨rfl, by simpa using h2, ?_⟩
  rw [h3]
  simp [bv]
  omega
end Go.Fb
namespace Go.Fb
open Go.Ev
theorem shr32 {z : Int} (_h : 0 ≤ z) : shrI .u64 z 32 = z / 4294967296 := by
  have e : shrI .u64 z 32 = z.fdiv 4294967296 := rfl
  rw [e, Int.fdiv_eq_ediv_of_nonneg _ (by decide)]
theorem and32 {z : Int} (h : Wd z) : bitsI .and .u64 z 4294967295 = z % 4294967296 := by
  obtain ⟨k, rfl⟩ := Int.eq_ofNat_of_zero_le h.1
  have hk : k < 18446744073709551616 := by have := h.2; omega
  have e := bits_and (x := k) (y := 4294967295) hk (by decide)
  have e2 : k &&& 4294967295 = k % 4294967296 := Nat.and_two_pow_sub_one_eq_mod k 32
  rw [show ((4294967295 : Nat) : Int) = 4294967295 from rfl] at e
  rw [e, e2]
  omega
theorem mul4 (a b c d : Int) : a * b * (c * d) = a * c * (b * d) := by rw [Int.mul_assoc, Int.mul_left_comm b c d, ← Int.mul_assoc]
theorem prod_bd {x y B : Int} (hx : 0 ≤ x ∧ x ≤ B) (hy : 0 ≤ y ∧ y ≤ B) : 0 ≤ x * y ∧ x * y ≤ B * B :=
  ⟨Int.mul_nonneg hx.1 hy.1, Int.mul_le_mul hx.2 hy.2 hy.1 (by omega)⟩
theorem mul64 {x y : Int} (hx : Wd x) (hy : Wd y) : bits_Mul64 x y = (x * y / 18446744073709551616, x * y % 18446744073709551616) := by
  have e0 : bits_Mul64 x y = (bits_Mul64_t x y).val := rfl
  rw [e0]
  simp only [bits_Mul64_t, bits_Mul64_T, Tr.val]
  rw [shr32 hx.1, shr32 hy.1, and32 hx, and32 hy]
  unfold Wd at hx hy
  have dx : x = 4294967296 * (x / 4294967296) + x % 4294967296 := by omega
  have dy : y = 4294967296 * (y / 4294967296) + y % 4294967296 := by omega
  have bx1 : 0 ≤ x / 4294967296 ∧ x / 4294967296 ≤ 4294967295 := by omega
  have bx0 : 0 ≤ x % 4294967296 ∧ x % 4294967296 ≤ 4294967295 := by omega
  have by1 : 0 ≤ y / 4294967296 ∧ y / 4294967296 ≤ 4294967295 := by omega
  have by0 : 0 ≤ y % 4294967296 ∧ y % 4294967296 ≤ 4294967295 := by omega
  have exy : x * y = 18446744073709551616 * (x / 4294967296 * (y / 4294967296)) + 4294967296 * (x / 4294967296 * (y % 4294967296)) + 4294967296 * (x % 4294967296 * (y / 4294967296)) + x % 4294967296 * (y % 4294967296) := by
    generalize x / 4294967296 = x1 at *
    generalize x % 4294967296 = x0 at *
    generalize y / 4294967296 = y1 at *
    generalize y % 4294967296 = y0 at *
    subst dx dy
    rw [Int.add_mul, Int.mul_add, Int.mul_add, mul4, Int.mul_assoc 4294967296 x1 y0, Int.mul_left_comm x0 4294967296 y1]
    omega
  have p11 := prod_bd bx1 by1
  have p10 := prod_bd bx1 by0
  have p01 := prod_bd bx0 by1
  have p00 := prod_bd bx0 by0
  rw [exy]
  generalize x / 4294967296 * (y / 4294967296) = a at *
  generalize x / 4294967296 * (y % 4294967296) = b at *
  generalize x % 4294967296 * (y / 4294967296) = c at *
  generalize x % 4294967296 * (y % 4294967296) = d at *
  rw [u64i (n := a) (by omega) (by omega), u64i (n := b) (by omega) (by omega), u64i (n := c) (by omega) (by omega), u64i (n := d) (by omega) (by omega), shr32 (z := d) (by omega),
    u64i (n := b + d / 4294967296) (by omega) (by omega), shr32 (z := b + d / 4294967296) (by omega), and32 (z := b + d / 4294967296) (by unfold Wd; omega),
    u64i (n := (b + d / 4294967296) % 4294967296 + c) (by omega) (by omega), shr32 (z := (b + d / 4294967296) % 4294967296 + c) (by omega),
    u64i (n := a + (b + d / 4294967296) / 4294967296) (by omega) (by omega), u64i (n := a + (b + d / 4294967296) / 4294967296 + ((b + d / 4294967296) % 4294967296 + c) / 4294967296) (by omega) (by omega), u64w]
  refine Prod.ext ?_ rfl
  simp only
  omega
def W2 (a : U2) : Prop := Wd a.hi ∧ Wd a.lo
def W3 (a : U3) : Prop := Wd a.hi ∧ Wd a.mid ∧ Wd a.lo
def n2 (a : U2) : Nat := a.lo.toNat + 18446744073709551616 * a.hi.toNat
def n3 (a : U3) : Nat := a.lo.toNat + 18446744073709551616 * (a.mid.toNat + 18446744073709551616 * a.hi.toNat)
theorem wmul {x y : Int} (hx : Wd x) (hy : Wd y) : wide_Mul x y = ⟨x * y / 18446744073709551616, x * y % 18446744073709551616⟩ := by
  have e : wide_Mul x y = ⟨(bits_Mul64 x y).1, (bits_Mul64 x y).2⟩ := rfl
  rw [e, mul64 hx hy]
theorem wmul_spec {x y : Int} (hx : Wd x) (hy : Wd y) : W2 (wide_Mul x y) ∧ n2 (wide_Mul x y) = x.toNat * y.toNat := by
  rw [wmul hx hy]
  obtain ⟨k, rfl⟩ := Int.eq_ofNat_of_zero_le hx.1
  obtain ⟨n, rfl⟩ := Int.eq_ofNat_of_zero_le hy.1
  unfold Wd at hx hy
  have hb := prod_bd (x := (k : Int)) (y := (n : Int)) (B := 18446744073709551615) (by omega) (by omega)
  have e : (k : Int) * (n : Int) = ((k * n : Nat) : Int) := by simp
  unfold W2 Wd n2
  rw [e] at hb ⊢
  simp only [Int.toNat_natCast]
  generalize k * n = p at *
  refine ⟨⟨?_, ?_⟩, ?_⟩ <;> (try simp only) <;> omega
end Go.Fb
namespace Go.Fb
open Go.Ev
theorem sub64 {x y c : Int} (hx : Wd x) (hy : Wd y) (hc : c = 0 ∨ c = 1) : bits_Sub64 x y c = ((x - y - c) % 18446744073709551616, if x < y + c then 1 else 0) ∧ bits_Sub64_s x y c = true := by
  unfold Wd at hx hy
  refine ⟨?_, ?_⟩
  · unfold bits_Sub64
    refine Prod.ext ?_ ?_
    · simp only; omega
    · simp only
      split <;> split <;> omega
  · unfold bits_Sub64_s
    rcases hc with rfl | rfl <;> rfl
theorem addc {x y c : Int} (hx : Wd x) (hy : Wd y) (hc : c = 0 ∨ c = 1) : bits_Add64 x y c = ((x + y + c) % 18446744073709551616, (x + y + c) / 18446744073709551616) ∧ bits_Add64_s x y c = true := by
  unfold Wd at hx hy
  refine ⟨?_, ?_⟩
  · unfold bits_Add64
    refine Prod.ext ?_ ?_ <;> simp only <;> omega
  · unfold bits_Add64_s
    rcases hc with rfl | rfl <;> rfl
theorem uadd_spec {a b : U2} (ha : W2 a) (hb : W2 b) : u2_Add_s a b = true ∧ W2 (u2_Add a b).1 ∧ n2 (u2_Add a b).1 = (n2 a + n2 b) % 340282366920938463463374607431768211456 ∧ (u2_Add a b).2 = (((n2 a + n2 b) / 340282366920938463463374607431768211456 : Nat) : Int) := by
  obtain ⟨e1, s1⟩ := addc (c := 0) ha.2 hb.2 (.inl rfl)
  have hc : (a.lo + b.lo + 0) / 18446744073709551616 = 0 ∨ (a.lo + b.lo + 0) / 18446744073709551616 = 1 := by
    have := ha.2; have := hb.2; unfold Wd at *; omega
  obtain ⟨e2, s2⟩ := addc ha.1 hb.1 hc
  simp only [u2_Add, u2_Add_s, u2_Add_t, u2_Add_T, Tr.val, Tr.safe, e1, s1, e2, s2]
  obtain ⟨h1, h2⟩ := ha
  obtain ⟨h3, h4⟩ := hb
  unfold W2 Wd n2 at *
  simp only
  refine ⟨rfl, ⟨?_, ?_⟩, ?_, ?_⟩ <;> omega
theorem usub_spec {a b : U2} (ha : W2 a) (hb : W2 b) : u2_Sub_s a b = true ∧ W2 (u2_Sub a b).1 ∧ n2 (u2_Sub a b).1 = (n2 a + 340282366920938463463374607431768211456 - n2 b) % 340282366920938463463374607431768211456 ∧ (u2_Sub a b).2 = if n2 a < n2 b then 1 else 0 := by
  obtain ⟨e1, s1⟩ := sub64 (c := 0) ha.2 hb.2 (.inl rfl)
  have hc : (if a.lo < b.lo + 0 then (1 : Int) else 0) = 0 ∨ (if a.lo < b.lo + 0 then (1 : Int) else 0) = 1 := by split <;> simp
  obtain ⟨e2, s2⟩ := sub64 ha.1 hb.1 hc
  simp only [u2_Sub, u2_Sub_s, u2_Sub_t, u2_Sub_T, Tr.val, Tr.safe, e1, s1, e2, s2]
  obtain ⟨h1, h2⟩ := ha
  obtain ⟨h3, h4⟩ := hb
  unfold W2 Wd n2 at *
  simp only
  refine ⟨rfl, ⟨?_, ?_⟩, ?_, ?_⟩
  · omega
  · omega
  · split <;> omega
  · split <;> split <;> split <;> omega
theorem bits_or {x y : Nat} (hx : x < 18446744073709551616) (hy : y < 18446744073709551616) : bitsI .or .u64 (x : Int) (y : Int) = ((x ||| y : Nat) : Int) := by
  have h : (x ||| y) < 18446744073709551616 := Nat.or_lt_two_pow (n := 64) hx hy
  have e : (BitVec.ofInt 64 (x : Int) ||| BitVec.ofInt 64 (y : Int)).toNat = x ||| y := by
    rw [BitVec.toNat_or]
    simp only [BitVec.ofInt_natCast, BitVec.toNat_ofNat]
    rw [Nat.mod_eq_of_lt (by omega), Nat.mod_eq_of_lt (by omega)]
  have e0 : bitsI .or .u64 (x : Int) (y : Int) = IntKind.u64.wrap ((BitVec.ofInt 64 (x : Int) ||| BitVec.ofInt 64 (y : Int)).toNat : Int) := rfl
  rw [e0, e, u64i (by omega) (by omega)]
def IsRt (n r : Nat) : Prop := r * r ≤ n ∧ n < (r + 1) * (r + 1)
theorem sq_lt {x y : Nat} (h : x * x < y * y) : x < y := by
  rcases Nat.lt_or_ge x y with h' | h'
  · exact h'
  · have := Nat.mul_le_mul h' h'; omega
theorem IsRt.unique {n r s : Nat} (h1 : IsRt n r) (h2 : IsRt n s) : r = s := by
  have a := sq_lt (Nat.lt_of_le_of_lt h1.1 h2.2)
  have b := sq_lt (Nat.lt_of_le_of_lt h2.1 h1.2)
  omega
end Go.Fb
namespace Go.Fb
open Go.Ev
end Go.Fb
namespace Go.Fb
open Go.Ev
end Go.Fb
namespace Go.Fb
open Go.Ev
def LenIs (n l : Nat) : Prop := n < 2 ^ l ∧ (l = 0 ∨ 2 ^ (l - 1) ≤ n)
theorem LenIs.unique {n l m : Nat} (h1 : LenIs n l) (h2 : LenIs n m) : l = m := by
  have key : ∀ {a b : Nat}, LenIs n a → LenIs n b → a ≤ b := fun {a b} ha hb => by
    rcases ha.2 with h | h
    · omega
    · rcases Nat.lt_or_ge b a with h' | h'
      · have : 2 ^ b ≤ 2 ^ (a - 1) := Nat.pow_le_pow_right (by decide) (by omega)
        have := hb.1
        omega
      · exact h'
  exact Nat.le_antisymm (key h1 h2) (key h2 h1)
theorem LenIs.shift {n k l : Nat} (h0 : 0 < n / 2 ^ k) (h : LenIs (n / 2 ^ k) l) : LenIs n (k + l) := by
  have hp : 0 < 2 ^ k := Nat.pow_pos (by decide)
  refine ⟨?_, .inr ?_⟩
  · rw [Nat.pow_add, Nat.mul_comm]
    exact (Nat.div_lt_iff_lt_mul hp).1 h.1
  · rcases h.2 with h2 | h2
    · subst h2; have := h.1; rw [Nat.pow_zero] at this; omega
    · have hl : l ≠ 0 := by
        intro e; subst e; have := h.1; rw [Nat.pow_zero] at this; omega
      rw [show k + l - 1 = (l - 1) + k by omega, Nat.pow_add]
      exact (Nat.le_div_iff_mul_le hp).1 h2
def len8n (n : Nat) : Nat := (len8.data.getD n 0).toNat
theorem len8_tab : ∀ n : Fin 256, n.val < 2 ^ len8n n.val ∧ (len8n n.val = 0 ∨ 2 ^ (len8n n.val - 1) ≤ n.val) ∧ len8n n.val ≤ 8 := by decide +kernel
theorem len8_is {n : Nat} (h : n < 256) : LenIs n (len8n n) ∧ len8n n ≤ 8 := by
  have := len8_tab ⟨n, h⟩
  exact ⟨⟨this.1, this.2.1⟩, this.2.2⟩
theorem u8i {n : Nat} (h : n < 256) : IntKind.u8.wrap (n : Int) = (n : Int) := by
  simp [IntKind.wrap, IntKind.bits, IntKind.signed]; omega
theorem len64_spec {k : Nat} (hk : k < 18446744073709551616) : ∃ l : Nat, bits_Len64 (k : Int) = (l : Int) ∧ LenIs k l ∧ l ≤ 64 := by
  have st : ∀ m : Nat, strAt len8 (m : Int) = (len8n m : Int) := fun m => rfl
  have s8 : ∀ m : Nat, shrI .u64 (m : Int) 8 = ((m / 256 : Nat) : Int) := fun m => shr_nat m 8 (by decide)
  have s16 : ∀ m : Nat, shrI .u64 (m : Int) 16 = ((m / 65536 : Nat) : Int) := fun m => shr_nat m 16 (by decide)
  have s32 : ∀ m : Nat, shrI .u64 (m : Int) 32 = ((m / 4294967296 : Nat) : Int) := fun m => shr_nat m 32 (by decide)
  have e : bits_Len64 (k : Int) = (bits_Len64_t (k : Int)).val := rfl
  rw [e]
  simp only [bits_Len64_t, bits_Len64_T, Tr.val, s32, s16, s8]
  have fin : ∀ (c : Nat) (m : Nat), m < 256 → c ≤ 56 → IntKind.i64.wrap ((c : Int) + IntKind.i64.wrap (strAt len8 (m : Int))) = ((c + len8n m : Nat) : Int) := fun c m hm hc => by
    have := (len8_is hm).2
    rw [st, w64 (n := (len8n m : Int)) (by omega) (by omega), w64 (by omega) (by omega)]
    omega
  have res : ∀ (c : Nat), k / 2 ^ c < 256 → (c = 0 ∨ 0 < k / 2 ^ c) → c ≤ 56 → LenIs k (c + len8n (k / 2 ^ c)) ∧ c + len8n (k / 2 ^ c) ≤ 64 := fun c hm h0 hc => by
    obtain ⟨h1, h2⟩ := len8_is hm
    refine ⟨?_, by omega⟩
    rcases h0 with rfl | h0
    · simpa using h1
    · exact LenIs.shift h0 h1
  by_cases c1 : (k : Int) ≥ 4294967296
  · rw [decide_eq_true c1]
    simp only [cond_true]
    by_cases c2 : ((k / 4294967296 : Nat) : Int) ≥ 65536
    · rw [decide_eq_true c2]
      simp only [cond_true]
      by_cases c3 : ((k / 4294967296 / 65536 : Nat) : Int) ≥ 256
      · rw [decide_eq_true c3]
        have hm : k / 4294967296 / 65536 / 256 < 256 := by omega
        have := res 56 (by omega) (.inr (by omega)) (by omega)
        refine ⟨56 + len8n (k / 2 ^ 56), ?_, this⟩
        simp only [cond_true]
        rw [u8i hm, show IntKind.i64.wrap (IntKind.i64.wrap (32 + 16) + 8) = ((56 : Nat) : Int) from rfl, fin 56 _ hm (by omega), show k / 4294967296 / 65536 / 256 = k / 2 ^ 56 by omega]
      · rw [decide_eq_false c3]
        have hm : k / 4294967296 / 65536 < 256 := by omega
        have := res 48 (by omega) (.inr (by omega)) (by omega)
        refine ⟨48 + len8n (k / 2 ^ 48), ?_, this⟩
        simp only [cond_false]
        rw [u8i hm, show IntKind.i64.wrap (32 + 16) = ((48 : Nat) : Int) from rfl, fin 48 _ hm (by omega), show k / 4294967296 / 65536 = k / 2 ^ 48 by omega]
    · rw [decide_eq_false c2]
      simp only [cond_false]
      by_cases c3 : ((k / 4294967296 : Nat) : Int) ≥ 256
      · rw [decide_eq_true c3]
        have hm : k / 4294967296 / 256 < 256 := by omega
        have := res 40 (by omega) (.inr (by omega)) (by omega)
        refine ⟨40 + len8n (k / 2 ^ 40), ?_, this⟩
        simp only [cond_true]
        rw [u8i hm, show IntKind.i64.wrap (32 + 8) = ((40 : Nat) : Int) from rfl, fin 40 _ hm (by omega), show k / 4294967296 / 256 = k / 2 ^ 40 by omega]
      · rw [decide_eq_false c3]
        have hm : k / 4294967296 < 256 := by omega
        have := res 32 (by omega) (.inr (by omega)) (by omega)
        refine ⟨32 + len8n (k / 2 ^ 32), ?_, this⟩
        simp only [cond_false]
        rw [u8i hm, show (32 : Int) = ((32 : Nat) : Int) from rfl, fin 32 _ hm (by omega)]
  · rw [decide_eq_false c1]
    simp only [cond_false]
    by_cases c2 : (k : Int) ≥ 65536
    · rw [decide_eq_true c2]
      simp only [cond_true]
      by_cases c3 : ((k / 65536 : Nat) : Int) ≥ 256
      · rw [decide_eq_true c3]
        have hm : k / 65536 / 256 < 256 := by omega
        have := res 24 (by omega) (.inr (by omega)) (by omega)
        refine ⟨24 + len8n (k / 2 ^ 24), ?_, this⟩
        simp only [cond_true]
        rw [u8i hm, show IntKind.i64.wrap (IntKind.i64.wrap (0 + 16) + 8) = ((24 : Nat) : Int) from rfl, fin 24 _ hm (by omega), show k / 65536 / 256 = k / 2 ^ 24 by omega]
      · rw [decide_eq_false c3]
        have hm : k / 65536 < 256 := by omega
        have := res 16 (by omega) (.inr (by omega)) (by omega)
        refine ⟨16 + len8n (k / 2 ^ 16), ?_, this⟩
        simp only [cond_false]
        rw [u8i hm, show IntKind.i64.wrap (0 + 16) = ((16 : Nat) : Int) from rfl, fin 16 _ hm (by omega)]
    · rw [decide_eq_false c2]
      simp only [cond_false]
      by_cases c3 : (k : Int) ≥ 256
      · rw [decide_eq_true c3]
        have hm : k / 256 < 256 := by omega
        have := res 8 (by omega) (.inr (by omega)) (by omega)
        refine ⟨8 + len8n (k / 2 ^ 8), ?_, this⟩
        simp only [cond_true]
        rw [u8i hm, show IntKind.i64.wrap (0 + 8) = ((8 : Nat) : Int) from rfl, fin 8 _ hm (by omega)]
      · rw [decide_eq_false c3]
        have hm : k < 256 := by omega
        have := res 0 (by omega) (.inl rfl) (by omega)
        refine ⟨0 + len8n (k / 2 ^ 0), ?_, this⟩
        simp only [cond_false]
        rw [u8i hm, show (0 : Int) = ((0 : Nat) : Int) from rfl, fin 0 _ hm (by omega)]
        simp
theorem ulen_spec {a : U2} (ha : W2 a) : ∃ l : Nat, u2_Len a = (l : Int) ∧ LenIs (n2 a) l := by
  obtain ⟨ahi, alo⟩ := a
  obtain ⟨h1, h2⟩ := ha
  simp only at h1 h2
  obtain ⟨hi, rfl⟩ := Int.eq_ofNat_of_zero_le h1.1
  obtain ⟨lo, rfl⟩ := Int.eq_ofNat_of_zero_le h2.1
  have b1 := h1.2
  have b2 := h2.2
  simp only [u2_Len, u2_Len_t, u2_Len_T, Tr.val, n2, Int.toNat_natCast]
  by_cases h : (hi : Int) > 0
  · rw [decide_eq_true h]
    obtain ⟨l, e, hl, hb⟩ := len64_spec (k := hi) (by omega)
    have hd : (lo + 18446744073709551616 * hi) / 2 ^ 64 = hi := by omega
    refine ⟨64 + l, ?_, LenIs.shift (by rw [hd]; omega) (by rw [hd]; exact hl)⟩
    simp only [cond_true]
    rw [e, w64 (by omega) (by omega)]
    omega
  · rw [decide_eq_false h]
    have : hi = 0 := by omega
    subst this
    obtain ⟨l, e, hl, _⟩ := len64_spec (k := lo) (by omega)
    exact ⟨l, e, by simpa using hl⟩
end Go.Fb
namespace Go.Fb
open Go.Ev
theorem shl_nat (x k : Nat) (hk : k ≤ 64) : shlI .u64 (x : Int) (k : Int) = ((x * 2 ^ k % 18446744073709551616 : Nat) : Int) := by
  have e : shlI .u64 (x : Int) (k : Int) = IntKind.u64.wrap ((x : Int) * 2 ^ (min (k : Int).toNat 64)) := rfl
  rw [e, u64w, Int.toNat_natCast, Nat.min_eq_left hk]
  have : (x : Int) * 2 ^ k = ((x * 2 ^ k : Nat) : Int) := by simp
  rw [this]
  omega
theorem or_add {a b i : Nat} (hb : b < 2 ^ i) : 2 ^ i * a ||| b = 2 ^ i * a + b := (Nat.two_pow_add_eq_or_of_lt hb a).symm
theorem pow_split {n : Nat} (hn : n ≤ 64) : 2 ^ n * 2 ^ (64 - n) = 18446744073709551616 := by
  rw [← Nat.pow_add, Nat.add_sub_cancel' hn]
theorem mul_mod_pow (x : Nat) {n : Nat} (hn : n ≤ 64) : x * 2 ^ n % 18446744073709551616 = 2 ^ n * (x % 2 ^ (64 - n)) := by
  rw [← pow_split hn, Nat.mul_comm x, Nat.mul_mod_mul_left]
theorem shl_core {hi lo n : Nat} (_hh : hi < 18446744073709551616) (hl : lo < 18446744073709551616) (h0 : 0 < n) (hn : n < 64) :
    (hi * 2 ^ n % 18446744073709551616 ||| lo / 2 ^ (64 - n)) < 18446744073709551616 ∧
    lo * 2 ^ n % 18446744073709551616 + 18446744073709551616 * (hi * 2 ^ n % 18446744073709551616 ||| lo / 2 ^ (64 - n)) = (lo + 18446744073709551616 * hi) * 2 ^ n % 340282366920938463463374607431768211456 := by
  have hs := pow_split (n := n) (by omega)
  have hK : 0 < 2 ^ (64 - n) := Nat.pow_pos (by decide)
  have hN : 0 < 2 ^ n := Nat.pow_pos (by decide)
  have hl1 : lo / 2 ^ (64 - n) < 2 ^ n := (Nat.div_lt_iff_lt_mul hK).2 (by rw [hs]; exact hl)
  have dl := Nat.div_add_mod lo (2 ^ (64 - n))
  have dh := Nat.div_add_mod hi (2 ^ (64 - n))
  have ml := Nat.mod_lt lo hK
  have mh := Nat.mod_lt hi hK
  rw [mul_mod_pow hi (by omega), mul_mod_pow lo (by omega), or_add hl1]
  have e1 : lo * 2 ^ n = 18446744073709551616 * (lo / 2 ^ (64 - n)) + 2 ^ n * (lo % 2 ^ (64 - n)) := by
    conv => lhs; rw [← dl]
    rw [Nat.add_mul, Nat.mul_right_comm, Nat.mul_comm (2 ^ (64 - n)) (2 ^ n), hs, Nat.mul_comm (lo % 2 ^ (64 - n))]
  have e2 : hi * 2 ^ n = 18446744073709551616 * (hi / 2 ^ (64 - n)) + 2 ^ n * (hi % 2 ^ (64 - n)) := by
    conv => lhs; rw [← dh]
    rw [Nat.add_mul, Nat.mul_right_comm, Nat.mul_comm (2 ^ (64 - n)) (2 ^ n), hs, Nat.mul_comm (hi % 2 ^ (64 - n))]
  have b1 : 2 ^ n * (lo % 2 ^ (64 - n)) < 18446744073709551616 := by rw [← hs]; exact Nat.mul_lt_mul_of_pos_left ml hN
  have b2 : 2 ^ n * (hi % 2 ^ (64 - n)) + 2 ^ n ≤ 18446744073709551616 := by
    rw [← hs, ← Nat.mul_succ]; exact Nat.mul_le_mul_left _ mh
  rw [Nat.add_mul, Nat.mul_assoc, e1, e2]
  generalize 2 ^ n * (lo % 2 ^ (64 - n)) = A at *
  generalize 2 ^ n * (hi % 2 ^ (64 - n)) = D at *
  generalize lo / 2 ^ (64 - n) = l1 at *
  generalize hi / 2 ^ (64 - n) = h1 at *
  generalize 2 ^ n = N at *
  constructor <;> omega
theorem shr_core {hi lo n : Nat} (_hh : hi < 18446744073709551616) (hl : lo < 18446744073709551616) (h0 : 0 < n) (hn : n < 64) :
    (lo / 2 ^ n ||| hi * 2 ^ (64 - n) % 18446744073709551616) < 18446744073709551616 ∧
    (lo / 2 ^ n ||| hi * 2 ^ (64 - n) % 18446744073709551616) + 18446744073709551616 * (hi / 2 ^ n) = (lo + 18446744073709551616 * hi) / 2 ^ n ∧
    (lo * 2 ^ (64 - n) % 18446744073709551616 ≠ 0 ↔ (lo + 18446744073709551616 * hi) % 2 ^ n ≠ 0) := by
  have hs := pow_split (n := n) (by omega)
  have hK : 0 < 2 ^ (64 - n) := Nat.pow_pos (by decide)
  have hN : 0 < 2 ^ n := Nat.pow_pos (by decide)
  have hl1 : lo / 2 ^ n < 2 ^ (64 - n) := (Nat.div_lt_iff_lt_mul hN).2 (by rw [Nat.mul_comm, hs]; exact hl)
  have dh := Nat.div_add_mod hi (2 ^ n)
  have mh := Nat.mod_lt hi hN
  have em : ∀ x : Nat, x * 2 ^ (64 - n) % 18446744073709551616 = 2 ^ (64 - n) * (x % 2 ^ n) := fun x => by
    have := mul_mod_pow x (n := 64 - n) (by omega)
    rw [show 64 - (64 - n) = n by omega] at this
    exact this
  rw [em, em, Nat.or_comm, or_add hl1]
  have e2 : 18446744073709551616 * hi = 2 ^ n * (18446744073709551616 * (hi / 2 ^ n) + 2 ^ (64 - n) * (hi % 2 ^ n)) := by
    conv => lhs; rw [← dh]
    rw [Nat.mul_add, Nat.mul_add, ← Nat.mul_assoc (2 ^ n) (2 ^ (64 - n)), hs, Nat.mul_left_comm]
  have b2 : 2 ^ (64 - n) * (hi % 2 ^ n) + 2 ^ (64 - n) ≤ 18446744073709551616 := by
    rw [← hs, Nat.mul_comm (2 ^ n), ← Nat.mul_succ]; exact Nat.mul_le_mul_left _ mh
  rw [e2, Nat.add_mul_div_left _ _ hN, Nat.add_mul_mod_self_left]
  refine ⟨?_, ?_, ?_⟩
  · generalize 2 ^ (64 - n) * (hi % 2 ^ n) = D at *
    generalize lo / 2 ^ n = l1 at *
    omega
  · generalize 2 ^ (64 - n) * (hi % 2 ^ n) = D at *
    omega
  · refine not_congr ?_
    rw [Nat.mul_eq_zero]
    constructor
    · rintro (h | h)
      · omega
      · exact h
    · exact .inr
theorem shl_small {a : U2} (ha : W2 a) {n : Nat} (h0 : 0 < n) (hn : n < 64) {b : U2} {m : Int} (hr : u2_Shl_L0_r (0, 0) (m, b.hi, b.lo) = some (.inl ((n : Int), a.hi, a.lo))) :
    u2_Shl_s b m = true ∧ W2 (u2_Shl b m) ∧ n2 (u2_Shl b m) = n2 a * 2 ^ n % 340282366920938463463374607431768211456 := by
  obtain ⟨ahi, alo⟩ := a
  obtain ⟨h1, h2⟩ := ha
  simp only at h1 h2 hr
  obtain ⟨hi, rfl⟩ := Int.eq_ofNat_of_zero_le h1.1
  obtain ⟨lo, rfl⟩ := Int.eq_ofNat_of_zero_le h2.1
  have b1 := h1.2
  have b2 := h2.2
  obtain ⟨c1, c2⟩ := shl_core (hi := hi) (lo := lo) (by omega) (by omega) h0 hn
  have w1 : IntKind.i64.wrap (64 - (n : Int)) = ((64 - n : Nat) : Int) := by rw [w64 (by omega) (by omega)]; omega
  have hv : u2_Shl_L0_v (0, 0) (m, b.hi, b.lo) = ((n : Int), (hi : Int), (lo : Int)) := by unfold u2_Shl_L0_v; rw [hr]; rfl
  have ht : u2_Shl_L0_rt (0, 0) (m, b.hi, b.lo) = false := by unfold u2_Shl_L0_rt; rw [hr]; rfl
  have ho : u2_Shl_L0_ok (0, 0) (m, b.hi, b.lo) = true := by unfold u2_Shl_L0_ok; rw [hr]; rfl
  have x1 : hi * 2 ^ n % 18446744073709551616 < 18446744073709551616 := Nat.mod_lt _ (by decide)
  have x2 : lo / 2 ^ (64 - n) < 18446744073709551616 := Nat.lt_of_le_of_lt (Nat.div_le_self _ _) (by omega)
  have x3 : lo * 2 ^ n % 18446744073709551616 < 18446744073709551616 := Nat.mod_lt _ (by decide)
  simp only [u2_Shl, u2_Shl_s, u2_Shl_t, u2_Shl_T, Tr.val, Tr.safe, ho, ht, hv, w1, shl_nat _ n (by omega), shr_nat lo (64 - n) (by omega), bits_or x1 x2]
  rw [decide_eq_false (show ¬ (n : Int) ≤ 0 by omega), decide_eq_true (show (0 : Int) ≤ (n : Int) by omega), decide_eq_true (show (0 : Int) ≤ ((64 - n : Nat) : Int) by omega)]
  unfold W2 Wd n2
  simp only [cond_false, Int.toNat_natCast]
  refine ⟨rfl, ⟨?_, ?_⟩, c2⟩ <;> omega
theorem wd0 : Wd 0 := by unfold Wd; omega
theorem mul4N (c d : Nat) : 18446744073709551616 * c * (18446744073709551616 * d) = 340282366920938463463374607431768211456 * (c * d) := by
  rw [Nat.mul_mul_mul_comm]
theorem n2_lt {a : U2} (ha : W2 a) : n2 a < 340282366920938463463374607431768211456 := by
  obtain ⟨h1, h2⟩ := ha
  unfold Wd n2 at *
  omega
theorem shl_L0_end {hi lo : Int} {n : Nat} (h : n < 64) (k : Nat) : runL (u2_Shl_L0_step (0, 0)) (k + 1) ((n : Int), hi, lo) = some (.inl ((n : Int), hi, lo)) := by
  rw [runL]
  simp only [u2_Shl_L0_step, u2_Shl_L0_T, Tr.val, Tr.safe, decide_eq_false (show ¬ (n : Int) ≥ 64 by omega)]
  rfl
theorem shl_L0_zero {hi : Int} {n : Nat} (h : 64 ≤ n) (k : Nat) : runL (u2_Shl_L0_step (0, 0)) (k + 1) ((n : Int), hi, 0) = some (.inr (0, 0)) := by
  rw [runL]
  simp only [u2_Shl_L0_step, u2_Shl_L0_T, Tr.val, Tr.safe, decide_eq_true (show (n : Int) ≥ 64 by omega)]
  rfl
theorem shl_L0_next {hi lo : Int} {n : Nat} (h : 64 ≤ n) (hb : n < 9223372036854775808) (hl : lo ≠ 0) (k : Nat) : runL (u2_Shl_L0_step (0, 0)) (k + 1) ((n : Int), hi, lo) = runL (u2_Shl_L0_step (0, 0)) k (((n - 64 : Nat) : Int), lo, 0) := by
  have w : IntKind.i64.wrap ((n : Int) - 64) = ((n - 64 : Nat) : Int) := by rw [w64 (by omega) (by omega)]; omega
  rw [runL]
  simp only [u2_Shl_L0_step, u2_Shl_L0_T, Tr.val, Tr.safe, decide_eq_true (show (n : Int) ≥ 64 by omega), beq_eq_false_iff_ne.2 hl, w]
  rfl
theorem shl_ret {b : U2} {m : Int} (hr : u2_Shl_L0_r (0, 0) (m, b.hi, b.lo) = some (.inr (0, 0))) : u2_Shl_s b m = true ∧ u2_Shl b m = ⟨0, 0⟩ := by
  have ht : u2_Shl_L0_rt (0, 0) (m, b.hi, b.lo) = true := by unfold u2_Shl_L0_rt; rw [hr]; rfl
  have ho : u2_Shl_L0_ok (0, 0) (m, b.hi, b.lo) = true := by unfold u2_Shl_L0_ok; rw [hr]; rfl
  have hv : u2_Shl_L0_rv (0, 0) (m, b.hi, b.lo) = (0, 0) := by unfold u2_Shl_L0_rv; rw [hr]; rfl
  simp only [u2_Shl, u2_Shl_s, u2_Shl_t, u2_Shl_T, Tr.val, Tr.safe, ho, ht, hv]
  exact ⟨rfl, rfl⟩
theorem shl_none {a b : U2} {m : Int} (hr : u2_Shl_L0_r (0, 0) (m, b.hi, b.lo) = some (.inl (0, a.hi, a.lo))) : u2_Shl_s b m = true ∧ u2_Shl b m = a := by
  have ht : u2_Shl_L0_rt (0, 0) (m, b.hi, b.lo) = false := by unfold u2_Shl_L0_rt; rw [hr]; rfl
  have ho : u2_Shl_L0_ok (0, 0) (m, b.hi, b.lo) = true := by unfold u2_Shl_L0_ok; rw [hr]; rfl
  have hv : u2_Shl_L0_v (0, 0) (m, b.hi, b.lo) = (0, a.hi, a.lo) := by unfold u2_Shl_L0_v; rw [hr]; rfl
  have hd : decide ((0 : Int) ≤ 0) = true := rfl
  simp only [u2_Shl, u2_Shl_s, u2_Shl_t, u2_Shl_T, Tr.val, Tr.safe, ho, ht, hv, hd]
  exact ⟨rfl, rfl⟩
theorem ushl_spec {a : U2} (ha : W2 a) {n : Nat} (hn : n < 9223372036854775808) : u2_Shl_s a (n : Int) = true ∧ W2 (u2_Shl a (n : Int)) ∧ n2 (u2_Shl a (n : Int)) = n2 a * 2 ^ n % 340282366920938463463374607431768211456 := by
  have hz : W2 ⟨0, 0⟩ ∧ n2 ⟨0, 0⟩ = 0 := ⟨⟨wd0, wd0⟩, rfl⟩
  have p64 : (2 : Nat) ^ 64 = 18446744073709551616 := by decide
  rcases Nat.lt_or_ge n 64 with h | h
  · rcases Nat.eq_zero_or_pos n with h0 | h0
    · subst h0
      obtain ⟨k1, k2⟩ := shl_none (a := a) (b := a) (m := ((0 : Nat) : Int)) (runB_of (shl_L0_end (n := 0) (by omega) 0) (by omega))
      rw [k2]
      exact ⟨k1, ha, by rw [Nat.pow_zero, Nat.mul_one, Nat.mod_eq_of_lt (n2_lt ha)]⟩
    · exact shl_small ha h0 h (runB_of (shl_L0_end h 0) (by omega))
  · have ep : 2 ^ n = 18446744073709551616 * 2 ^ (n - 64) := by rw [← p64, ← Nat.pow_add, Nat.add_sub_cancel' h]
    obtain ⟨ahi, alo⟩ := a
    obtain ⟨w1, w2⟩ := ha
    simp only at w1 w2
    by_cases hl : alo = 0
    · subst hl
      obtain ⟨k1, k2⟩ := shl_ret (b := ⟨ahi, 0⟩) (m := (n : Int)) (runB_of (shl_L0_zero h 0) (by omega))
      rw [k2]
      refine ⟨k1, hz.1, ?_⟩
      have : n2 ⟨ahi, 0⟩ * 2 ^ n = 340282366920938463463374607431768211456 * (ahi.toNat * 2 ^ (n - 64)) := by
        unfold n2
        simp only [Int.toNat_zero, Nat.zero_add]
        rw [ep, mul4N]
      rw [this, Nat.mul_mod_right]; exact hz.2
    · have hw : W2 ⟨alo, 0⟩ := ⟨w2, wd0⟩
      have hmod : n2 ⟨ahi, alo⟩ * 2 ^ n % 340282366920938463463374607431768211456 = n2 ⟨alo, 0⟩ * 2 ^ (n - 64) % 340282366920938463463374607431768211456 := by
        have : n2 ⟨ahi, alo⟩ * 2 ^ n = n2 ⟨alo, 0⟩ * 2 ^ (n - 64) + 340282366920938463463374607431768211456 * (ahi.toNat * 2 ^ (n - 64)) := by
          unfold n2
          simp only [Int.toNat_zero, Nat.zero_add]
          rw [ep, Nat.add_mul, mul4N, Nat.mul_left_comm, Nat.mul_assoc]
        rw [this, Nat.add_mul_mod_self_left]
      rw [hmod]
      rcases Nat.lt_or_ge (n - 64) 64 with h2 | h2
      · rcases Nat.eq_zero_or_pos (n - 64) with h0 | h0
        · have hr := runB_of (n := 2) (step := u2_Shl_L0_step (0, 0)) (i := ((n : Int), ahi, alo)) (r := .inl (0, alo, 0)) (by
            rw [shl_L0_next h hn hl 1, h0]; exact shl_L0_end (n := 0) (by omega) 0) (by omega)
          obtain ⟨k1, k2⟩ := shl_none (a := ⟨alo, 0⟩) (b := ⟨ahi, alo⟩) (m := (n : Int)) hr
          rw [k2, h0]
          exact ⟨k1, hw, by rw [Nat.pow_zero, Nat.mul_one, Nat.mod_eq_of_lt (n2_lt hw)]⟩
        · have hr := runB_of (n := 2) (step := u2_Shl_L0_step (0, 0)) (i := ((n : Int), ahi, alo)) (r := .inl (((n - 64 : Nat) : Int), alo, 0)) (by
            rw [shl_L0_next h hn hl 1]; exact shl_L0_end h2 0) (by omega)
          exact shl_small (a := ⟨alo, 0⟩) (b := ⟨ahi, alo⟩) hw h0 h2 hr
      · have hr := runB_of (n := 2) (step := u2_Shl_L0_step (0, 0)) (i := ((n : Int), ahi, alo)) (r := .inr (0, 0)) (by
          rw [shl_L0_next h hn hl 1]; exact shl_L0_zero h2 0) (by omega)
        obtain ⟨k1, k2⟩ := shl_ret (b := ⟨ahi, alo⟩) (m := (n : Int)) hr
        rw [k2]
        refine ⟨k1, hz.1, ?_⟩
        have ep2 : 2 ^ (n - 64) = 18446744073709551616 * 2 ^ (n - 64 - 64) := by rw [← p64, ← Nat.pow_add, Nat.add_sub_cancel' h2]
        have : n2 ⟨alo, 0⟩ * 2 ^ (n - 64) = 340282366920938463463374607431768211456 * (alo.toNat * 2 ^ (n - 64 - 64)) := by
          unfold n2
          simp only [Int.toNat_zero, Nat.zero_add]
          rw [ep2, mul4N]
        rw [this, Nat.mul_mod_right]; exact hz.2
end Go.Fb
namespace Go.Fb
open Go.Ev
section
variable (z : Bool × Int × Int)
theorem shr_L0_end {hi lo : Int} {l : Bool} {n : Nat} (h : n < 64) (k : Nat) : runL (u2_Shr_L0_step z) (k + 1) ((n : Int), l, hi, lo) = some (.inl ((n : Int), l, hi, lo)) := by
  rw [runL]
  simp only [u2_Shr_L0_step, u2_Shr_L0_T, Tr.val, Tr.safe, decide_eq_false (show ¬ (n : Int) ≥ 64 by omega)]
  rfl
theorem shr_L0_zero {lo : Int} {l : Bool} {n : Nat} (h : 64 ≤ n) (k : Nat) : runL (u2_Shr_L0_step z) (k + 1) ((n : Int), l, 0, lo) = some (.inr (l || lo != 0, 0, 0)) := by
  rw [runL]
  simp only [u2_Shr_L0_step, u2_Shr_L0_T, Tr.val, Tr.safe, decide_eq_true (show (n : Int) ≥ 64 by omega)]
  cases l <;> rfl
theorem shr_L0_next {hi lo : Int} {l : Bool} {n : Nat} (h : 64 ≤ n) (hb : n < 9223372036854775808) (hl : hi ≠ 0) (k : Nat) : runL (u2_Shr_L0_step z) (k + 1) ((n : Int), l, hi, lo) = runL (u2_Shr_L0_step z) k (((n - 64 : Nat) : Int), l || lo != 0, 0, hi) := by
  have w : IntKind.i64.wrap ((n : Int) - 64) = ((n - 64 : Nat) : Int) := by rw [w64 (by omega) (by omega)]; omega
  rw [runL]
  simp only [u2_Shr_L0_step, u2_Shr_L0_T, Tr.val, Tr.safe, decide_eq_true (show (n : Int) ≥ 64 by omega), beq_eq_false_iff_ne.2 hl, w]
  cases l <;> rfl
end
theorem shr_ret {b : U2} {m : Int} {l : Bool} (hr : u2_Shr_L0_r (false, 0, 0) (m, false, b.hi, b.lo) = some (.inr (l, 0, 0))) : u2_Shr_s b m = true ∧ u2_Shr b m = (⟨0, 0⟩, l) := by
  have ht : u2_Shr_L0_rt (false, 0, 0) (m, false, b.hi, b.lo) = true := by unfold u2_Shr_L0_rt; rw [hr]; rfl
  have ho : u2_Shr_L0_ok (false, 0, 0) (m, false, b.hi, b.lo) = true := by unfold u2_Shr_L0_ok; rw [hr]; rfl
  have hv : u2_Shr_L0_rv (false, 0, 0) (m, false, b.hi, b.lo) = (l, 0, 0) := by unfold u2_Shr_L0_rv; rw [hr]; rfl
  simp only [u2_Shr, u2_Shr_s, u2_Shr_t, u2_Shr_T, Tr.val, Tr.safe, ho, ht, hv]
  exact ⟨rfl, rfl⟩
theorem shr_none {a b : U2} {m : Int} {l : Bool} (hr : u2_Shr_L0_r (false, 0, 0) (m, false, b.hi, b.lo) = some (.inl (0, l, a.hi, a.lo))) : u2_Shr_s b m = true ∧ u2_Shr b m = (a, l) := by
  have ht : u2_Shr_L0_rt (false, 0, 0) (m, false, b.hi, b.lo) = false := by unfold u2_Shr_L0_rt; rw [hr]; rfl
  have ho : u2_Shr_L0_ok (false, 0, 0) (m, false, b.hi, b.lo) = true := by unfold u2_Shr_L0_ok; rw [hr]; rfl
  have hv : u2_Shr_L0_v (false, 0, 0) (m, false, b.hi, b.lo) = (0, l, a.hi, a.lo) := by unfold u2_Shr_L0_v; rw [hr]; rfl
  have hd : decide ((0 : Int) ≤ 0) = true := rfl
  simp only [u2_Shr, u2_Shr_s, u2_Shr_t, u2_Shr_T, Tr.val, Tr.safe, ho, ht, hv, hd]
  exact ⟨rfl, rfl⟩
theorem shr_small {a : U2} (ha : W2 a) {n : Nat} (h0 : 0 < n) (hn : n < 64) {b : U2} {m : Int} {l : Bool} (hr : u2_Shr_L0_r (false, 0, 0) (m, false, b.hi, b.lo) = some (.inl ((n : Int), l, a.hi, a.lo))) :
    u2_Shr_s b m = true ∧ W2 (u2_Shr b m).1 ∧ n2 (u2_Shr b m).1 = n2 a / 2 ^ n ∧ (u2_Shr b m).2 = (l || decide (n2 a % 2 ^ n ≠ 0)) := by
  obtain ⟨ahi, alo⟩ := a
  obtain ⟨h1, h2⟩ := ha
  simp only at h1 h2 hr
  obtain ⟨hi, rfl⟩ := Int.eq_ofNat_of_zero_le h1.1
  obtain ⟨lo, rfl⟩ := Int.eq_ofNat_of_zero_le h2.1
  have b1 := h1.2
  have b2 := h2.2
  obtain ⟨c1, c2, c3⟩ := shr_core (hi := hi) (lo := lo) (by omega) (by omega) h0 hn
  have w1 : IntKind.i64.wrap (64 - (n : Int)) = ((64 - n : Nat) : Int) := by rw [w64 (by omega) (by omega)]; omega
  have hv : u2_Shr_L0_v (false, 0, 0) (m, false, b.hi, b.lo) = ((n : Int), l, (hi : Int), (lo : Int)) := by unfold u2_Shr_L0_v; rw [hr]; rfl
  have ht : u2_Shr_L0_rt (false, 0, 0) (m, false, b.hi, b.lo) = false := by unfold u2_Shr_L0_rt; rw [hr]; rfl
  have ho : u2_Shr_L0_ok (false, 0, 0) (m, false, b.hi, b.lo) = true := by unfold u2_Shr_L0_ok; rw [hr]; rfl
  have x1 : hi * 2 ^ (64 - n) % 18446744073709551616 < 18446744073709551616 := Nat.mod_lt _ (by decide)
  have x2 : lo / 2 ^ n < 18446744073709551616 := Nat.lt_of_le_of_lt (Nat.div_le_self _ _) (by omega)
  have x3 : hi / 2 ^ n < 18446744073709551616 := Nat.lt_of_le_of_lt (Nat.div_le_self _ _) (by omega)
  have x4 : ((((lo * 2 ^ (64 - n) % 18446744073709551616 : Nat) : Int)) != 0) = decide ((lo + 18446744073709551616 * hi) % 2 ^ n ≠ 0) := by
    by_cases hz : lo * 2 ^ (64 - n) % 18446744073709551616 ≠ 0
    · rw [decide_eq_true (c3.1 hz)]
      exact bne_iff_ne.2 (by omega)
    · rw [decide_eq_false (fun h => hz (c3.2 h))]
      have : lo * 2 ^ (64 - n) % 18446744073709551616 = 0 := by omega
      rw [this]; rfl
  simp only [u2_Shr, u2_Shr_s, u2_Shr_t, u2_Shr_T, Tr.val, Tr.safe, ho, ht, hv, w1, shl_nat _ (64 - n) (by omega), shr_nat _ n (by omega), bits_or x2 x1, x4]
  rw [decide_eq_false (show ¬ (n : Int) ≤ 0 by omega), decide_eq_true (show (0 : Int) ≤ (n : Int) by omega), decide_eq_true (show (0 : Int) ≤ ((64 - n : Nat) : Int) by omega)]
  unfold W2 Wd n2
  cases l
  · simp only [cond_false, Int.toNat_natCast]
    refine ⟨rfl, ⟨?_, ?_⟩, c2, ?_⟩
    · omega
    · omega
    · rw [Bool.false_or]
  · simp only [cond_false, cond_true, Int.toNat_natCast]
    refine ⟨rfl, ⟨?_, ?_⟩, c2, rfl⟩ <;> omega
theorem ushr_spec {a : U2} (ha : W2 a) {n : Nat} (hn : n < 9223372036854775808) : u2_Shr_s a (n : Int) = true ∧ W2 (u2_Shr a (n : Int)).1 ∧ n2 (u2_Shr a (n : Int)).1 = n2 a / 2 ^ n ∧ (u2_Shr a (n : Int)).2 = decide (n2 a % 2 ^ n ≠ 0) := by
  have hz : W2 ⟨0, 0⟩ ∧ n2 ⟨0, 0⟩ = 0 := ⟨⟨wd0, wd0⟩, rfl⟩
  have p64 : (2 : Nat) ^ 64 = 18446744073709551616 := by decide
  have hlt := n2_lt ha
  rcases Nat.lt_or_ge n 64 with h | h
  · rcases Nat.eq_zero_or_pos n with h0 | h0
    · subst h0
      obtain ⟨k1, k2⟩ := shr_none (a := a) (b := a) (m := ((0 : Nat) : Int)) (l := false) (runB_of (shr_L0_end _ (n := 0) (by omega) 0) (by omega))
      rw [k2]
      exact ⟨k1, ha, by simp, by simp [Nat.mod_one]⟩
    · obtain ⟨k1, k2, k3, k4⟩ := shr_small ha h0 h (b := a) (m := (n : Int)) (l := false) (runB_of (shr_L0_end _ h 0) (by omega))
      exact ⟨k1, k2, k3, by rw [k4, Bool.false_or]⟩
  · have ep : 2 ^ n = 18446744073709551616 * 2 ^ (n - 64) := by rw [← p64, ← Nat.pow_add, Nat.add_sub_cancel' h]
    obtain ⟨ahi, alo⟩ := a
    obtain ⟨w1, w2⟩ := ha
    simp only at w1 w2
    obtain ⟨hi, rfl⟩ := Int.eq_ofNat_of_zero_le w1.1
    obtain ⟨lo, rfl⟩ := Int.eq_ofNat_of_zero_le w2.1
    have b1 := w1.2
    have b2 := w2.2
    have en : n2 ⟨(hi : Int), (lo : Int)⟩ = lo + 18446744073709551616 * hi := rfl
    rw [en] at hlt ⊢
    have hd : (lo + 18446744073709551616 * hi) / 2 ^ n = hi / 2 ^ (n - 64) := by
      rw [ep, ← Nat.div_div_eq_div_mul]
      congr 1; omega
    have hm : (lo + 18446744073709551616 * hi) % 2 ^ n = lo + 18446744073709551616 * (hi % 2 ^ (n - 64)) := by
      rw [ep, Nat.mod_mul]
      have e1 : (lo + 18446744073709551616 * hi) % 18446744073709551616 = lo := by omega
      have e2 : (lo + 18446744073709551616 * hi) / 18446744073709551616 = hi := by omega
      rw [e1, e2]
    have hlo : ((lo : Int) != 0) = decide (lo ≠ 0) := by
      by_cases hz : lo = 0
      · subst hz; rfl
      · rw [decide_eq_true hz]; exact bne_iff_ne.2 (by omega)
    rw [hd, hm]
    by_cases hh : hi = 0
    · subst hh
      obtain ⟨k1, k2⟩ := shr_ret (b := ⟨((0 : Nat) : Int), (lo : Int)⟩) (m := (n : Int)) (runB_of (shr_L0_zero _ h 0) (by omega))
      rw [k2]
      refine ⟨k1, hz.1, by simp; exact hz.2, ?_⟩
      rw [Bool.false_or, hlo]
      by_cases q : lo = 0 <;> simp [q]
    · have hw : W2 ⟨0, (hi : Int)⟩ := ⟨wd0, w1⟩
      have hhi : (hi : Int) ≠ 0 := by omega
      have e0 : n2 ⟨0, (hi : Int)⟩ = hi := by unfold n2; simp
      have hls : ∀ q : Nat, (decide (lo ≠ 0) || decide (q ≠ 0)) = decide (lo + 18446744073709551616 * q ≠ 0) := fun q => by
        by_cases h1 : lo = 0 <;> by_cases h2 : q = 0 <;> simp [h1, h2] <;> omega
      rcases Nat.lt_or_ge (n - 64) 64 with h2 | h2
      · rcases Nat.eq_zero_or_pos (n - 64) with h0 | h0
        · have hr := runB_of (n := 2) (step := u2_Shr_L0_step (false, 0, 0)) (i := ((n : Int), false, (hi : Int), (lo : Int))) (r := .inl (0, false || (lo : Int) != 0, 0, (hi : Int))) (by
            rw [shr_L0_next _ h hn hhi 1, h0]; exact shr_L0_end _ (n := 0) (by omega) 0) (by omega)
          obtain ⟨k1, k2⟩ := shr_none (a := ⟨0, (hi : Int)⟩) (b := ⟨(hi : Int), (lo : Int)⟩) (m := (n : Int)) hr
          rw [k2, h0]
          refine ⟨k1, hw, by simp [e0], ?_⟩
          rw [Bool.false_or, hlo]; simp [Nat.mod_one]
        · have hr := runB_of (n := 2) (step := u2_Shr_L0_step (false, 0, 0)) (i := ((n : Int), false, (hi : Int), (lo : Int))) (r := .inl (((n - 64 : Nat) : Int), false || (lo : Int) != 0, 0, (hi : Int))) (by
            rw [shr_L0_next _ h hn hhi 1]; exact shr_L0_end _ h2 0) (by omega)
          obtain ⟨k1, k2, k3, k4⟩ := shr_small (a := ⟨0, (hi : Int)⟩) (b := ⟨(hi : Int), (lo : Int)⟩) hw h0 h2 hr
          rw [e0] at k3 k4
          exact ⟨k1, k2, k3, by rw [k4, Bool.false_or, hlo, hls]⟩
      · have hr := runB_of (n := 2) (step := u2_Shr_L0_step (false, 0, 0)) (i := ((n : Int), false, (hi : Int), (lo : Int))) (r := .inr ((false || (lo : Int) != 0) || (hi : Int) != 0, 0, 0)) (by
          rw [shr_L0_next _ h hn hhi 1]; exact shr_L0_zero _ h2 0) (by omega)
        obtain ⟨k1, k2⟩ := shr_ret (b := ⟨(hi : Int), (lo : Int)⟩) (m := (n : Int)) hr
        have hp : hi < 2 ^ (n - 64) := Nat.lt_of_lt_of_le (show hi < 2 ^ 64 by omega) (Nat.pow_le_pow_right (by decide) h2)
        rw [k2, Nat.div_eq_of_lt hp, Nat.mod_eq_of_lt hp]
        refine ⟨k1, hz.1, hz.2, ?_⟩
        rw [bne_iff_ne.2 hhi, Bool.or_true, decide_eq_true (by omega)]
end Go.Fb
namespace Go.Fb
open Go.Ev
end Go.Fb
namespace Go.Fb
open Go.Ev
end Go.Fb
namespace Go.Fb
open Go.Ev
end Go.Fb
namespace Go.Fb
open Go.Ev
end Go.Fb
namespace Go.Fb
open Go.Ev
end Go.Fb
namespace Go.Fb
open Go.Ev
end Go.Fb
namespace Go.Fb
open Go.Ev
theorem lenIs_le {n l m : Nat} (h : LenIs n l) (hn : n < 2 ^ m) : l ≤ m := by
  rcases h.2 with h' | h'
  · omega
  · rcases Nat.lt_or_ge m l with h2 | h2
    · have : 2 ^ m ≤ 2 ^ (l - 1) := Nat.pow_le_pow_right (by decide) (by omega)
      omega
    · exact h2
end Go.Fb
namespace Go.Fb
open Go.Ev
end Go.Fb
namespace Go.Fb
open Go.Ev
theorem dig_stop {q r u d1 d0 w : Nat} (h : q * d1 + r = u) (hs : q * d0 ≤ 4294967296 * r + w) : q * (4294967296 * d1 + d0) ≤ 4294967296 * u + w := by
  subst h
  rw [Nat.mul_add q, Nat.mul_left_comm q]
  omega
theorem dig_down {q r u d1 d0 w : Nat} (h : q * d1 + r = u) (hu : u < 4294967296 * d1 + d0) (hw : w < 4294967296) (hs : 4294967296 ≤ q ∨ 4294967296 * r + w < q * d0) : 4294967296 * u + w < q * (4294967296 * d1 + d0) := by
  rcases hs with hs | hs
  · have := Nat.mul_le_mul_right (4294967296 * d1 + d0) hs
    omega
  · subst h
    rw [Nat.mul_add q, Nat.mul_left_comm q]
    omega
theorem dig_break {q r u d1 d0 w : Nat} (h : q * d1 + r = u) (hu : u < 4294967296 * d1 + d0) (h0 : d0 < 4294967296) (hr : 4294967296 ≤ r) : q * (4294967296 * d1 + d0) ≤ 4294967296 * u + w := by
  refine dig_stop h ?_
  have hq : q < 4294967296 := by
    rcases Nat.lt_or_ge q 4294967296 with h' | h'
    · exact h'
    · have := Nat.mul_le_mul_right d1 h'
      omega
  have := Nat.mul_le_mul (Nat.le_of_lt hq) (Nat.le_of_lt h0)
  omega
theorem dig0_step {d1 d0 w q r : Nat} (h1 : d1 < 4294967296) (h0 : d0 < 4294967296) (hw : w < 4294967296) (hr : r < 4294967296) (hq : 0 < q ∧ q ≤ 18446744073709551615 ∨ q = 0) (z0 z1 z2 z3 z5 z7 : Int) (z8 : Bool × Bool × Bool) (n : Nat) :
    runL (bits_Div64_L0_step (z0, z1, z2, z3, (d1 : Int), (d0 : Int), z5, (w : Int), z7, z8)) (n + 1) ((q : Int), (r : Int)) = if 4294967296 ≤ q ∨ 4294967296 * r + w < q * d0 then (if 4294967296 ≤ r + d1 then some (((q - 1 : Nat) : Int), ((r + d1 : Nat) : Int)) else runL (bits_Div64_L0_step (z0, z1, z2, z3, (d1 : Int), (d0 : Int), z5, (w : Int), z7, z8)) n (((q - 1 : Nat) : Int), ((r + d1 : Nat) : Int))) else some ((q : Int), (r : Int)) := by
  have hqr : q < 4294967296 → q * d0 < 18446744073709551616 := fun h => by
    have := Nat.mul_le_mul (Nat.le_of_lt h) (Nat.le_of_lt h0)
    have h2 : q * d0 ≤ 4294967295 * 4294967295 := Nat.mul_le_mul (by omega) (by omega)
    omega
  have e1 : IntKind.u64.wrap ((r : Int) + (d1 : Int)) = ((r + d1 : Nat) : Int) := by rw [u64w]; omega
  have e2 : 0 < q → IntKind.u64.wrap ((q : Int) - 1) = ((q - 1 : Nat) : Int) := fun h => by rw [u64w]; omega
  have e3 : q < 4294967296 → IntKind.u64.wrap ((q : Int) * (d0 : Int)) = ((q * d0 : Nat) : Int) := fun h => by
    have := hqr h
    rw [← Int.natCast_mul, u64w]; omega
  have e4 : IntKind.u64.wrap (IntKind.u64.wrap (4294967296 * (r : Int)) + (w : Int)) = ((4294967296 * r + w : Nat) : Int) := by rw [u64w, u64w]; omega
  rw [runL]
  simp only [bits_Div64_L0_step, bits_Div64_L0_T]
  by_cases hb : 4294967296 ≤ q
  · have hb' : decide ((q : Int) ≥ 4294967296) = true := by simp; omega
    simp only [Tr.safe, Tr.val, hb', cond_true, e1, e2 (by omega), if_pos (Or.inl hb : 4294967296 ≤ q ∨ 4294967296 * r + w < q * d0)]
    by_cases hc : 4294967296 ≤ r + d1
    · have hc' : decide (((r + d1 : Nat) : Int) ≥ 4294967296) = true := by simp; omega
      simp only [hc', cond_true, if_pos hc]
    · have hc' : decide (((r + d1 : Nat) : Int) ≥ 4294967296) = false := by simp; omega
      simp only [hc', cond_false, cond_true, if_neg hc]
  · have hb' : decide ((q : Int) ≥ 4294967296) = false := by simp; omega
    simp only [Tr.safe, Tr.val, hb', cond_false, e1, e3 (by omega), e4]
    by_cases hd : 4294967296 * r + w < q * d0
    · have hd' : decide (((q * d0 : Nat) : Int) > ((4294967296 * r + w : Nat) : Int)) = true := by simp only [decide_eq_true_eq]; omega
      have hq0 : 0 < q := by rcases Nat.eq_zero_or_pos q with h | h; · subst h; omega
                             · exact h
      simp only [hd', cond_true, e2 hq0, if_pos (Or.inr hd : 4294967296 ≤ q ∨ 4294967296 * r + w < q * d0)]
      by_cases hc : 4294967296 ≤ r + d1
      · have hc' : decide (((r + d1 : Nat) : Int) ≥ 4294967296) = true := by simp; omega
        simp only [hc', cond_true, if_pos hc]
      · have hc' : decide (((r + d1 : Nat) : Int) ≥ 4294967296) = false := by simp; omega
        simp only [hc', cond_false, cond_true, if_neg hc]
    · have hd' : decide (((q * d0 : Nat) : Int) > ((4294967296 * r + w : Nat) : Int)) = false := by simp only [decide_eq_false_iff_not]; omega
      have hn : ¬ (4294967296 ≤ q ∨ 4294967296 * r + w < q * d0) := by omega
      simp only [hd', cond_false, cond_true, if_neg hn]
theorem dig0_run {d1 d0 w u : Nat} (h1 : d1 < 4294967296) (_hd : 2147483648 ≤ d1) (h0 : d0 < 4294967296) (hw : w < 4294967296) (hu : u < 4294967296 * d1 + d0) (z0 z1 z2 z3 z5 z7 : Int) (z8 : Bool × Bool × Bool) : ∀ (n q r : Nat), q ≤ n → q ≤ 18446744073709551615 → q * d1 + r = u → r < 4294967296 → (4294967296 * u + w) / (4294967296 * d1 + d0) ≤ q →
    ∃ q' r' : Nat, runL (bits_Div64_L0_step (z0, z1, z2, z3, (d1 : Int), (d0 : Int), z5, (w : Int), z7, z8)) (n + 1) ((q : Int), (r : Int)) = some ((q' : Int), (r' : Int)) ∧ q' = (4294967296 * u + w) / (4294967296 * d1 + d0) ∧ q' * d1 + r' = u := by
  intro n
  induction n with
  | zero =>
    intro q r hqn hq2 hq hr hle
    have hq0 : q = 0 := by omega
    subst hq0
    refine ⟨0, r, ?_, (Nat.le_zero.1 hle).symm, hq⟩
    rw [dig0_step h1 h0 hw hr (.inr rfl), if_neg (by omega)]
  | succ n ih =>
    intro q r hqn hq2 hq hr hle
    have hy : 0 < 4294967296 * d1 + d0 := by omega
    rw [dig0_step h1 h0 hw hr (by omega)]
    by_cases hs : 4294967296 ≤ q ∨ 4294967296 * r + w < q * d0
    · rw [if_pos hs]
      have hlt := dig_down hq hu hw hs
      have hq0 : 0 < q := by rcases Nat.eq_zero_or_pos q with h | h; · subst h; omega
                             · exact h
      have hle' : (4294967296 * u + w) / (4294967296 * d1 + d0) ≤ q - 1 := by
        have := (Nat.div_lt_iff_lt_mul hy).2 hlt
        omega
      have hq' : (q - 1) * d1 + (r + d1) = u := by
        have : (q - 1) * d1 + d1 = q * d1 := by rw [← Nat.succ_mul]; congr 1; omega
        omega
      by_cases hc : 4294967296 ≤ r + d1
      · rw [if_pos hc]
        refine ⟨q - 1, r + d1, rfl, ?_, hq'⟩
        exact Nat.le_antisymm ((Nat.le_div_iff_mul_le hy).2 (dig_break hq' hu h0 hc)) hle'
      · rw [if_neg hc]
        exact ih (q - 1) (r + d1) (by omega) (by omega) hq' (by omega) hle'
    · rw [if_neg hs]
      refine ⟨q, r, rfl, ?_, hq⟩
      exact Nat.le_antisymm ((Nat.le_div_iff_mul_le hy).2 (dig_stop hq (by omega))) hle
theorem dig1_step {d1 d0 w q r : Nat} (h1 : d1 < 4294967296) (h0 : d0 < 4294967296) (hw : w < 4294967296) (hr : r < 4294967296) (hq : 0 < q ∧ q ≤ 18446744073709551615 ∨ q = 0) (z0 z1 z2 z3 z5 z7 : Int) (z8 : Bool × Bool × Bool) (n : Nat) :
    runL (bits_Div64_L1_step (z0, z1, z2, z3, (d1 : Int), (d0 : Int), (w : Int), z5, z7, z8)) (n + 1) ((r : Int), (q : Int)) = if 4294967296 ≤ q ∨ 4294967296 * r + w < q * d0 then (if 4294967296 ≤ r + d1 then some (((r + d1 : Nat) : Int), ((q - 1 : Nat) : Int)) else runL (bits_Div64_L1_step (z0, z1, z2, z3, (d1 : Int), (d0 : Int), (w : Int), z5, z7, z8)) n (((r + d1 : Nat) : Int), ((q - 1 : Nat) : Int))) else some ((r : Int), (q : Int)) := by
  have hqr : q < 4294967296 → q * d0 < 18446744073709551616 := fun h => by
    have := Nat.mul_le_mul (Nat.le_of_lt h) (Nat.le_of_lt h0)
    have h2 : q * d0 ≤ 4294967295 * 4294967295 := Nat.mul_le_mul (by omega) (by omega)
    omega
  have e1 : IntKind.u64.wrap ((r : Int) + (d1 : Int)) = ((r + d1 : Nat) : Int) := by rw [u64w]; omega
  have e2 : 0 < q → IntKind.u64.wrap ((q : Int) - 1) = ((q - 1 : Nat) : Int) := fun h => by rw [u64w]; omega
  have e3 : q < 4294967296 → IntKind.u64.wrap ((q : Int) * (d0 : Int)) = ((q * d0 : Nat) : Int) := fun h => by
    have := hqr h
    rw [← Int.natCast_mul, u64w]; omega
  have e4 : IntKind.u64.wrap (IntKind.u64.wrap (4294967296 * (r : Int)) + (w : Int)) = ((4294967296 * r + w : Nat) : Int) := by rw [u64w, u64w]; omega
  rw [runL]
  simp only [bits_Div64_L1_step, bits_Div64_L1_T]
  by_cases hb : 4294967296 ≤ q
  · have hb' : decide ((q : Int) ≥ 4294967296) = true := by simp; omega
    simp only [Tr.safe, Tr.val, hb', cond_true, e1, e2 (by omega), if_pos (Or.inl hb : 4294967296 ≤ q ∨ 4294967296 * r + w < q * d0)]
    by_cases hc : 4294967296 ≤ r + d1
    · have hc' : decide (((r + d1 : Nat) : Int) ≥ 4294967296) = true := by simp; omega
      simp only [hc', cond_true, if_pos hc]
    · have hc' : decide (((r + d1 : Nat) : Int) ≥ 4294967296) = false := by simp; omega
      simp only [hc', cond_false, cond_true, if_neg hc]
  · have hb' : decide ((q : Int) ≥ 4294967296) = false := by simp; omega
    simp only [Tr.safe, Tr.val, hb', cond_false, e1, e3 (by omega), e4]
    by_cases hd : 4294967296 * r + w < q * d0
    · have hd' : decide (((q * d0 : Nat) : Int) > ((4294967296 * r + w : Nat) : Int)) = true := by simp only [decide_eq_true_eq]; omega
      have hq0 : 0 < q := by rcases Nat.eq_zero_or_pos q with h | h; · subst h; omega
                             · exact h
      simp only [hd', cond_true, e2 hq0, if_pos (Or.inr hd : 4294967296 ≤ q ∨ 4294967296 * r + w < q * d0)]
      by_cases hc : 4294967296 ≤ r + d1
      · have hc' : decide (((r + d1 : Nat) : Int) ≥ 4294967296) = true := by simp; omega
        simp only [hc', cond_true, if_pos hc]
      · have hc' : decide (((r + d1 : Nat) : Int) ≥ 4294967296) = false := by simp; omega
        simp only [hc', cond_false, cond_true, if_neg hc]
    · have hd' : decide (((q * d0 : Nat) : Int) > ((4294967296 * r + w : Nat) : Int)) = false := by simp only [decide_eq_false_iff_not]; omega
      have hn : ¬ (4294967296 ≤ q ∨ 4294967296 * r + w < q * d0) := by omega
      simp only [hd', cond_false, cond_true, if_neg hn]
theorem dig1_run {d1 d0 w u : Nat} (h1 : d1 < 4294967296) (_hd : 2147483648 ≤ d1) (h0 : d0 < 4294967296) (hw : w < 4294967296) (hu : u < 4294967296 * d1 + d0) (z0 z1 z2 z3 z5 z7 : Int) (z8 : Bool × Bool × Bool) : ∀ (n q r : Nat), q ≤ n → q ≤ 18446744073709551615 → q * d1 + r = u → r < 4294967296 → (4294967296 * u + w) / (4294967296 * d1 + d0) ≤ q →
    ∃ q' r' : Nat, runL (bits_Div64_L1_step (z0, z1, z2, z3, (d1 : Int), (d0 : Int), (w : Int), z5, z7, z8)) (n + 1) ((r : Int), (q : Int)) = some ((r' : Int), (q' : Int)) ∧ q' = (4294967296 * u + w) / (4294967296 * d1 + d0) ∧ q' * d1 + r' = u := by
  intro n
  induction n with
  | zero =>
    intro q r hqn hq2 hq hr hle
    have hq0 : q = 0 := by omega
    subst hq0
    refine ⟨0, r, ?_, (Nat.le_zero.1 hle).symm, hq⟩
    rw [dig1_step h1 h0 hw hr (.inr rfl), if_neg (by omega)]
  | succ n ih =>
    intro q r hqn hq2 hq hr hle
    have hy : 0 < 4294967296 * d1 + d0 := by omega
    rw [dig1_step h1 h0 hw hr (by omega)]
    by_cases hs : 4294967296 ≤ q ∨ 4294967296 * r + w < q * d0
    · rw [if_pos hs]
      have hlt := dig_down hq hu hw hs
      have hq0 : 0 < q := by rcases Nat.eq_zero_or_pos q with h | h; · subst h; omega
                             · exact h
      have hle' : (4294967296 * u + w) / (4294967296 * d1 + d0) ≤ q - 1 := by
        have := (Nat.div_lt_iff_lt_mul hy).2 hlt
        omega
      have hq' : (q - 1) * d1 + (r + d1) = u := by
        have : (q - 1) * d1 + d1 = q * d1 := by rw [← Nat.succ_mul]; congr 1; omega
        omega
      by_cases hc : 4294967296 ≤ r + d1
      · rw [if_pos hc]
        refine ⟨q - 1, r + d1, rfl, ?_, hq'⟩
        exact Nat.le_antisymm ((Nat.le_div_iff_mul_le hy).2 (dig_break hq' hu h0 hc)) hle'
      · rw [if_neg hc]
        exact ih (q - 1) (r + d1) (by omega) (by omega) hq' (by omega) hle'
    · rw [if_neg hs]
      refine ⟨q, r, rfl, ?_, hq⟩
      exact Nat.le_antisymm ((Nat.le_div_iff_mul_le hy).2 (dig_stop hq (by omega))) hle
end Go.Fb
namespace Go.Fb
open Go.Ev
theorem lz64_spec {y : Nat} (hy : y < 18446744073709551616) (h0 : 0 < y) : ∃ s : Nat, bits_LZ64 (y : Int) = (s : Int) ∧ s < 64 ∧ 9223372036854775808 ≤ y * 2 ^ s ∧ y * 2 ^ s < 18446744073709551616 := by
  obtain ⟨l, hl, ⟨h1, h2⟩, h3⟩ := len64_spec hy
  have hl0 : l ≠ 0 := by rintro rfl; simp at h1; omega
  refine ⟨64 - l, ?_, by omega, ?_, ?_⟩
  · have e : bits_LZ64 (y : Int) = IntKind.i64.wrap (64 - bits_Len64 (y : Int)) := rfl
    rw [e, hl, w64 (by omega) (by omega)]
    omega
  · have h4 : 2 ^ (l - 1) ≤ y := h2.resolve_left hl0
    have := Nat.mul_le_mul_right (2 ^ (64 - l)) h4
    rw [← Nat.pow_add, show l - 1 + (64 - l) = 63 by omega] at this
    exact this
  · have := Nat.mul_lt_mul_of_pos_right h1 (Nat.two_pow_pos (64 - l))
    rw [← Nat.pow_add, show l + (64 - l) = 64 by omega] at this
    exact this
theorem two_digits {U Y w1 w0 : Nat} (hY : 0 < Y) (_h0 : w0 < 4294967296) : (18446744073709551616 * U + 4294967296 * w1 + w0) / Y = 4294967296 * ((4294967296 * U + w1) / Y) + (4294967296 * ((4294967296 * U + w1) % Y) + w0) / Y ∧
    (18446744073709551616 * U + 4294967296 * w1 + w0) % Y = (4294967296 * ((4294967296 * U + w1) % Y) + w0) % Y := by
  have e : 18446744073709551616 * U + 4294967296 * w1 + w0 = (4294967296 * ((4294967296 * U + w1) % Y) + w0) + Y * (4294967296 * ((4294967296 * U + w1) / Y)) := by
    have := Nat.div_add_mod (4294967296 * U + w1) Y
    rw [Nat.mul_left_comm Y]
    omega
  rw [e, Nat.add_mul_div_left _ _ hY, Nat.add_mul_mod_self_left]
  exact ⟨by omega, rfl⟩
def Hid1 (p : Prop) : Prop := p
set_option maxHeartbeats 1000000 in
set_option maxRecDepth 40000 in
theorem div64_spec {hi lo y : Nat} (hlo : lo < 18446744073709551616) (hy : y < 18446744073709551616) (h : hi < y) :
    bits_Div64_s (hi : Int) (lo : Int) (y : Int) = true ∧ bits_Div64 (hi : Int) (lo : Int) (y : Int) = (((((18446744073709551616 * hi + lo) / y : Nat) : Int)), (((18446744073709551616 * hi + lo) % y : Nat) : Int)) := by
  have es : bits_Div64_s (hi : Int) (lo : Int) (y : Int) = (bits_Div64_t (hi : Int) (lo : Int) (y : Int)).safe := rfl
  have ev : bits_Div64 (hi : Int) (lo : Int) (y : Int) = (bits_Div64_t (hi : Int) (lo : Int) (y : Int)).val := rfl
  rw [es, ev]
  obtain ⟨s, hs, hs64, hY1, hY2⟩ := lz64_spec hy (by omega)
  have hsw : IntKind.u64.wrap (s : Int) = (s : Int) := by rw [u64w]; omega
  have hy0 : ((y : Int) == 0) = false := by simp; omega
  have hyh : decide ((y : Int) ≤ (hi : Int)) = false := by simp; omega
  have hs0 : decide (0 ≤ (s : Int)) = true := by simp
  have ht7 : IntKind.u64.wrap (64 - (s : Int)) = ((64 - s : Nat) : Int) := by rw [u64w]; omega
  have ht7' : decide (0 ≤ ((64 - s : Nat) : Int)) = true := by simp
  unfold bits_Div64_t bits_Div64_T
  simp only [hs, hsw, hy0, hyh, hs0, ht7, ht7', Tr.safe, Tr.val, Bool.not_false, Bool.true_and]
  clear es ev hs hsw hy0 hyh hs0 ht7 ht7'
  by_cases hh : hi = 0
  · subst hh
    simp only [Int.natCast_zero, beq_self_eq_true, cond_true, Nat.mul_zero, Nat.zero_add, true_and]
    refine Prod.ext ?_ ?_
    · have : ((lo : Int)).tdiv (y : Int) = ((lo / y : Nat) : Int) := by
        rw [Int.tdiv_eq_ediv_of_nonneg (Int.natCast_nonneg lo)]; exact (Int.natCast_ediv lo y).symm
      simp only [this]
      have := Nat.div_le_self lo y
      generalize lo / y = k at *
      rw [u64w]; omega
    · have : ((lo : Int)).tmod (y : Int) = ((lo % y : Nat) : Int) := by
        rw [Int.tmod_eq_emod_of_nonneg (Int.natCast_nonneg lo)]; exact (Int.natCast_emod lo y).symm
      exact this
  · have hh0 : ((hi : Int) == 0) = false := by simp; omega
    simp only [hh0, cond_false]
    -- the shifted numbers
    have hYs : shlI .u64 (y : Int) (s : Int) = ((y * 2 ^ s : Nat) : Int) := by rw [shl_nat _ _ (by omega), Nat.mod_eq_of_lt hY2]
    have hhs : shlI .u64 (hi : Int) (s : Int) = ((hi * 2 ^ s % 18446744073709551616 : Nat) : Int) := shl_nat _ _ (by omega)
    have hLs : shlI .u64 (lo : Int) (s : Int) = ((lo * 2 ^ s % 18446744073709551616 : Nat) : Int) := shl_nat _ _ (by omega)
    have hls : shrI .u64 (lo : Int) ((64 - s : Nat) : Int) = ((lo / 2 ^ (64 - s) : Nat) : Int) := shr_nat _ _ (by omega)
    have hlo2 : lo / 2 ^ (64 - s) < 18446744073709551616 := Nat.lt_of_le_of_lt (Nat.div_le_self _ _) hlo
    -- their joint value
    obtain ⟨U, L, hU, hL, hUL, hUlt, hLlt⟩ : ∃ U L : Nat, bitsI .or .u64 ((hi * 2 ^ s % 18446744073709551616 : Nat) : Int) ((lo / 2 ^ (64 - s) : Nat) : Int) = (U : Int) ∧ lo * 2 ^ s % 18446744073709551616 = L ∧ 18446744073709551616 * U + L = (18446744073709551616 * hi + lo) * 2 ^ s ∧ U < y * 2 ^ s ∧ L < 18446744073709551616 := by
      have hN : (18446744073709551616 * hi + lo) * 2 ^ s < 18446744073709551616 * (y * 2 ^ s) := by
        have h1 : 18446744073709551616 * hi + lo < 18446744073709551616 * y := by omega
        have := Nat.mul_lt_mul_of_pos_right h1 (Nat.two_pow_pos s)
        rw [Nat.mul_assoc 18446744073709551616 y] at this
        exact this
      have hU0 : bitsI .or .u64 ((hi * 2 ^ s % 18446744073709551616 : Nat) : Int) ((lo / 2 ^ (64 - s) : Nat) : Int) = ((hi * 2 ^ s % 18446744073709551616 ||| lo / 2 ^ (64 - s) : Nat) : Int) :=
        bits_or (Nat.mod_lt _ (by decide)) hlo2
      rcases Nat.eq_zero_or_pos s with h0 | h0
      · subst h0
        refine ⟨hi, lo, ?_, ?_, ?_, ?_, hlo⟩
        · rw [hU0]
          have e1 : lo / 2 ^ (64 - 0) = 0 := Nat.div_eq_of_lt (by simpa using hlo)
          have e2 : hi * 2 ^ 0 % 18446744073709551616 = hi := by rw [Nat.pow_zero, Nat.mul_one]; exact Nat.mod_eq_of_lt (by omega)
          rw [e1, e2]; simp
        · rw [Nat.pow_zero, Nat.mul_one]; exact Nat.mod_eq_of_lt hlo
        · simp
        · simpa using h
      · obtain ⟨c1, c2⟩ := shl_core (hi := hi) (lo := lo) (by omega) hlo h0 hs64
        have hN2 : (18446744073709551616 * hi + lo) * 2 ^ s < 340282366920938463463374607431768211456 := by omega
        have e : (lo + 18446744073709551616 * hi) * 2 ^ s = (18446744073709551616 * hi + lo) * 2 ^ s := by rw [Nat.add_comm lo]
        rw [e, Nat.mod_eq_of_lt hN2] at c2
        refine ⟨_, _, hU0, rfl, by omega, ?_, Nat.mod_lt _ (by decide)⟩
        omega
    simp only [hYs, hhs, hLs, hls, hU, hL]
    clear hYs hhs hLs hls hU hL hlo2
    generalize hYd : y * 2 ^ s = Y at hY1 hY2 hUlt ⊢
    replace hYd : Hid1 (y * 2 ^ s = Y) := hYd
    generalize hNd : (18446744073709551616 * hi + lo) * 2 ^ s = N at hUL
    replace hNd : Hid1 ((18446744073709551616 * hi + lo) * 2 ^ s = N) := hNd
    have d1e : shrI .u64 (Y : Int) 32 = ((Y / 4294967296 : Nat) : Int) := shr_nat Y 32 (by decide)
    have w1e : shrI .u64 (L : Int) 32 = ((L / 4294967296 : Nat) : Int) := shr_nat L 32 (by decide)
    have d0e : bitsI .and .u64 (Y : Int) 4294967295 = ((Y % 4294967296 : Nat) : Int) := by rw [and32 (by unfold Wd; omega)]; omega
    have w0e : bitsI .and .u64 (L : Int) 4294967295 = ((L % 4294967296 : Nat) : Int) := by rw [and32 (by unfold Wd; omega)]; omega
    simp only [d1e, w1e, d0e, w0e]
    clear d1e w1e d0e w0e
    have hYdm : 4294967296 * (Y / 4294967296) + Y % 4294967296 = Y := by omega
    have hd1 : Y / 4294967296 < 4294967296 := by omega
    have hd1' : 2147483648 ≤ Y / 4294967296 := by omega
    have hd0 : Y % 4294967296 < 4294967296 := by omega
    have hw1 : L / 4294967296 < 4294967296 := by omega
    have hw0 : L % 4294967296 < 4294967296 := by omega
    generalize hd1g : Y / 4294967296 = d1 at *
    generalize hd0g : Y % 4294967296 = d0 at *
    have hLdm : L = 4294967296 * (L / 4294967296) + L % 4294967296 := by omega
    generalize hw1g : L / 4294967296 = w1 at *
    generalize hw0g : L % 4294967296 = w0 at *
    have hd1n : ((d1 : Int) == 0) = false := by simp; omega
    -- a first guess
    have guess : ∀ u w : Nat, u < Y → w < 4294967296 → IntKind.u64.wrap ((u : Int).tdiv (d1 : Int)) = ((u / d1 : Nat) : Int) ∧ IntKind.u64.wrap ((u : Int) - IntKind.u64.wrap (((u / d1 : Nat) : Int) * (d1 : Int))) = ((u % d1 : Nat) : Int) ∧
        u / d1 ≤ 18446744073709551615 ∧ u / d1 * d1 + u % d1 = u ∧ u % d1 < 4294967296 ∧ (4294967296 * u + w) / (4294967296 * d1 + d0) ≤ u / d1 := by
      intro u w hu hw
      have e1 : (u : Int).tdiv (d1 : Int) = ((u / d1 : Nat) : Int) := by
        rw [Int.tdiv_eq_ediv_of_nonneg (Int.natCast_nonneg u)]; exact (Int.natCast_ediv u d1).symm
      have hle := Nat.div_le_self u d1
      have hdm : u / d1 * d1 + u % d1 = u := by rw [Nat.mul_comm]; exact Nat.div_add_mod u d1
      have hml := Nat.mod_lt u (show 0 < d1 by omega)
      refine ⟨by rw [e1]; generalize u / d1 = k at *; rw [u64w]; omega, ?_, by omega, hdm, by omega, ?_⟩
      · rw [← Int.natCast_mul]
        generalize u / d1 * d1 = p at *
        generalize u % d1 = m at *
        rw [u64w, u64w]; omega
      · have hA : (4294967296 * u + w) / (4294967296 * d1 + d0) ≤ (4294967296 * u + w) / (4294967296 * d1) := Nat.div_le_div_left (Nat.le_add_right _ _) (by omega)
        have hB : (4294967296 * u + w) / (4294967296 * d1) = u / d1 := by
          rw [← Nat.div_div_eq_div_mul, show (4294967296 * u + w) / 4294967296 = u by omega]
        rw [hB] at hA
        exact hA
    obtain ⟨a1, a2, a3, a4, a5, a6⟩ := guess U w1 hUlt hw1
    simp only [a1, a2]
    obtain ⟨q1, r1, b1, b2, b3⟩ := dig0_run hd1 hd1' hd0 hw1 (by rw [hYdm]; exact hUlt) ((Y : Nat) : Int) 0 0 (s : Int) ((U : Nat) : Int) ((w0 : Nat) : Int) (false, false, false) 18446744073709551615 (U / d1) (U % d1) a3 a3 a4 a5 a6
    rw [hYdm] at b2
    have L0 : bits_Div64_L0_r ((Y : Int), 0, 0, (s : Int), (d1 : Int), (d0 : Int), (U : Int), (w1 : Int), (w0 : Int), false, false, false) (((U / d1 : Nat) : Int), ((U % d1 : Nat) : Int)) = some ((q1 : Int), (r1 : Int)) := b1
    have L0ok : bits_Div64_L0_ok ((Y : Int), 0, 0, (s : Int), (d1 : Int), (d0 : Int), (U : Int), (w1 : Int), (w0 : Int), false, false, false) (((U / d1 : Nat) : Int), ((U % d1 : Nat) : Int)) = true := by unfold bits_Div64_L0_ok; rw [L0]; rfl
    have L0v : bits_Div64_L0_v ((Y : Int), 0, 0, (s : Int), (d1 : Int), (d0 : Int), (U : Int), (w1 : Int), (w0 : Int), false, false, false) (((U / d1 : Nat) : Int), ((U % d1 : Nat) : Int)) = ((q1 : Int), (r1 : Int)) := by unfold bits_Div64_L0_v; rw [L0]; rfl
    simp only [L0ok, L0v]
    have hYp : 0 < Y := by omega
    -- what is left
    have hV : ((4294967296 * U + w1) % Y) < Y := Nat.mod_lt _ hYp
    have hVe : (4294967296 * U + w1) = q1 * Y + (4294967296 * U + w1) % Y := by
      rw [b2, Nat.mul_comm _ Y]; exact (Nat.div_add_mod _ _).symm
    have hVw : IntKind.u64.wrap (IntKind.u64.wrap (IntKind.u64.wrap ((U : Int) * 4294967296) + (w1 : Int)) - IntKind.u64.wrap ((q1 : Int) * (Y : Int))) = (((4294967296 * U + w1) % Y : Nat) : Int) := by
      rw [← Int.natCast_mul]
      generalize q1 * Y = p at *
      generalize (4294967296 * U + w1) % Y = V at *
      rw [u64w, u64w, u64w, u64w]
      omega
    simp only [hVw]
    generalize hVg : (4294967296 * U + w1) % Y = V at *
    obtain ⟨c1, c2, c3, c4, c5, c6⟩ := guess V w0 hV hw0
    simp only [c1, c2]
    obtain ⟨q0, r0, e1, e2, e3⟩ := dig1_run hd1 hd1' hd0 hw0 (by rw [hYdm]; exact hV) ((Y : Nat) : Int) 0 0 (s : Int) ((q1 : Nat) : Int) ((V : Nat) : Int) (false, false, false) 18446744073709551615 (V / d1) (V % d1) c3 c3 c4 c5 c6
    rw [hYdm] at e2
    have L1 : bits_Div64_L1_r ((Y : Int), 0, 0, (s : Int), (d1 : Int), (d0 : Int), (w0 : Int), (q1 : Int), (V : Int), false, false, false) (((V % d1 : Nat) : Int), ((V / d1 : Nat) : Int)) = some ((r0 : Int), (q0 : Int)) := e1
    have L1ok : bits_Div64_L1_ok ((Y : Int), 0, 0, (s : Int), (d1 : Int), (d0 : Int), (w0 : Int), (q1 : Int), (V : Int), false, false, false) (((V % d1 : Nat) : Int), ((V / d1 : Nat) : Int)) = true := by unfold bits_Div64_L1_ok; rw [L1]; rfl
    have L1v : bits_Div64_L1_v ((Y : Int), 0, 0, (s : Int), (d1 : Int), (d0 : Int), (w0 : Int), (q1 : Int), (V : Int), false, false, false) (((V % d1 : Nat) : Int), ((V / d1 : Nat) : Int)) = ((r0 : Int), (q0 : Int)) := by unfold bits_Div64_L1_v; rw [L1]; rfl
    simp only [L1ok, L1v, hd1n, Bool.not_false, Bool.true_and, true_and]
    have hN : 18446744073709551616 * U + 4294967296 * w1 + w0 = (18446744073709551616 * hi + lo) * 2 ^ s := by
      have hNd : (18446744073709551616 * hi + lo) * 2 ^ s = N := hNd
      rw [hNd, ← hUL]
      clear hNd
      omega
    obtain ⟨t1, t2⟩ := two_digits (U := U) (w1 := w1) hYp hw0
    rw [hVg] at t1 t2
    have hYd : y * 2 ^ s = Y := hYd
    rw [hN, ← hYd, Nat.mul_div_mul_right _ _ (Nat.two_pow_pos s)] at t1
    rw [hN, ← hYd, Nat.mul_mod_mul_right] at t2
    rw [hYd] at t1 t2
    clear hYd hN
    have hq1 : q1 < 4294967296 := by
      rw [b2]; refine (Nat.div_lt_iff_lt_mul hYp).2 ?_; omega
    have hq0 : q0 < 4294967296 := by
      rw [e2]; refine (Nat.div_lt_iff_lt_mul hYp).2 ?_; omega
    have hWe : 4294967296 * V + w0 = q0 * Y + (4294967296 * V + w0) % Y := by
      rw [e2, Nat.mul_comm _ Y]; exact (Nat.div_add_mod _ _).symm
    have hWl : (4294967296 * V + w0) % Y < Y := Nat.mod_lt _ hYp
    refine Prod.ext ?_ ?_
    · show IntKind.u64.wrap (IntKind.u64.wrap ((q1 : Int) * 4294967296) + (q0 : Int)) = _
      rw [t1, ← b2, ← e2, u64w, u64w]
      omega
    · show shrI .u64 (IntKind.u64.wrap (IntKind.u64.wrap (IntKind.u64.wrap ((V : Int) * 4294967296) + (w0 : Int)) - IntKind.u64.wrap ((q0 : Int) * (Y : Int)))) (s : Int) = _
      have : IntKind.u64.wrap (IntKind.u64.wrap (IntKind.u64.wrap ((V : Int) * 4294967296) + (w0 : Int)) - IntKind.u64.wrap ((q0 : Int) * (Y : Int))) = (((4294967296 * V + w0) % Y : Nat) : Int) := by
        rw [← Int.natCast_mul]
        generalize q0 * Y = p at *
        generalize (4294967296 * V + w0) % Y = W at *
        rw [u64w, u64w, u64w, u64w]
        omega
      rw [this, shr_nat _ _ (by omega), ← t2, Nat.mul_div_cancel _ (Nat.two_pow_pos s)]
end Go.Fb
namespace Go.Fb
open Go.Ev
theorem lenIs_zero : LenIs 0 0 := ⟨by decide, .inl rfl⟩
theorem udiv_spec {a : U2} (ha : W2 a) {b : Int} (hb : Wd b) (hb0 : 0 < b.toNat) : u2_Div_s a b = true ∧ W2 (u2_Div a b).1 ∧ n2 (u2_Div a b).1 = n2 a / b.toNat ∧ Wd (u2_Div a b).2 ∧ (u2_Div a b).2.toNat = n2 a % b.toNat := by
  obtain ⟨ahi, alo⟩ := a
  obtain ⟨⟨h1, h2⟩, h3, h4⟩ := ha
  simp only at h1 h2 h3 h4
  obtain ⟨hi, rfl⟩ := Int.eq_ofNat_of_zero_le h1
  obtain ⟨lo, rfl⟩ := Int.eq_ofNat_of_zero_le h3
  obtain ⟨y, rfl⟩ := Int.eq_ofNat_of_zero_le hb.1
  have hy := hb.2
  simp only [Int.toNat_natCast] at hb0 ⊢
  obtain ⟨d1, d2⟩ := div64_spec (hi := 0) (lo := hi) (y := y) (by omega) (by omega) hb0
  simp only [Nat.mul_zero, Nat.zero_add, Int.natCast_zero] at d1 d2
  have hm := Nat.mod_lt hi hb0
  obtain ⟨e1, e2⟩ := div64_spec (hi := hi % y) (lo := lo) (y := y) (by omega) (by omega) hm
  have hyb : ((y : Int) == 0) = false := by simp; omega
  simp only [u2_Div, u2_Div_s, u2_Div_t, u2_Div_T, Tr.val, Tr.safe, d1, d2, e1, e2, hyb, cond_false, Bool.true_and, n2, Int.toNat_natCast, true_and]
  have hq1 : hi / y < 18446744073709551616 := Nat.lt_of_le_of_lt (Nat.div_le_self _ _) (by omega)
  have hq0 : (18446744073709551616 * (hi % y) + lo) / y < 18446744073709551616 := by
    rw [Nat.div_lt_iff_lt_mul hb0]
    omega
  have hsum : lo + 18446744073709551616 * hi = (18446744073709551616 * (hi % y) + lo) + y * (18446744073709551616 * (hi / y)) := by
    have := Nat.div_add_mod hi y
    rw [Nat.mul_left_comm]
    omega
  have hr : (18446744073709551616 * (hi % y) + lo) % y < y := Nat.mod_lt _ hb0
  refine ⟨⟨⟨?_, ?_⟩, ?_, ?_⟩, ?_, ⟨?_, ?_⟩, ?_⟩
  · exact Int.natCast_nonneg _
  · show ((hi / y : Nat) : Int) < _
    generalize hi / y = k at *; omega
  · exact Int.natCast_nonneg _
  · show (((18446744073709551616 * (hi % y) + lo) / y : Nat) : Int) < _
    generalize (18446744073709551616 * (hi % y) + lo) / y = k at *; omega
  · rw [hsum, Nat.add_mul_div_left _ _ hb0]
  · exact Int.natCast_nonneg _
  · show (((18446744073709551616 * (hi % y) + lo) % y : Nat) : Int) < _
    generalize (18446744073709551616 * (hi % y) + lo) % y = k at *; omega
  · rw [hsum, Nat.add_mul_mod_self_left]
end Go.Fb
namespace Go.Fb
open Go.Ev
end Go.Fb
namespace Go.Fb
open Go.Ev
def row2 (r : List Cv) : U2 := ⟨(r.headD (.i 0)).int, (r.tail.headD (.i 0)).int⟩
def ok2 (l : List (List Cv)) : Prop := ∀ r ∈ l, W2 (row2 r)
end Go.Fb
namespace Go.Fb
open Go.Ev
end Go.Fb
namespace Go.Fb
open Go.Ev
end Go.Fb
