/- Contracts and laws of functions of the program, on the way to the claim. Conditions: as each theorem states. -/
import Derived.Test.YtgaapeaclbpaeaaW1g
namespace Go.Fb
open Go.Ev

/-! ### Products of words -/
theorem u64_wd (n : Int) : Wd (IntKind.u64.wrap n) := by rw [u64w]; unfold Wd; omega
theorem shr32 {z : Int} (_h : 0 ≤ z) : shrI .u64 z 32 = z / 4294967296 := by
  have e : shrI .u64 z 32 = z.fdiv 4294967296 := rfl
  rw [e, Int.fdiv_eq_ediv_of_nonneg _ (by decide)]
theorem and32 {z : Int} (h : Wd z) : bitsI .and .u64 z 4294967295 = z % 4294967296 := by
  obtain ⟨k, rfl⟩ := Int.eq_ofNat_of_zero_le h.1
  have hk : k < 18446744073709551616 := by have := h.2; omega
  have e := bits_and (x := k) (y := 4294967295) hk (by decide)
  have e2 : k &&& 4294967295 = k % 4294967296 := Nat.and_two_pow_sub_one_eq_mod k 32
  rw [show ((4294967295 : Nat) : Int) = 4294967295 from rfl] at e
  rw [e, e2]
  omega
theorem mul4 (a b c d : Int) : a * b * (c * d) = a * c * (b * d) := by rw [Int.mul_assoc, Int.mul_left_comm b c d, ← Int.mul_assoc]
theorem prod_bd {x y B : Int} (hx : 0 ≤ x ∧ x ≤ B) (hy : 0 ≤ y ∧ y ≤ B) : 0 ≤ x * y ∧ x * y ≤ B * B :=
  ⟨Int.mul_nonneg hx.1 hy.1, Int.mul_le_mul hx.2 hy.2 hy.1 (by omega)⟩
theorem mul64 {x y : Int} (hx : Wd x) (hy : Wd y) : bits_Mul64 x y = (x * y / 18446744073709551616, x * y % 18446744073709551616) := by
  have e0 : bits_Mul64 x y = (bits_Mul64_t x y).val := rfl
  rw [e0]
  simp only [bits_Mul64_t, bits_Mul64_T, Tr.val]
  rw [shr32 hx.1, shr32 hy.1, and32 hx, and32 hy]
  unfold Wd at hx hy
  have dx : x = 4294967296 * (x / 4294967296) + x % 4294967296 := by omega
  have dy : y = 4294967296 * (y / 4294967296) + y % 4294967296 := by omega
  have bx1 : 0 ≤ x / 4294967296 ∧ x / 4294967296 ≤ 4294967295 := by omega
  have bx0 : 0 ≤ x % 4294967296 ∧ x % 4294967296 ≤ 4294967295 := by omega
  have by1 : 0 ≤ y / 4294967296 ∧ y / 4294967296 ≤ 4294967295 := by omega
  have by0 : 0 ≤ y % 4294967296 ∧ y % 4294967296 ≤ 4294967295 := by omega
  have exy : x * y = 18446744073709551616 * (x / 4294967296 * (y / 4294967296)) + 4294967296 * (x / 4294967296 * (y % 4294967296)) + 4294967296 * (x % 4294967296 * (y / 4294967296)) + x % 4294967296 * (y % 4294967296) := by
    generalize x / 4294967296 = x1 at *
    generalize x % 4294967296 = x0 at *
    generalize y / 4294967296 = y1 at *
    generalize y % 4294967296 = y0 at *
    subst dx dy
    rw [Int.add_mul, Int.mul_add, Int.mul_add, mul4, Int.mul_assoc 4294967296 x1 y0, Int.mul_left_comm x0 4294967296 y1]
    omega
  have p11 := prod_bd bx1 by1
  have p10 := prod_bd bx1 by0
  have p01 := prod_bd bx0 by1
  have p00 := prod_bd bx0 by0
  rw [exy]
  generalize x / 4294967296 * (y / 4294967296) = a at *
  generalize x / 4294967296 * (y % 4294967296) = b at *
  generalize x % 4294967296 * (y / 4294967296) = c at *
  generalize x % 4294967296 * (y % 4294967296) = d at *
  rw [u64i (n := a) (by omega) (by omega), u64i (n := b) (by omega) (by omega), u64i (n := c) (by omega) (by omega), u64i (n := d) (by omega) (by omega), shr32 (z := d) (by omega),
    u64i (n := b + d / 4294967296) (by omega) (by omega), shr32 (z := b + d / 4294967296) (by omega), and32 (z := b + d / 4294967296) (by unfold Wd; omega),
    u64i (n := (b + d / 4294967296) % 4294967296 + c) (by omega) (by omega), shr32 (z := (b + d / 4294967296) % 4294967296 + c) (by omega),
    u64i (n := a + (b + d / 4294967296) / 4294967296) (by omega) (by omega), u64i (n := a + (b + d / 4294967296) / 4294967296 + ((b + d / 4294967296) % 4294967296 + c) / 4294967296) (by omega) (by omega), u64w]
  refine Prod.ext ?_ rfl
  simp only
  omega

/-! ### Numbers of two and of three words -/
def W2 (a : U2) : Prop := Wd a.hi ∧ Wd a.lo
def W3 (a : U3) : Prop := Wd a.hi ∧ Wd a.mid ∧ Wd a.lo
def n2 (a : U2) : Nat := a.lo.toNat + 18446744073709551616 * a.hi.toNat
def n3 (a : U3) : Nat := a.lo.toNat + 18446744073709551616 * (a.mid.toNat + 18446744073709551616 * a.hi.toNat)
theorem works1 : l1_works = true := by kernel_rfl
theorem of_spec {a : U2} (h : W2 a) : l1_of_s a = true ∧ (l1_of a).length = 128 ∧ bv (l1_of a) = n2 a := by
  obtain ⟨h1, h2, h3⟩ := of2_spec h.2 h.1
  simp only [l1_of, l1_of_s, l1_of_t, l1_of_T, Tr.val, Tr.safe, h1]
  exact ⟨rfl, h2, h3⟩
theorem ofT_spec {a : U3} (h : W3 a) : l1_of3_s a = true ∧ (l1_of3 a).length = 192 ∧ bv (l1_of3 a) = n3 a := by
  obtain ⟨h1, h2, h3⟩ := of3_spec h.2.2 h.2.1 h.1
  simp only [l1_of3, l1_of3_s, l1_of3_t, l1_of3_T, Tr.val, Tr.safe, h1]
  exact ⟨rfl, h2, h3⟩
theorem cmp0 (x y : Nat) : (cmpN x y == 0) = decide (x = y) := by
  unfold cmpN
  by_cases h : x = y
  · subst h; simp
  · rw [decide_eq_false h]
    split
    · rfl
    · rfl
theorem is_spec {a : U2} {b : List Bool} (h : W2 a) (hb : b.length ≤ 900000) : l1_is a b = decide (n2 a = bv b) ∧ l1_is_s a b = true := by
  obtain ⟨h1, h2, h3⟩ := of_spec h
  obtain ⟨k1, k2⟩ := cmp_spec (a := l1_of a) (b := b) (by omega) hb
  simp only [l1_is, l1_is_s, l1_is_t, l1_is_T, Tr.val, Tr.safe, h1, k1, k2, h3, cmp0]
  exact ⟨trivial, rfl⟩
theorem is3_spec {a : U3} {b : List Bool} (h : W3 a) (hb : b.length ≤ 900000) : l1_is3 a b = decide (n3 a = bv b) ∧ l1_is3_s a b = true := by
  obtain ⟨h1, h2, h3⟩ := ofT_spec h
  obtain ⟨k1, k2⟩ := cmp_spec (a := l1_of3 a) (b := b) (by omega) hb
  simp only [l1_is3, l1_is3_s, l1_is3_t, l1_is3_T, Tr.val, Tr.safe, h1, k1, k2, h3, cmp0]
  exact ⟨trivial, rfl⟩
theorem wmul {x y : Int} (hx : Wd x) (hy : Wd y) : wide_Mul x y = ⟨x * y / 18446744073709551616, x * y % 18446744073709551616⟩ := by
  have e : wide_Mul x y = ⟨(bits_Mul64 x y).1, (bits_Mul64 x y).2⟩ := rfl
  rw [e, mul64 hx hy]
theorem wmul_spec {x y : Int} (hx : Wd x) (hy : Wd y) : W2 (wide_Mul x y) ∧ n2 (wide_Mul x y) = x.toNat * y.toNat := by
  rw [wmul hx hy]
  obtain ⟨k, rfl⟩ := Int.eq_ofNat_of_zero_le hx.1
  obtain ⟨n, rfl⟩ := Int.eq_ofNat_of_zero_le hy.1
  unfold Wd at hx hy
  have hb := prod_bd (x := (k : Int)) (y := (n : Int)) (B := 18446744073709551615) (by omega) (by omega)
  have e : (k : Int) * (n : Int) = ((k * n : Nat) : Int) := by simp
  unfold W2 Wd n2
  rw [e] at hb ⊢
  simp only [Int.toNat_natCast]
  generalize k * n = p at *
  refine ⟨⟨?_, ?_⟩, ?_⟩ <;> (try simp only) <;> omega
theorem add64 {x y : Int} (hx : Wd x) (hy : Wd y) : bits_Add64 x y 0 = ((x + y) % 18446744073709551616, (x + y) / 18446744073709551616) ∧ bits_Add64_s x y 0 = true := by
  unfold Wd at hx hy
  refine ⟨?_, rfl⟩
  unfold bits_Add64
  refine Prod.ext ?_ ?_ <;> simp only <;> omega
theorem umul_spec {a : U2} {b : Int} (ha : W2 a) (hb : Wd b) : W3 (u2_Mul a b) ∧ n3 (u2_Mul a b) = n2 a * b.toNat ∧ u2_Mul_s a b = true := by
  obtain ⟨ahi, alo⟩ := a
  obtain ⟨h1, h2⟩ := ha
  simp only at h1 h2
  have m1 := wmul h2 hb
  have m2 := wmul h1 hb
  have d1 : 0 ≤ alo * b ∧ alo * b ≤ 18446744073709551615 * 18446744073709551615 := prod_bd (by unfold Wd at h2; omega) (by unfold Wd at hb; omega)
  have d2 : 0 ≤ ahi * b ∧ ahi * b ≤ 18446744073709551615 * 18446744073709551615 := prod_bd (by unfold Wd at h1; omega) (by unfold Wd at hb; omega)
  have w1 : Wd (alo * b / 18446744073709551616) := by unfold Wd; omega
  have w2 : Wd (ahi * b % 18446744073709551616) := by unfold Wd; omega
  obtain ⟨s1, s2⟩ := add64 w1 w2
  simp only [u2_Mul, u2_Mul_s, u2_Mul_t, u2_Mul_T, Tr.val, Tr.safe, m1, m2, s1, s2]
  have e1 : alo.toNat * b.toNat = (alo * b).toNat := (Int.toNat_mul h2.1 hb.1).symm
  have e2 : ahi.toNat * b.toNat = (ahi * b).toNat := (Int.toNat_mul h1.1 hb.1).symm
  unfold W3 Wd n3 n2
  simp only
  rw [Nat.add_mul, Nat.mul_assoc, e1, e2]
  generalize alo * b = p at *
  generalize ahi * b = q at *
  rw [u64i (by omega) (by omega)]
  refine ⟨⟨?_, ?_, ?_⟩, ?_, rfl⟩ <;> omega
theorem WideMuls_both {a : U2} {b : Int} (ha : W2 a) (hb : Wd b) : l1_WideMuls a b = true ∧ l1_WideMuls_s a b = true := by
  obtain ⟨o1, o2, o3⟩ := of1_spec ha.2
  obtain ⟨q1, q2, q3⟩ := of1_spec hb
  obtain ⟨f1, f2, f3⟩ := of_spec ha
  obtain ⟨m1, m2, m3⟩ := mul_spec (a := r1_Of1 a.lo) (b := r1_Of1 b) (by omega)
  obtain ⟨k1, k2, k3⟩ := mul_spec (a := l1_of a) (b := r1_Of1 b) (by omega)
  obtain ⟨w1, w2⟩ := wmul_spec ha.2 hb
  obtain ⟨u1, u2, u3⟩ := umul_spec ha hb
  obtain ⟨i1, i2⟩ := is_spec (b := r1_Mul (r1_Of1 a.lo) (r1_Of1 b)) w1 (by omega)
  obtain ⟨j1, j2⟩ := is3_spec (b := r1_Mul (l1_of a) (r1_Of1 b)) u1 (by omega)
  rw [w2, m2, o3, q3, decide_eq_true rfl] at i1
  rw [u2, k2, f3, q3, decide_eq_true rfl] at j1
  simp only [l1_WideMuls, l1_WideMuls_s, l1_WideMuls_t, l1_WideMuls_T, Tr.val, Tr.safe, works1, o1, q1, f1, m1, k1, i1, i2, j1, j2, u3]
  exact ⟨rfl, rfl⟩
end Go.Fb
