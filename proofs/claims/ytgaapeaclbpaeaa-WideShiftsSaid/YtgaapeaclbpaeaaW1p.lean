/- Contracts and laws of functions of the program, on the way to the claim. Conditions: as each theorem states. -/
import Derived.Test.YtgaapeaclbpaeaaW1o
namespace Go.Fb
open Go.Ev

/-! ### Numbers of three words -/
theorem n3_lt {a : U3} (ha : W3 a) : n3 a < 6277101735386680763835789423207666416102355444464034512896 := by
  obtain ⟨h1, h2, h3⟩ := ha
  unfold Wd n3 at *
  omega
theorem n3_inj {a b : U3} (ha : W3 a) (hb : W3 b) (h : n3 a = n3 b) : a = b := by
  obtain ⟨a1, a2, a3⟩ := a
  obtain ⟨b1, b2, b3⟩ := b
  obtain ⟨h1, h2, h3⟩ := ha
  obtain ⟨h4, h5, h6⟩ := hb
  unfold Wd n3 at *
  simp only at *
  rw [U3.mk.injEq]
  omega
theorem carry3 {a1 a2 a3 b1 b2 b3 m1 m2 m3 k1 k2 k3 : Nat} (d1 : 18446744073709551616 * k1 + m1 = a3 + b3) (d2 : 18446744073709551616 * k2 + m2 = a2 + b2 + k1) (d3 : 18446744073709551616 * k3 + m3 = a1 + b1 + k2) :
    a3 + 18446744073709551616 * (a2 + 18446744073709551616 * a1) + (b3 + 18446744073709551616 * (b2 + 18446744073709551616 * b1)) = m1 + 18446744073709551616 * (m2 + 18446744073709551616 * m3) + 6277101735386680763835789423207666416102355444464034512896 * k3 := by omega
theorem nat_carry {a b c m k : Int} (h : 18446744073709551616 * k + m = a + b + c) (ha : 0 ≤ a) (hb : 0 ≤ b) (hc : 0 ≤ c) (hm : 0 ≤ m) (hk : 0 ≤ k) : 18446744073709551616 * k.toNat + m.toNat = a.toNat + b.toNat + c.toNat := by omega
theorem tadd_spec {a b : U3} (ha : W3 a) (hb : W3 b) : u3_Add_s a b = true ∧ W3 (u3_Add a b).1 ∧ n3 (u3_Add a b).1 = (n3 a + n3 b) % 6277101735386680763835789423207666416102355444464034512896 ∧ (u3_Add a b).2 = (((n3 a + n3 b) / 6277101735386680763835789423207666416102355444464034512896 : Nat) : Int) := by
  obtain ⟨ahi, amid, alo⟩ := a
  obtain ⟨bhi, bmid, blo⟩ := b
  obtain ⟨a1, a2, a3⟩ := ha
  obtain ⟨b1, b2, b3⟩ := hb
  simp only at a1 a2 a3 b1 b2 b3
  have c0 : ∀ {x y c : Int}, Wd x → Wd y → (c = 0 ∨ c = 1) → ((x + y + c) / 18446744073709551616 = 0 ∨ (x + y + c) / 18446744073709551616 = 1) := fun hx hy hc => by unfold Wd at *; omega
  obtain ⟨e1, s1⟩ := addc (c := 0) a3 b3 (.inl rfl)
  have h1 := c0 a3 b3 (.inl rfl)
  obtain ⟨e2, s2⟩ := addc a2 b2 h1
  have h2 := c0 a2 b2 h1
  obtain ⟨e3, s3⟩ := addc a1 b1 h2
  simp only [u3_Add, u3_Add_s, u3_Add_t, u3_Add_T, Tr.val, Tr.safe, e1, s1, e2, s2, e3, s3]
  have d1 := Int.mul_ediv_add_emod (alo + blo + 0) 18446744073709551616
  have r1 := Int.emod_lt_of_pos (alo + blo + 0) (b := 18446744073709551616) (by decide)
  have p1 := Int.emod_nonneg (alo + blo + 0) (b := 18446744073709551616) (by decide)
  generalize (alo + blo + 0) / 18446744073709551616 = k1 at *
  generalize (alo + blo + 0) % 18446744073709551616 = m1 at *
  have d2 := Int.mul_ediv_add_emod (amid + bmid + k1) 18446744073709551616
  have r2 := Int.emod_lt_of_pos (amid + bmid + k1) (b := 18446744073709551616) (by decide)
  have p2 := Int.emod_nonneg (amid + bmid + k1) (b := 18446744073709551616) (by decide)
  generalize (amid + bmid + k1) / 18446744073709551616 = k2 at *
  generalize (amid + bmid + k1) % 18446744073709551616 = m2 at *
  have h3 := c0 a1 b1 h2
  have d3 := Int.mul_ediv_add_emod (ahi + bhi + k2) 18446744073709551616
  have r3 := Int.emod_lt_of_pos (ahi + bhi + k2) (b := 18446744073709551616) (by decide)
  have p3 := Int.emod_nonneg (ahi + bhi + k2) (b := 18446744073709551616) (by decide)
  generalize (ahi + bhi + k2) / 18446744073709551616 = k3 at *
  generalize (ahi + bhi + k2) % 18446744073709551616 = m3 at *
  have q1 := nat_carry d1 a3.1 b3.1 (Int.le_refl 0) p1 (by omega)
  have q2 := nat_carry d2 a2.1 b2.1 (by omega) p2 (by omega)
  have q3 := nat_carry d3 a1.1 b1.1 (by omega) p3 (by omega)
  have key : n3 ⟨ahi, amid, alo⟩ + n3 ⟨bhi, bmid, blo⟩ = n3 ⟨m3, m2, m1⟩ + 6277101735386680763835789423207666416102355444464034512896 * k3.toNat := carry3 (by simpa using q1) q2 q3
  have hm : W3 ⟨m3, m2, m1⟩ := ⟨⟨p3, r3⟩, ⟨p2, r2⟩, ⟨p1, r1⟩⟩
  have hlt := n3_lt hm
  refine ⟨rfl, hm, ?_, ?_⟩
  · rw [key, Nat.add_mul_mod_self_left, Nat.mod_eq_of_lt hlt]
  · rw [key, Nat.add_mul_div_left _ _ (by decide), Nat.div_eq_of_lt hlt]
    omega
theorem tcmp_spec {a b : U3} (ha : W3 a) (hb : W3 b) : u3_Cmp a b = cmpN (n3 a) (n3 b) := by
  have e : u3_Cmp a b = wide_order3 ((a.hi, b.hi), (a.mid, b.mid), a.lo, b.lo) := rfl
  rw [e]
  simp only [wide_order3, wide_order3_t, wide_order3_T, Tr.val, Bool.cond_decide]
  obtain ⟨h1, h2, h3⟩ := ha
  obtain ⟨h4, h5, h6⟩ := hb
  unfold Wd at *
  unfold cmpN n3
  (repeat' split) <;> omega
theorem tlen_spec {a : U3} (ha : W3 a) : ∃ l : Nat, u3_Len a = (l : Int) ∧ LenIs (n3 a) l := by
  obtain ⟨ahi, amid, alo⟩ := a
  obtain ⟨h1, h2, h3⟩ := ha
  simp only at h1 h2 h3
  have ht : W2 ⟨ahi, amid⟩ := ⟨h1, h2⟩
  obtain ⟨l, e, hl⟩ := ulen_spec ht
  have hlt := n2_lt ht
  obtain ⟨lo, rfl⟩ := Int.eq_ofNat_of_zero_le h3.1
  have b3 := h3.2
  have en : n3 ⟨ahi, amid, (lo : Int)⟩ = lo + 18446744073709551616 * n2 ⟨ahi, amid⟩ := rfl
  have e0 : u3_top ⟨ahi, amid, (lo : Int)⟩ = ⟨ahi, amid⟩ := rfl
  simp only [u3_Len, u3_Len_t, u3_Len_T, Tr.val, e0, e, en]
  by_cases hp : (l : Int) > 0
  · rw [decide_eq_true hp]
    have hpos : 0 < n2 ⟨ahi, amid⟩ := by
      rcases hl.2 with h | h
      · omega
      · have : 0 < 2 ^ (l - 1) := Nat.pow_pos (by decide)
        omega
    have hll : l ≤ 128 := by
      rcases Nat.lt_or_ge 128 l with h | h
      · rcases hl.2 with h' | h'
        · omega
        · have : 2 ^ 128 ≤ 2 ^ (l - 1) := Nat.pow_le_pow_right (by decide) (by omega)
          omega
      · exact h
    have hd : (lo + 18446744073709551616 * n2 ⟨ahi, amid⟩) / 2 ^ 64 = n2 ⟨ahi, amid⟩ := by omega
    refine ⟨64 + l, ?_, LenIs.shift (by rw [hd]; exact hpos) (by rw [hd]; exact hl)⟩
    simp only [cond_true]
    rw [w64 (by omega) (by omega)]
    omega
  · rw [decide_eq_false hp]
    have h0 : l = 0 := by omega
    subst h0
    have hz : n2 ⟨ahi, amid⟩ = 0 := by have := hl.1; rw [Nat.pow_zero] at this; omega
    obtain ⟨m, em, hm, _⟩ := len64_spec (k := lo) (by omega)
    refine ⟨m, em, ?_⟩
    rw [hz]
    simpa using hm
end Go.Fb
