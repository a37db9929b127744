/- Contracts and laws of functions of the program, on the way to the claim. Conditions: as each theorem states. -/
import Derived.Test.YtgaapeaclbpaeaaW1p
namespace Go.Fb
open Go.Ev

theorem borrow3 {a1 a2 a3 b1 b2 b3 m1 m2 m3 w1 w2 w3 : Nat} (d1 : m1 + b3 = a3 + 18446744073709551616 * w1) (d2 : m2 + b2 + w1 = a2 + 18446744073709551616 * w2) (d3 : m3 + b1 + w2 = a1 + 18446744073709551616 * w3) :
    m1 + 18446744073709551616 * (m2 + 18446744073709551616 * m3) + (b3 + 18446744073709551616 * (b2 + 18446744073709551616 * b1)) = a3 + 18446744073709551616 * (a2 + 18446744073709551616 * a1) + 6277101735386680763835789423207666416102355444464034512896 * w3 := by omega
/-- a difference of words and what is borrowed -/
theorem sub64n {x y c : Int} (hx : Wd x) (hy : Wd y) (hc : c = 0 ∨ c = 1) : ∃ m w : Nat, bits_Sub64 x y c = ((m : Int), (w : Int)) ∧ bits_Sub64_s x y c = true ∧ m < 18446744073709551616 ∧ ((w : Int) = 0 ∨ (w : Int) = 1) ∧ m + y.toNat + c.toNat = x.toNat + 18446744073709551616 * w := by
  obtain ⟨e, s⟩ := sub64 hx hy hc
  unfold Wd at hx hy
  by_cases h : x < y + c
  · rw [if_pos h] at e
    refine ⟨(x - y - c + 18446744073709551616).toNat, 1, ?_, s, by omega, .inr rfl, by omega⟩
    rw [e]
    refine Prod.ext ?_ rfl
    simp only; omega
  · rw [if_neg h] at e
    refine ⟨(x - y - c).toNat, 0, ?_, s, by omega, .inl rfl, by omega⟩
    rw [e]
    refine Prod.ext ?_ rfl
    simp only; omega
theorem tsub_spec {a b : U3} (ha : W3 a) (hb : W3 b) : u3_Sub_s a b = true ∧ W3 (u3_Sub a b).1 ∧ ∃ w : Nat, (u3_Sub a b).2 = (w : Int) ∧ n3 (u3_Sub a b).1 + n3 b = n3 a + 6277101735386680763835789423207666416102355444464034512896 * w := by
  obtain ⟨ahi, amid, alo⟩ := a
  obtain ⟨bhi, bmid, blo⟩ := b
  obtain ⟨a1, a2, a3⟩ := ha
  obtain ⟨b1, b2, b3⟩ := hb
  simp only at a1 a2 a3 b1 b2 b3
  obtain ⟨m1, w1, e1, s1, l1, c1, q1⟩ := sub64n (c := 0) a3 b3 (.inl rfl)
  obtain ⟨m2, w2, e2, s2, l2, c2, q2⟩ := sub64n a2 b2 c1
  obtain ⟨m3, w3, e3, s3, l3, c3, q3⟩ := sub64n a1 b1 c2
  simp only [u3_Sub, u3_Sub_s, u3_Sub_t, u3_Sub_T, Tr.val, Tr.safe, e1, s1, e2, s2, e3, s3]
  rw [Int.toNat_natCast] at q2 q3
  have q1' : m1 + blo.toNat = alo.toNat + 18446744073709551616 * w1 := by simpa using q1
  have hw : ∀ {m : Nat}, m < 18446744073709551616 → Wd (m : Int) := fun h => by unfold Wd; omega
  exact ⟨rfl, ⟨hw l3, hw l2, hw l1⟩, w3, rfl, borrow3 q1' q2 q3⟩
/-- a lesser one taken away -/
theorem tsub_le {a b : U3} (ha : W3 a) (hb : W3 b) (h : n3 b ≤ n3 a) : u3_Sub_s a b = true ∧ W3 (u3_Sub a b).1 ∧ n3 (u3_Sub a b).1 = n3 a - n3 b := by
  obtain ⟨h1, h2, w, _, h3⟩ := tsub_spec ha hb
  have l1 := n3_lt h2
  have l2 := n3_lt ha
  refine ⟨h1, h2, ?_⟩
  have : w = 0 := by
    rcases Nat.eq_zero_or_pos w with h | h
    · exact h
    · exfalso
      have : 6277101735386680763835789423207666416102355444464034512896 * 1 ≤ 6277101735386680763835789423207666416102355444464034512896 * w := Nat.mul_le_mul_left _ h
      omega
  subst this
  omega
end Go.Fb
