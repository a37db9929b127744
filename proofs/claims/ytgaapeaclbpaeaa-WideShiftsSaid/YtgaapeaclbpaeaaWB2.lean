/- Contracts and laws of functions of the program, on the way to the claim. Conditions: as each theorem states. -/
import Derived.Test.YtgaapeaclbpaeaaWB1
namespace Go.Fb
open Go.Ev
theorem of3_len {a : U3} (h : W3 a) : l1_of3_s a = true ∧ (l1_of3 a).length = 192 ∧ bv (l1_of3 a) = n3 a := ofT_spec h
theorem n2_zero {d : U2} (hd : W2 d) : (and (d.hi == 0) (and (d.lo == 0) true)) = decide (n2 d = 0) := by
  have h1 : 0 ≤ d.hi := hd.1.1
  have h3 : 0 ≤ d.lo := hd.2.1
  unfold n2
  generalize d.hi = hi at *
  generalize d.lo = lo at *
  apply Bool.eq_iff_iff.2
  simp only [Bool.and_eq_true, beq_iff_eq, decide_eq_true_eq, and_true]
  omega
theorem WideDivides_both {a : U2} {b : Int} {c : U3} {d : U2} (ha : W2 a) (hb : Wd b) (hc : W3 c) (hd : W2 d) : l1_WideDivides a b c d = true ∧ l1_WideDivides_s a b c d = true := by
  obtain ⟨o1, o2, o3⟩ := of_spec ha
  obtain ⟨p1, p2, p3⟩ := of3_len hc
  obtain ⟨q1, q2, q3⟩ := of_spec hd
  obtain ⟨b1, b2, b3⟩ := of1_spec hb
  -- the second half
  have second : n2 d ≠ 0 → u3_Div_s c d = true ∧ r1_Div_s (l1_of3 c) (l1_of d) = true ∧ l1_is3_s (u3_Div c d).1 (r1_Div (l1_of3 c) (l1_of d)).1 = true ∧ l1_is_s (u3_Div c d).2 (r1_Div (l1_of3 c) (l1_of d)).2 = true ∧
      l1_is3 (u3_Div c d).1 (r1_Div (l1_of3 c) (l1_of d)).1 = true ∧ l1_is (u3_Div c d).2 (r1_Div (l1_of3 c) (l1_of d)).2 = true := by
    intro h0
    obtain ⟨t1, t2, t3, t4, t5⟩ := tdiv_spec hc hd (by omega)
    obtain ⟨r1, r2, r3, r4, r5, _⟩ := rdiv_spec (a := l1_of3 c) (b := l1_of d) (by omega) (by omega) (by omega)
    obtain ⟨i1, i2⟩ := is3_spec (b := (r1_Div (l1_of3 c) (l1_of d)).1) t2 (by omega)
    obtain ⟨j1, j2⟩ := is_spec (b := (r1_Div (l1_of3 c) (l1_of d)).2) t4 (by omega)
    refine ⟨t1, r1, i2, j2, ?_, ?_⟩
    · rw [i1, t3, r3, p3, q3]; simp
    · rw [j1, t5, r5, p3, q3]; simp
  have hz := n2_zero hd
  have hzero : n2 d = 0 → u3_Div c d = (⟨0, 0, 0⟩, ⟨0, 0⟩) ∧ u3_Div_s c d = true := by
    intro h0
    have hz' : (and (d.hi == 0) (and (d.lo == 0) true)) = true := by rw [hz, h0]; rfl
    simp only [u3_Div, u3_Div_s, u3_Div_t, u3_Div_T, Tr.val, Tr.safe, hz', cond_true, and_self]
  by_cases hb0 : b = 0
  · subst hb0
    have e1 : u2_Div a 0 = (⟨0, 0⟩, 0) := rfl
    have e2 : u2_Div_s a 0 = true := rfl
    by_cases hd0 : n2 d = 0
    · obtain ⟨z1, z2⟩ := hzero hd0
      simp only [l1_WideDivides, l1_WideDivides_s, l1_WideDivides_t, l1_WideDivides_T, Tr.val, Tr.safe, works1, e1, e2, hz, hd0, z1, z2, decide_true]
      exact ⟨rfl, rfl⟩
    · obtain ⟨s1, s2, s3, s4, s5, s6⟩ := second hd0
      simp only [l1_WideDivides, l1_WideDivides_s, l1_WideDivides_t, l1_WideDivides_T, Tr.val, Tr.safe, works1, e1, e2, hz, decide_eq_false hd0, s1, s2, s3, s4, s5, s6, p1, q1]
      exact ⟨rfl, rfl⟩
  · have hbn : (b == 0) = false := beq_eq_false_iff_ne.2 hb0
    have hbp : 0 < b.toNat := by have := hb.1; omega
    obtain ⟨u1, u2, u3, u4, u5⟩ := udiv_spec ha hb hbp
    obtain ⟨v1, v2, v3, v4, v5, _⟩ := rdiv_spec (a := l1_of a) (b := r1_Of1 b) (by omega) (by omega) (by omega)
    obtain ⟨i1, i2⟩ := is_spec (b := (r1_Div (l1_of a) (r1_Of1 b)).1) u2 (by omega)
    obtain ⟨f1, f2, f3⟩ := of1_spec u4
    obtain ⟨c1, c2⟩ := cmp_spec (a := r1_Of1 (u2_Div a b).2) (b := (r1_Div (l1_of a) (r1_Of1 b)).2) (by omega) (by omega)
    have hi : l1_is (u2_Div a b).1 (r1_Div (l1_of a) (r1_Of1 b)).1 = true := by rw [i1, u3, v3, o3, b3]; simp
    have hcz : r1_Cmp (r1_Of1 (u2_Div a b).2) (r1_Div (l1_of a) (r1_Of1 b)).2 = 0 := by
      rw [c1, f3, u5, v5, o3, b3]; simp [cmpN]
    by_cases hd0 : n2 d = 0
    · obtain ⟨z1, z2⟩ := hzero hd0
      simp only [l1_WideDivides, l1_WideDivides_s, l1_WideDivides_t, l1_WideDivides_T, Tr.val, Tr.safe, works1, hbn, u1, o1, b1, v1, i2, hi, f1, c2, hcz, hz, hd0, z1, z2, decide_true]
      exact ⟨rfl, rfl⟩
    · obtain ⟨s1, s2, s3, s4, s5, s6⟩ := second hd0
      simp only [l1_WideDivides, l1_WideDivides_s, l1_WideDivides_t, l1_WideDivides_T, Tr.val, Tr.safe, works1, hbn, u1, o1, b1, v1, i2, hi, f1, c2, hcz, hz, decide_eq_false hd0, s1, s2, s3, s4, s5, s6, p1, q1]
      exact ⟨rfl, rfl⟩
end Go.Fb
