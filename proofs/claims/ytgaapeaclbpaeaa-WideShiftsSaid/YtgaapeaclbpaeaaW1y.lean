/- Contracts and laws of functions of the program, on the way to the claim. Conditions: as each theorem states. -/
import Derived.Test.YtgaapeaclbpaeaaW1x
namespace Go.Fb
open Go.Ev

theorem WideBack_both {a : U2} {b : Int} {n : Int} (ha : W2 a) (hb : Wd b) (hn : -9223372036854775808 ≤ n ∧ n ≤ 9223372036854775807) : l1_WideBack a b n = true ∧ l1_WideBack_s a b n = true := by
  have hbw : W2 ⟨0, b⟩ := ⟨wd0, hb⟩
  have eb : n2 ⟨0, b⟩ = b.toNat := by unfold n2; simp
  have hA := n2_lt ha
  obtain ⟨s1, s2, s3, _⟩ := uadd_spec ha hbw
  obtain ⟨d1, d2, d3, _⟩ := usub_spec s2 hbw
  have ed : (u2_Sub (u2_Add a ⟨0, b⟩).1 ⟨0, b⟩).1 = a := n2_inj d2 ha (by
    rw [d3, s3, eb]
    have := hb.2
    have := hb.1
    omega)
  obtain ⟨p1, p2, p3⟩ := umul_spec ha hb
  obtain ⟨l, e, hl⟩ := ulen_spec ha
  have hl2 : l ≤ 128 := lenIs_le hl (by exact hA)
  have hk : ∃ k : Nat, imin (imax n 0) (IntKind.i64.wrap (128 - u2_Len a)) = (k : Int) ∧ k ≤ 128 - l := by
    rw [e, w64 (by omega) (by omega)]
    refine ⟨(imin (imax n 0) (128 - (l : Int))).toNat, ?_, ?_⟩
    · unfold imin imax; split <;> split <;> omega
    · unfold imin imax; split <;> split <;> omega
  obtain ⟨k, ek, hk2⟩ := hk
  obtain ⟨h1, h2, h3⟩ := ushl_spec ha (n := k) (by omega)
  have hfit : n2 a * 2 ^ k < 340282366920938463463374607431768211456 := by
    have h4 : n2 a * 2 ^ k < 2 ^ l * 2 ^ k := Nat.mul_lt_mul_of_pos_right hl.1 (Nat.pow_pos (by decide))
    rw [← Nat.pow_add] at h4
    have h5 : 2 ^ (l + k) ≤ 2 ^ 128 := Nat.pow_le_pow_right (by decide) (by omega)
    exact Nat.lt_of_lt_of_le h4 h5
  rw [Nat.mod_eq_of_lt hfit] at h3
  obtain ⟨r1, r2, r3, r4⟩ := ushr_spec h2 (n := k) (by omega)
  have hp : 0 < 2 ^ k := Nat.pow_pos (by decide)
  rw [h3, Nat.mul_div_cancel _ hp] at r3
  rw [h3, Nat.mul_mod_left] at r4
  have er := n2_inj r2 ha r3
  by_cases hz : b = 0
  · subst hz
    have e0 : u3_Div (u2_Mul a 0) ⟨0, 0⟩ = (⟨0, 0, 0⟩, ⟨0, 0⟩) := rfl
    have s0 : u3_Div_s (u2_Mul a 0) ⟨0, 0⟩ = true := rfl
    simp only [l1_WideBack, l1_WideBack_s, l1_WideBack_t, l1_WideBack_T, Tr.val, Tr.safe, works1, s1, d1, ed, p3, ek, h1, r1, er, r4, s0, e0, beq_self_eq_true]
    cases ((0 : Int) == a.hi) <;> cases ((0 : Int) == a.lo) <;> exact ⟨rfl, rfl⟩
  · have hpos : 0 < n2 ⟨0, b⟩ := by rw [eb]; have := hb.1; omega
    obtain ⟨v1, v2, v3, v4, v5⟩ := tdiv_spec p1 hbw hpos
    rw [p2, eb] at v3 v5
    rw [eb] at hpos
    rw [Nat.mul_div_cancel _ hpos] at v3
    rw [Nat.mul_mod_left] at v5
    have hq : W3 ⟨0, a.hi, a.lo⟩ := ⟨wd0, ha.1, ha.2⟩
    have eq : (u3_Div (u2_Mul a b) ⟨0, b⟩).1 = ⟨0, a.hi, a.lo⟩ := n3_inj v2 hq (by rw [v3]; unfold n2 n3; simp)
    have er2 : (u3_Div (u2_Mul a b) ⟨0, b⟩).2 = ⟨0, 0⟩ := n2_inj v4 ⟨wd0, wd0⟩ (by rw [v5]; rfl)
    simp only [l1_WideBack, l1_WideBack_s, l1_WideBack_t, l1_WideBack_T, Tr.val, Tr.safe, works1, s1, d1, ed, p3, ek, h1, r1, er, r4, v1, eq, er2, beq_self_eq_true, beq_eq_false_iff_ne.2 hz]
    exact ⟨rfl, rfl⟩
end Go.Fb
