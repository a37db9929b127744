/- Contracts and laws of functions of the program, on the way to the claim. Conditions: as each theorem states. -/
import Derived.Test.YtgaapeaclbpaeaaW1v
namespace Go.Fb
open Go.Ev

theorem lenIs_le {n l m : Nat} (h : LenIs n l) (hn : n < 2 ^ m) : l ≤ m := by
  rcases h.2 with h' | h'
  · omega
  · rcases Nat.lt_or_ge m l with h2 | h2
    · have : 2 ^ m ≤ 2 ^ (l - 1) := Nat.pow_le_pow_right (by decide) (by omega)
      omega
    · exact h2
theorem tdiv_spec {a : U3} (ha : W3 a) {b : U2} (hb : W2 b) (hb0 : 0 < n2 b) : u3_Div_s a b = true ∧ W3 (u3_Div a b).1 ∧ n3 (u3_Div a b).1 = n3 a / n2 b ∧ W2 (u3_Div a b).2 ∧ n2 (u3_Div a b).2 = n3 a % n2 b := by
  obtain ⟨l, e, hl⟩ := tlen_spec ha
  have hA := n3_lt ha
  have hB := n2_lt hb
  have hl2 : l ≤ 192 := lenIs_le hl (by exact hA)
  have hz : W3 ⟨0, 0, 0⟩ := ⟨wd0, wd0, wd0⟩
  obtain ⟨q, r, k1, k2, k3, k4, k5⟩ := tdiv_run ha hb hb0 false 0 0 0 0 0 l hl2 ⟨0, 0, 0⟩ ⟨0, 0, 0⟩ hz hz hb0 (by rw [Nat.div_eq_of_lt hl.1]; simp [n3])
  have w1 : IntKind.i64.wrap ((l : Int) - 1) = (l : Int) - 1 := w64 (by omega) (by omega)
  have hr : u3_Div_L0_r (false, a.hi, a.mid, a.lo, 0, 0, 0, 0, 0, 0, b.hi, b.lo) ((l : Int) - 1, 0, 0, 0, 0, 0, 0) = some (-1, q.hi, q.mid, q.lo, r.hi, r.mid, r.lo) := runB_of k1 (by omega)
  have hne : (and (b.hi == 0) (and (b.lo == 0) true)) = false := by
    by_cases h1 : b.hi = 0
    · have h2 : b.lo ≠ 0 := by
        intro h2
        unfold n2 at hb0
        rw [h1, h2] at hb0
        simp at hb0
      rw [beq_eq_false_iff_ne.2 h2]; simp
    · rw [beq_eq_false_iff_ne.2 h1]; rfl
  simp only [u3_Div, u3_Div_s, u3_Div_t, u3_Div_T, Tr.val, Tr.safe, e, w1, hne, u3_Div_L0_ok, u3_Div_L0_v, hr, Option.isSome_some, Option.getD_some, cond_false]
  have hdm : n3 a / n2 b = n3 q ∧ n3 a % n2 b = n3 r := by
    rw [k5]
    constructor
    · rw [Nat.add_comm, Nat.add_mul_div_right _ _ hb0, Nat.div_eq_of_lt k4, Nat.zero_add]
    · rw [Nat.add_comm, Nat.add_mul_mod_self_right, Nat.mod_eq_of_lt k4]
  have hr0 : n2 ⟨r.mid, r.lo⟩ = n3 r := by
    obtain ⟨rh, rm, rl⟩ := r
    have := k3.1.1
    unfold n3 at k4 ⊢
    unfold n2
    simp only at *
    omega
  exact ⟨rfl, k2, hdm.1.symm, ⟨k3.2.1, k3.2.2⟩, by rw [hr0, hdm.2]⟩
end Go.Fb
