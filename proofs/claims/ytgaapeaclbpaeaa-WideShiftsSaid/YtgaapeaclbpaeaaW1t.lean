/- Contracts and laws of functions of the program, on the way to the claim. Conditions: as each theorem states. -/
import Derived.Test.YtgaapeaclbpaeaaW1s
namespace Go.Fb
open Go.Ev

/-- what the loop of Shr leaves: out of the number A, to be shifted by n -/
def ShrTo (A n : Nat) (l : Bool) : (Int × Bool × Int × Int × Int) ⊕ (Bool × Int × Int × Int) → Prop
  | .inr (l', x, y, w) => x = 0 ∧ y = 0 ∧ w = 0 ∧ A / 2 ^ n = 0 ∧ l' = (l || decide (A % 2 ^ n ≠ 0))
  | .inl (n', l', h', m', o') => ∃ k H M O : Nat, n' = (k : Int) ∧ h' = (H : Int) ∧ m' = (M : Int) ∧ o' = (O : Int) ∧ H < 18446744073709551616 ∧ M < 18446744073709551616 ∧ O < 18446744073709551616 ∧ k < 64 ∧
      A / 2 ^ n = (O + 18446744073709551616 * (M + 18446744073709551616 * H)) / 2 ^ k ∧ (l' || decide ((O + 18446744073709551616 * (M + 18446744073709551616 * H)) % 2 ^ k ≠ 0)) = (l || decide (A % 2 ^ n ≠ 0))
theorem shr_word {lo A n : Nat} (hl : lo < 18446744073709551616) (h : 64 ≤ n) : (lo + 18446744073709551616 * A) / 2 ^ n = A / 2 ^ (n - 64) ∧ (lo + 18446744073709551616 * A) % 2 ^ n = lo + 18446744073709551616 * (A % 2 ^ (n - 64)) := by
  have p64 : (2 : Nat) ^ 64 = 18446744073709551616 := by decide
  have ep : 2 ^ n = 18446744073709551616 * 2 ^ (n - 64) := by rw [← p64, ← Nat.pow_add, Nat.add_sub_cancel' h]
  have e1 : (lo + 18446744073709551616 * A) % 18446744073709551616 = lo := by omega
  have e2 : (lo + 18446744073709551616 * A) / 18446744073709551616 = A := by omega
  constructor
  · rw [ep, ← Nat.div_div_eq_div_mul, e2]
  · rw [ep, Nat.mod_mul, e1, e2]
theorem lost_word (l : Bool) (lo q : Nat) : ((l || (lo : Int) != 0) || decide (q ≠ 0)) = (l || decide (lo + 18446744073709551616 * q ≠ 0)) := by
  have hlo : ((lo : Int) != 0) = decide (lo ≠ 0) := by
    by_cases hz : lo = 0
    · subst hz; rfl
    · rw [decide_eq_true hz]; exact bne_iff_ne.2 (by omega)
  rw [hlo]
  cases l
  · by_cases h1 : lo = 0 <;> by_cases h2 : q = 0 <;> simp [h1, h2] <;> omega
  · simp
theorem tshr_run (z : Bool × Int × Int × Int) : ∀ (m n : Nat) (l : Bool) (hi mid lo : Nat), hi < 18446744073709551616 → mid < 18446744073709551616 → lo < 18446744073709551616 → n < 64 * (m + 1) → n < 9223372036854775808 →
    ∃ r, runL (u3_Shr_L0_step z) (m + 1) ((n : Int), l, (hi : Int), (mid : Int), (lo : Int)) = some r ∧ ShrTo (lo + 18446744073709551616 * (mid + 18446744073709551616 * hi)) n l r
  | m, n, l, hi, mid, lo, h1, h2, h3, hn, hb => by
    rcases Nat.lt_or_ge n 64 with h | h
    · refine ⟨.inl ((n : Int), l, (hi : Int), (mid : Int), (lo : Int)), ?_, n, hi, mid, lo, rfl, rfl, rfl, rfl, h1, h2, h3, h, rfl, rfl⟩
      rw [runL]
      simp only [u3_Shr_L0_step, u3_Shr_L0_T, Tr.val, Tr.safe, decide_eq_false (show ¬ (n : Int) ≥ 64 by omega)]
      rfl
    · obtain ⟨e1, e2⟩ := shr_word (A := mid + 18446744073709551616 * hi) h3 h
      have hl := fun q => lost_word l lo q
      have w : IntKind.i64.wrap ((n : Int) - 64) = ((n - 64 : Nat) : Int) := by rw [w64 (by omega) (by omega)]; omega
      by_cases hz : hi = 0 ∧ mid = 0
      · obtain ⟨rfl, rfl⟩ := hz
        refine ⟨.inr (l || (lo : Int) != 0, 0, 0, 0), ?_, rfl, rfl, rfl, by rw [e1]; simp, ?_⟩
        · rw [runL]
          simp only [u3_Shr_L0_step, u3_Shr_L0_T, Tr.val, Tr.safe, decide_eq_true (show (n : Int) ≥ 64 by omega)]
          cases l <;> rfl
        · rw [e2, ← hl]; simp
      · match m, hn with
        | 0, hn => omega
        | m + 1, hn =>
          obtain ⟨r, k1, k2⟩ := tshr_run z m (n - 64) (l || (lo : Int) != 0) 0 hi mid (by omega) h1 h2 (by omega) (by omega)
          have e0 : mid + 18446744073709551616 * (hi + 18446744073709551616 * 0) = mid + 18446744073709551616 * hi := by omega
          rw [e0] at k2
          refine ⟨r, ?_, ?_⟩
          · rw [runL]
            have hc : ((hi : Int) == 0 && ((mid : Int) == 0 && true)) = false := by
              by_cases q : hi = 0
              · have : mid ≠ 0 := fun e => hz ⟨q, e⟩
                rw [beq_eq_false_iff_ne.2 (show (mid : Int) ≠ 0 by omega)]; simp
              · rw [beq_eq_false_iff_ne.2 (show (hi : Int) ≠ 0 by omega)]; simp
            simp only [u3_Shr_L0_step, u3_Shr_L0_T, Tr.val, Tr.safe, decide_eq_true (show (n : Int) ≥ 64 by omega), w]
            have hc' : (and ((hi : Int) == 0) (and ((mid : Int) == 0) true)) = false := hc
            rw [hc']
            cases l <;> exact k1
          · match r, k2 with
            | .inr (l', x, y, v), k2 =>
              obtain ⟨q1, q2, q3, q4, q5⟩ := k2
              exact ⟨q1, q2, q3, by rw [e1]; exact q4, by rw [q5, e2, hl]⟩
            | .inl (n', l', h', m', o'), k2 =>
              obtain ⟨k, H, M, O, q1, q2, q3, q4, q5, q6, q7, q8, q9, q10⟩ := k2
              exact ⟨k, H, M, O, q1, q2, q3, q4, q5, q6, q7, q8, by rw [e1]; exact q9, by rw [q10, e2, hl]⟩
  termination_by m => m
end Go.Fb
