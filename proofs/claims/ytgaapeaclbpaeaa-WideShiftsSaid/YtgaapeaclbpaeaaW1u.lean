/- Contracts and laws of functions of the program, on the way to the claim. Conditions: as each theorem states. -/
import Derived.Test.YtgaapeaclbpaeaaW1t
namespace Go.Fb
open Go.Ev

/-- three words, shifted back by less than one -/
theorem shr3_core {T O k : Nat} (hO : O < 18446744073709551616) (h0 : 0 < k) (hk : k < 64) :
    (O + 18446744073709551616 * T) / 2 ^ k = (O / 2 ^ k ||| T * 2 ^ (64 - k) % 18446744073709551616) + 18446744073709551616 * (T / 2 ^ k) ∧ (O / 2 ^ k ||| T * 2 ^ (64 - k) % 18446744073709551616) < 18446744073709551616 ∧ (O + 18446744073709551616 * T) % 2 ^ k = O % 2 ^ k := by
  have hs := pow_split (n := k) (by omega)
  have hN : 0 < 2 ^ k := Nat.pow_pos (by decide)
  have hK : 0 < 2 ^ (64 - k) := Nat.pow_pos (by decide)
  have hl1 : O / 2 ^ k < 2 ^ (64 - k) := (Nat.div_lt_iff_lt_mul hN).2 (by rw [Nat.mul_comm, hs]; exact hO)
  have dT := Nat.div_add_mod T (2 ^ k)
  have mT := Nat.mod_lt T hN
  have em : T * 2 ^ (64 - k) % 18446744073709551616 = 2 ^ (64 - k) * (T % 2 ^ k) := by
    have := mul_mod_pow T (n := 64 - k) (by omega)
    rw [show 64 - (64 - k) = k by omega] at this
    exact this
  have b2 : 2 ^ (64 - k) * (T % 2 ^ k) + 2 ^ (64 - k) ≤ 18446744073709551616 := by
    rw [← hs, Nat.mul_comm (2 ^ k), ← Nat.mul_succ]; exact Nat.mul_le_mul_left _ mT
  have e2 : 18446744073709551616 * T = 2 ^ k * (18446744073709551616 * (T / 2 ^ k) + 2 ^ (64 - k) * (T % 2 ^ k)) := by
    conv => lhs; rw [← dT]
    rw [Nat.mul_add, Nat.mul_add, ← Nat.mul_assoc (2 ^ k) (2 ^ (64 - k)), hs, Nat.mul_left_comm]
  rw [em, Nat.or_comm, or_add hl1, e2, Nat.add_mul_div_left _ _ hN, Nat.add_mul_mod_self_left]
  generalize 2 ^ (64 - k) * (T % 2 ^ k) = D at *
  refine ⟨by omega, by omega, rfl⟩
theorem tshr_spec {a : U3} (ha : W3 a) {n : Nat} (hn : n < 9223372036854775808) : u3_Shr_s a (n : Int) = true ∧ W3 (u3_Shr a (n : Int)).1 ∧ n3 (u3_Shr a (n : Int)).1 = n3 a / 2 ^ n := by
  obtain ⟨ahi, amid, alo⟩ := a
  obtain ⟨h1, h2, h3⟩ := ha
  simp only at h1 h2 h3
  obtain ⟨hi, rfl⟩ := Int.eq_ofNat_of_zero_le h1.1
  obtain ⟨mid, rfl⟩ := Int.eq_ofNat_of_zero_le h2.1
  obtain ⟨lo, rfl⟩ := Int.eq_ofNat_of_zero_le h3.1
  have b1 := h1.2
  have b2 := h2.2
  have b3 := h3.2
  obtain ⟨r, k1, k2⟩ := tshr_run (false, 0, 0, 0) (n / 64) n false hi mid lo (by omega) (by omega) (by omega) (by omega) hn
  have hr : u3_Shr_L0_r (false, 0, 0, 0) ((n : Int), false, (hi : Int), (mid : Int), (lo : Int)) = some r := runB_of k1 (by omega)
  have en : n3 ⟨(hi : Int), (mid : Int), (lo : Int)⟩ = lo + 18446744073709551616 * (mid + 18446744073709551616 * hi) := rfl
  rw [en]
  have ho : u3_Shr_L0_ok (false, 0, 0, 0) ((n : Int), false, (hi : Int), (mid : Int), (lo : Int)) = true := by unfold u3_Shr_L0_ok; rw [hr]; rfl
  match r, hr, k2 with
  | .inr (l', x, y, w), hr, k2 =>
    obtain ⟨rfl, rfl, rfl, q4, _⟩ := k2
    have ht : u3_Shr_L0_rt (false, 0, 0, 0) ((n : Int), false, (hi : Int), (mid : Int), (lo : Int)) = true := by unfold u3_Shr_L0_rt; rw [hr]; rfl
    have hv : u3_Shr_L0_rv (false, 0, 0, 0) ((n : Int), false, (hi : Int), (mid : Int), (lo : Int)) = (l', 0, 0, 0) := by unfold u3_Shr_L0_rv; rw [hr]; rfl
    simp only [u3_Shr, u3_Shr_s, u3_Shr_t, u3_Shr_T, Tr.val, Tr.safe, ho, ht, hv, cond_true]
    rw [q4]
    exact ⟨rfl, ⟨wd0, wd0, wd0⟩, rfl⟩
  | .inl (n', l', h', m', o'), hr, k2 =>
    obtain ⟨k, H, M, O, rfl, rfl, rfl, rfl, q5, q6, q7, q8, q9, _⟩ := k2
    have ht : u3_Shr_L0_rt (false, 0, 0, 0) ((n : Int), false, (hi : Int), (mid : Int), (lo : Int)) = false := by unfold u3_Shr_L0_rt; rw [hr]; rfl
    have hv : u3_Shr_L0_v (false, 0, 0, 0) ((n : Int), false, (hi : Int), (mid : Int), (lo : Int)) = ((k : Int), l', (H : Int), (M : Int), (O : Int)) := by unfold u3_Shr_L0_v; rw [hr]; rfl
    have hw : ∀ {m : Nat}, m < 18446744073709551616 → Wd (m : Int) := fun h => by unfold Wd; omega
    rw [q9]
    rcases Nat.eq_zero_or_pos k with h0 | h0
    · subst h0
      have hd : decide (((0 : Nat) : Int) ≤ 0) = true := rfl
      simp only [u3_Shr, u3_Shr_s, u3_Shr_t, u3_Shr_T, Tr.val, Tr.safe, ho, ht, hv, hd, cond_true, cond_false]
      rw [Nat.pow_zero, Nat.div_one]
      exact ⟨rfl, ⟨hw q5, hw q6, hw q7⟩, rfl⟩
    · have htop : ∀ x : Int, u3_top ⟨(H : Int), (M : Int), x⟩ = ⟨(H : Int), (M : Int)⟩ := fun _ => rfl
      obtain ⟨s1, s2, s3, _⟩ := ushr_spec (a := ⟨(H : Int), (M : Int)⟩) ⟨hw q5, hw q6⟩ (n := k) (by omega)
      have w1 : IntKind.i64.wrap (64 - (k : Int)) = ((64 - k : Nat) : Int) := by rw [w64 (by omega) (by omega)]; omega
      obtain ⟨c1, c2, _⟩ := shr3_core (T := M + 18446744073709551616 * H) (O := O) (k := k) q7 h0 q8
      have hmod : (M + 18446744073709551616 * H) * 2 ^ (64 - k) % 18446744073709551616 = M * 2 ^ (64 - k) % 18446744073709551616 := by
        rw [Nat.add_mul, Nat.mul_assoc, Nat.add_mul_mod_self_left]
      rw [hmod] at c1 c2
      have x1 : M * 2 ^ (64 - k) % 18446744073709551616 < 18446744073709551616 := Nat.mod_lt _ (by decide)
      have x2 : O / 2 ^ k < 18446744073709551616 := Nat.lt_of_le_of_lt (Nat.div_le_self _ _) q7
      have e4 : n2 ⟨(H : Int), (M : Int)⟩ = M + 18446744073709551616 * H := rfl
      rw [e4] at s3
      simp only [u3_Shr, u3_Shr_s, u3_Shr_t, u3_Shr_T, Tr.val, Tr.safe, ho, ht, hv, htop, s1, w1, shl_nat _ (64 - k) (by omega), shr_nat _ k (by omega), bits_or x2 x1]
      rw [decide_eq_false (show ¬ (k : Int) ≤ 0 by omega), decide_eq_true (show (0 : Int) ≤ (k : Int) by omega), decide_eq_true (show (0 : Int) ≤ ((64 - k : Nat) : Int) by omega)]
      have fin : W3 ⟨(u2_Shr ⟨(H : Int), (M : Int)⟩ (k : Int)).1.hi, (u2_Shr ⟨(H : Int), (M : Int)⟩ (k : Int)).1.lo, ((O / 2 ^ k ||| M * 2 ^ (64 - k) % 18446744073709551616 : Nat) : Int)⟩ ∧ n3 ⟨(u2_Shr ⟨(H : Int), (M : Int)⟩ (k : Int)).1.hi, (u2_Shr ⟨(H : Int), (M : Int)⟩ (k : Int)).1.lo, ((O / 2 ^ k ||| M * 2 ^ (64 - k) % 18446744073709551616 : Nat) : Int)⟩ = (O + 18446744073709551616 * (M + 18446744073709551616 * H)) / 2 ^ k := by
        refine ⟨⟨s2.1, s2.2, hw c2⟩, ?_⟩
        rw [c1, ← s3]
        rfl
      cases l'
      · exact ⟨rfl, fin.1, fin.2⟩
      · exact ⟨rfl, fin.1, fin.2⟩
end Go.Fb
