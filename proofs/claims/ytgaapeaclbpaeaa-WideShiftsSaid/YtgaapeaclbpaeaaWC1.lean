/- Contracts and laws of functions of the program, on the way to the claim. Conditions: as each theorem states. -/
import Derived.Test.YtgaapeaclbpaeaaWB3
namespace Go.Fb
open Go.Ev

/-! ### Three words shifted to the left -/
theorem shl_lost {h m l n : Nat} (hn : 64 ≤ n) : (l + 18446744073709551616 * (m + 18446744073709551616 * h)) * 2 ^ n % 6277101735386680763835789423207666416102355444464034512896 = (18446744073709551616 * (l + 18446744073709551616 * m)) * 2 ^ (n - 64) % 6277101735386680763835789423207666416102355444464034512896 := by
  have p64 : (2 : Nat) ^ 64 = 18446744073709551616 := by decide
  have ep : 2 ^ n = 18446744073709551616 * 2 ^ (n - 64) := by rw [← p64, ← Nat.pow_add, Nat.add_sub_cancel' hn]
  have e : (l + 18446744073709551616 * (m + 18446744073709551616 * h)) * 2 ^ n = (18446744073709551616 * (l + 18446744073709551616 * m)) * 2 ^ (n - 64) + 6277101735386680763835789423207666416102355444464034512896 * (h * 2 ^ (n - 64)) := by
    rw [ep]
    generalize 2 ^ (n - 64) = p
    rw [← Nat.mul_assoc, ← Nat.mul_assoc, ← Nat.add_mul]
    congr 1
    omega
  rw [e, Nat.add_mul_mod_self_left]
def ShlTo (V n : Nat) : (Int × Int × Int × Int) ⊕ (Int × Int × Int) → Prop
  | .inr (x, y, v) => x = 0 ∧ y = 0 ∧ v = 0 ∧ V * 2 ^ n % 6277101735386680763835789423207666416102355444464034512896 = 0
  | .inl (n', h', m', o') => ∃ k H M O : Nat, n' = (k : Int) ∧ h' = (H : Int) ∧ m' = (M : Int) ∧ o' = (O : Int) ∧ H < 18446744073709551616 ∧ M < 18446744073709551616 ∧ O < 18446744073709551616 ∧ k < 64 ∧
      V * 2 ^ n % 6277101735386680763835789423207666416102355444464034512896 = (O + 18446744073709551616 * (M + 18446744073709551616 * H)) * 2 ^ k % 6277101735386680763835789423207666416102355444464034512896
theorem tshl_run (z : Int × Int × Int) : ∀ (m n hi mid lo : Nat), hi < 18446744073709551616 → mid < 18446744073709551616 → lo < 18446744073709551616 → n < 64 * (m + 1) → n < 9223372036854775808 →
    ∃ r, runL (u3_Shl_L0_step z) (m + 1) ((n : Int), (hi : Int), (mid : Int), (lo : Int)) = some r ∧ ShlTo (lo + 18446744073709551616 * (mid + 18446744073709551616 * hi)) n r
  | m, n, hi, mid, lo, h1, h2, h3, hn, hb => by
    rcases Nat.lt_or_ge n 64 with h | h
    · refine ⟨.inl ((n : Int), (hi : Int), (mid : Int), (lo : Int)), ?_, n, hi, mid, lo, rfl, rfl, rfl, rfl, h1, h2, h3, h, rfl⟩
      rw [runL]
      simp only [u3_Shl_L0_step, u3_Shl_L0_T, Tr.val, Tr.safe, decide_eq_false (show ¬ (n : Int) ≥ 64 by omega)]
      rfl
    · have e1 := shl_lost (h := hi) (m := mid) (l := lo) h
      have w : IntKind.i64.wrap ((n : Int) - 64) = ((n - 64 : Nat) : Int) := by rw [w64 (by omega) (by omega)]; omega
      by_cases hz : mid = 0 ∧ lo = 0
      · obtain ⟨rfl, rfl⟩ := hz
        refine ⟨.inr (0, 0, 0), ?_, rfl, rfl, rfl, by rw [e1]; simp⟩
        rw [runL]
        simp only [u3_Shl_L0_step, u3_Shl_L0_T, Tr.val, Tr.safe, decide_eq_true (show (n : Int) ≥ 64 by omega)]
        rfl
      · match m, hn with
        | 0, hn => omega
        | m + 1, hn =>
          obtain ⟨r, k1, k2⟩ := tshl_run z m (n - 64) mid lo 0 h2 h3 (by omega) (by omega) (by omega)
          rw [show 0 + 18446744073709551616 * (lo + 18446744073709551616 * mid) = 18446744073709551616 * (lo + 18446744073709551616 * mid) from Nat.zero_add _] at k2
          refine ⟨r, ?_, ?_⟩
          · rw [runL]
            have hc : (and ((mid : Int) == 0) (and ((lo : Int) == 0) true)) = false := by
              by_cases q : mid = 0
              · have : lo ≠ 0 := fun e => hz ⟨q, e⟩
                rw [beq_eq_false_iff_ne.2 (show (lo : Int) ≠ 0 by omega)]; simp
              · rw [beq_eq_false_iff_ne.2 (show (mid : Int) ≠ 0 by omega)]; rfl
            simp only [u3_Shl_L0_step, u3_Shl_L0_T, Tr.val, Tr.safe, decide_eq_true (show (n : Int) ≥ 64 by omega), w, hc]
            exact k1
          · match r, k2 with
            | .inr (x, y, v), k2 =>
              obtain ⟨q1, q2, q3, q4⟩ := k2
              exact ⟨q1, q2, q3, by rw [e1]; exact q4⟩
            | .inl (n', h', m', o'), k2 =>
              obtain ⟨k, H, M, O, q1, q2, q3, q4, q5, q6, q7, q8, q9⟩ := k2
              exact ⟨k, H, M, O, q1, q2, q3, q4, q5, q6, q7, q8, by rw [e1]; exact q9⟩
  termination_by m => m
/-- less than a word -/
theorem shl3_core {T O k t : Nat} (hO : O < 18446744073709551616) (h0 : 0 < k) (hk : k < 64) (ht : t = T * 2 ^ k % 340282366920938463463374607431768211456) :
    t % 2 ^ k = 0 ∧ O / 2 ^ (64 - k) < 2 ^ k ∧ t + O / 2 ^ (64 - k) < 340282366920938463463374607431768211456 ∧ O * 2 ^ k % 18446744073709551616 + 18446744073709551616 * (t + O / 2 ^ (64 - k)) = (O + 18446744073709551616 * T) * 2 ^ k % 6277101735386680763835789423207666416102355444464034512896 := by
  have hN : 0 < 2 ^ k := Nat.two_pow_pos k
  have hs := pow_split (n := k) (by omega)
  have hl : O / 2 ^ (64 - k) < 2 ^ k := (Nat.div_lt_iff_lt_mul (Nat.two_pow_pos _)).2 (by rw [hs]; exact hO)
  have hd : 340282366920938463463374607431768211456 = 2 ^ k * (2 ^ (64 - k) * 18446744073709551616) := by rw [← Nat.mul_assoc, hs]
  have h1 : t % 2 ^ k = 0 := by
    rw [ht, hd, Nat.mod_mul_right_mod, Nat.mul_mod_left]
  have htd : t = 2 ^ k * (t / 2 ^ k) := by have := Nat.div_add_mod t (2 ^ k); omega
  have htl : t < 340282366920938463463374607431768211456 := by rw [ht]; exact Nat.mod_lt _ (by decide)
  have htl2 : t + 2 ^ k ≤ 340282366920938463463374607431768211456 := by
    have h2 : t / 2 ^ k < 2 ^ (64 - k) * 18446744073709551616 := by
      rw [hd] at htl
      exact (Nat.div_lt_iff_lt_mul hN).2 (by rw [Nat.mul_comm]; exact htl)
    have := Nat.mul_le_mul_left (2 ^ k) h2
    rw [← hd, Nat.mul_succ, ← htd] at this
    exact this
  refine ⟨h1, hl, by omega, ?_⟩
  have e1 : O * 2 ^ k = O * 2 ^ k % 18446744073709551616 + 18446744073709551616 * (O / 2 ^ (64 - k)) := by
    have h3 := Nat.div_add_mod (O * 2 ^ k) 18446744073709551616
    have h4 : O * 2 ^ k / 18446744073709551616 = O / 2 ^ (64 - k) := by
      rw [← hs, Nat.mul_comm O, Nat.mul_div_mul_left _ _ hN]
    rw [h4] at h3
    omega
  have e2 := Nat.div_add_mod (T * 2 ^ k) 340282366920938463463374607431768211456
  rw [← ht] at e2
  have e3 : (O + 18446744073709551616 * T) * 2 ^ k = (O * 2 ^ k % 18446744073709551616 + 18446744073709551616 * (t + O / 2 ^ (64 - k))) + 6277101735386680763835789423207666416102355444464034512896 * (T * 2 ^ k / 340282366920938463463374607431768211456) := by
    rw [Nat.add_mul, Nat.mul_assoc 18446744073709551616 T]
    generalize T * 2 ^ k / 340282366920938463463374607431768211456 = q at *
    omega
  have hlo := Nat.mod_lt (O * 2 ^ k) (show 0 < 18446744073709551616 by decide)
  have hlt : O * 2 ^ k % 18446744073709551616 + 18446744073709551616 * (t + O / 2 ^ (64 - k)) < 6277101735386680763835789423207666416102355444464034512896 := by
    clear e1 e2 e3 htd
    omega
  rw [e3, Nat.add_mul_mod_self_left]
  exact (Nat.mod_eq_of_lt hlt).symm
theorem tshl_spec {a : U3} (ha : W3 a) {n : Nat} (hn : n < 9223372036854775808) : u3_Shl_s a (n : Int) = true ∧ W3 (u3_Shl a (n : Int)) ∧ n3 (u3_Shl a (n : Int)) = n3 a * 2 ^ n % 6277101735386680763835789423207666416102355444464034512896 := by
  obtain ⟨ahi, amid, alo⟩ := a
  obtain ⟨h1, h2, h3⟩ := ha
  simp only at h1 h2 h3
  obtain ⟨hi, rfl⟩ := Int.eq_ofNat_of_zero_le h1.1
  obtain ⟨mid, rfl⟩ := Int.eq_ofNat_of_zero_le h2.1
  obtain ⟨lo, rfl⟩ := Int.eq_ofNat_of_zero_le h3.1
  have b1 := h1.2
  have b2 := h2.2
  have b3 := h3.2
  obtain ⟨r, k1, k2⟩ := tshl_run (0, 0, 0) (n / 64) n hi mid lo (by omega) (by omega) (by omega) (by omega) hn
  have hr : u3_Shl_L0_r (0, 0, 0) ((n : Int), (hi : Int), (mid : Int), (lo : Int)) = some r := runB_of k1 (by omega)
  have en : n3 ⟨(hi : Int), (mid : Int), (lo : Int)⟩ = lo + 18446744073709551616 * (mid + 18446744073709551616 * hi) := rfl
  rw [en]
  have ho : u3_Shl_L0_ok (0, 0, 0) ((n : Int), (hi : Int), (mid : Int), (lo : Int)) = true := by unfold u3_Shl_L0_ok; rw [hr]; rfl
  match r, hr, k2 with
  | .inr (x, y, w), hr, k2 =>
    obtain ⟨rfl, rfl, rfl, q4⟩ := k2
    have ht : u3_Shl_L0_rt (0, 0, 0) ((n : Int), (hi : Int), (mid : Int), (lo : Int)) = true := by unfold u3_Shl_L0_rt; rw [hr]; rfl
    have hv : u3_Shl_L0_rv (0, 0, 0) ((n : Int), (hi : Int), (mid : Int), (lo : Int)) = (0, 0, 0) := by unfold u3_Shl_L0_rv; rw [hr]; rfl
    simp only [u3_Shl, u3_Shl_s, u3_Shl_t, u3_Shl_T, Tr.val, Tr.safe, ho, ht, hv, cond_true]
    rw [q4]
    exact ⟨rfl, ⟨wd0, wd0, wd0⟩, rfl⟩
  | .inl (n', h', m', o'), hr, k2 =>
    obtain ⟨k, H, M, O, rfl, rfl, rfl, rfl, q5, q6, q7, q8, q9⟩ := k2
    have ht : u3_Shl_L0_rt (0, 0, 0) ((n : Int), (hi : Int), (mid : Int), (lo : Int)) = false := by unfold u3_Shl_L0_rt; rw [hr]; rfl
    have hv : u3_Shl_L0_v (0, 0, 0) ((n : Int), (hi : Int), (mid : Int), (lo : Int)) = ((k : Int), (H : Int), (M : Int), (O : Int)) := by unfold u3_Shl_L0_v; rw [hr]; rfl
    have hw : ∀ {m : Nat}, m < 18446744073709551616 → Wd (m : Int) := fun h => by unfold Wd; omega
    rw [q9]
    rcases Nat.eq_zero_or_pos k with h0 | h0
    · subst h0
      have hd : decide (((0 : Nat) : Int) ≤ 0) = true := rfl
      simp only [u3_Shl, u3_Shl_s, u3_Shl_t, u3_Shl_T, Tr.val, Tr.safe, ho, ht, hv, hd, cond_true, cond_false]
      have hW : W3 ⟨(H : Int), (M : Int), (O : Int)⟩ := ⟨hw q5, hw q6, hw q7⟩
      have := n3_lt hW
      rw [Nat.pow_zero, Nat.mul_one]
      exact ⟨rfl, hW, (Nat.mod_eq_of_lt this).symm⟩
    · have htop : ∀ x : Int, u3_top ⟨(H : Int), (M : Int), x⟩ = ⟨(H : Int), (M : Int)⟩ := fun _ => rfl
      obtain ⟨s1, s2, s3⟩ := ushl_spec (a := ⟨(H : Int), (M : Int)⟩) ⟨hw q5, hw q6⟩ (n := k) (by omega)
      have w1 : IntKind.i64.wrap (64 - (k : Int)) = ((64 - k : Nat) : Int) := by rw [w64 (by omega) (by omega)]; omega
      have e4 : n2 ⟨(H : Int), (M : Int)⟩ = M + 18446744073709551616 * H := rfl
      rw [e4] at s3
      obtain ⟨c1, c2, c3, c4⟩ := shl3_core (T := M + 18446744073709551616 * H) (O := O) (k := k) q7 h0 q8 s3
      generalize hT : u2_Shl ⟨(H : Int), (M : Int)⟩ (k : Int) = t at *
      obtain ⟨thi, tlo⟩ := t
      obtain ⟨v1, v2⟩ := s2
      simp only at v1 v2
      obtain ⟨th, rfl⟩ := Int.eq_ofNat_of_zero_le v1.1
      obtain ⟨tl, rfl⟩ := Int.eq_ofNat_of_zero_le v2.1
      have e5 : n2 ⟨(th : Int), (tl : Int)⟩ = tl + 18446744073709551616 * th := rfl
      rw [e5] at c1 c3 c4
      have x1 := v1.2
      have x2 := v2.2
      have x3 : O / 2 ^ (64 - k) < 18446744073709551616 := Nat.lt_of_le_of_lt (Nat.div_le_self _ _) q7
      have hp64 : 18446744073709551616 = 2 ^ k * 2 ^ (64 - k) := (pow_split (by omega)).symm
      have htl0 : tl % 2 ^ k = 0 := by
        have : (tl + 18446744073709551616 * th) % 2 ^ k = tl % 2 ^ k := by
          rw [hp64, Nat.mul_assoc, Nat.add_mul_mod_self_left]
        omega
      have hor : bitsI .or .u64 (tl : Int) ((O / 2 ^ (64 - k) : Nat) : Int) = ((tl + O / 2 ^ (64 - k) : Nat) : Int) := by
        rw [bits_or (by omega) x3]
        have := or_add (a := tl / 2 ^ k) (b := O / 2 ^ (64 - k)) (i := k) c2
        have e6 : 2 ^ k * (tl / 2 ^ k) = tl := by have := Nat.div_add_mod tl (2 ^ k); omega
        rw [e6] at this
        rw [this]
      have hsum : tl + O / 2 ^ (64 - k) < 18446744073709551616 := by
        -- the sum is a row of bits of a word
        have e6 : 2 ^ k * (tl / 2 ^ k) = tl := by have := Nat.div_add_mod tl (2 ^ k); omega
        have h7 : tl / 2 ^ k < 2 ^ (64 - k) := (Nat.div_lt_iff_lt_mul (Nat.two_pow_pos k)).2 (by rw [Nat.mul_comm, ← hp64]; omega)
        have := Nat.mul_le_mul_left (2 ^ k) h7
        rw [← hp64, Nat.mul_succ, e6] at this
        omega
      simp only [u3_Shl, u3_Shl_s, u3_Shl_t, u3_Shl_T, Tr.val, Tr.safe, ho, ht, hv, htop, hT, s1, w1, shl_nat _ k (by omega), shr_nat _ (64 - k) (by omega), hor]
      rw [decide_eq_false (show ¬ (k : Int) ≤ 0 by omega), decide_eq_true (show (0 : Int) ≤ (k : Int) by omega), decide_eq_true (show (0 : Int) ≤ ((64 - k : Nat) : Int) by omega)]
      refine ⟨rfl, ⟨hw (by omega), hw hsum, hw (Nat.mod_lt _ (by decide))⟩, ?_⟩
      show O * 2 ^ k % 18446744073709551616 + 18446744073709551616 * ((tl + O / 2 ^ (64 - k)) + 18446744073709551616 * th) = _
      rw [← c4]
      omega
end Go.Fb
