/- Contracts and laws of functions of the program, on the way to the claim. Conditions: as each theorem states. -/
import Derived.Test.YtgaapeaclbpaeaaW1q
namespace Go.Fb
open Go.Ev

/-- three words, doubled -/
theorem tdbl_spec {a : U3} (ha : W3 a) : u3_Shl_s a 1 = true ∧ W3 (u3_Shl a 1) ∧ n3 (u3_Shl a 1) = 2 * n3 a % 6277101735386680763835789423207666416102355444464034512896 := by
  obtain ⟨ahi, amid, alo⟩ := a
  obtain ⟨h1, h2, h3⟩ := ha
  simp only at h1 h2 h3
  obtain ⟨lo, rfl⟩ := Int.eq_ofNat_of_zero_le h3.1
  have b3 := h3.2
  have hr : u3_Shl_L0_r (0, 0, 0) (1, ahi, amid, (lo : Int)) = some (.inl (1, ahi, amid, (lo : Int))) := runB_of (n := 1) rfl (by decide)
  have hv : u3_Shl_L0_v (0, 0, 0) (1, ahi, amid, (lo : Int)) = (1, ahi, amid, (lo : Int)) := by unfold u3_Shl_L0_v; rw [hr]; rfl
  have ht : u3_Shl_L0_rt (0, 0, 0) (1, ahi, amid, (lo : Int)) = false := by unfold u3_Shl_L0_rt; rw [hr]; rfl
  have ho : u3_Shl_L0_ok (0, 0, 0) (1, ahi, amid, (lo : Int)) = true := by unfold u3_Shl_L0_ok; rw [hr]; rfl
  have w63 : IntKind.i64.wrap (64 - 1) = 63 := rfl
  have hd : decide ((1 : Int) ≤ 0) = false := rfl
  have htop : ∀ x : Int, u3_top ⟨ahi, amid, x⟩ = ⟨ahi, amid⟩ := fun _ => rfl
  have e2 : shrI .u64 (lo : Int) 63 = ((lo / 9223372036854775808 : Nat) : Int) := shr_nat lo 63 (by decide)
  have e3 : shlI .u64 (lo : Int) 1 = ((lo * 2 % 18446744073709551616 : Nat) : Int) := shl_nat lo 1 (by decide)
  obtain ⟨s1, s2, s3⟩ := ushl_spec (a := ⟨ahi, amid⟩) ⟨h1, h2⟩ (n := 1) (by decide)
  rw [show ((1 : Nat) : Int) = 1 from rfl] at s1 s2 s3
  generalize ht2 : u2_Shl ⟨ahi, amid⟩ 1 = t at *
  obtain ⟨thi, tlo⟩ := t
  obtain ⟨w1, w2⟩ := s2
  simp only at w1 w2
  obtain ⟨th, rfl⟩ := Int.eq_ofNat_of_zero_le w1.1
  obtain ⟨tl, rfl⟩ := Int.eq_ofNat_of_zero_le w2.1
  have c1 := w1.2
  have c2 := w2.2
  have s4 : tl + 18446744073709551616 * th = n2 ⟨ahi, amid⟩ * 2 ^ 1 % 340282366920938463463374607431768211456 := s3
  have hev : tl % 2 = 0 := by omega
  have hor : bitsI .or .u64 (tl : Int) ((lo / 9223372036854775808 : Nat) : Int) = ((tl + lo / 9223372036854775808 : Nat) : Int) := by
    rw [bits_or (by omega) (by omega)]
    have := or_add (a := tl / 2) (b := lo / 9223372036854775808) (i := 1) (by omega)
    rw [Nat.pow_one, show 2 * (tl / 2) = tl by omega] at this
    rw [this]
  simp only [u3_Shl, u3_Shl_s, u3_Shl_t, u3_Shl_T, Tr.val, Tr.safe, ho, ht, hv, w63, hd, htop, s1, ht2, e2, e3, hor, cond_false]
  have en : n3 ⟨ahi, amid, (lo : Int)⟩ = lo + 18446744073709551616 * n2 ⟨ahi, amid⟩ := rfl
  rw [en]
  have hlt := n2_lt (a := ⟨ahi, amid⟩) ⟨h1, h2⟩
  generalize n2 ⟨ahi, amid⟩ = q at *
  unfold W3 Wd n3
  simp only [Int.toNat_natCast]
  refine ⟨rfl, ⟨?_, ?_, ?_⟩, ?_⟩ <;> omega
end Go.Fb
