/- Contracts and laws of functions of the program, on the way to the claim. Conditions: as each theorem states. -/
import Derived.Test.YtgaapeaclbpaeaaW1i
namespace Go.Fb
open Go.Ev

theorem twice_spec {s : Nat} (h : s < 18446744073709551616) : u2_Shl_s ⟨0, (s : Int)⟩ 1 = true ∧ W2 (u2_Shl ⟨0, (s : Int)⟩ 1) ∧ n2 (u2_Shl ⟨0, (s : Int)⟩ 1) = 2 * s := by
  have hr : u2_Shl_L0_r (0, 0) (1, 0, (s : Int)) = some (.inl (1, 0, (s : Int))) := runB_of (n := 1) rfl (by decide)
  have w63 : IntKind.i64.wrap (64 - 1) = 63 := rfl
  have e1 : shlI .u64 0 1 = 0 := rfl
  have e2 : shrI .u64 (s : Int) 63 = ((s / 9223372036854775808 : Nat) : Int) := shr_nat s 63 (by decide)
  have e3 : shlI .u64 (s : Int) 1 = ((2 * s % 18446744073709551616 : Nat) : Int) := by
    have : shlI .u64 (s : Int) 1 = IntKind.u64.wrap ((s : Int) * 2) := rfl
    rw [this, u64w]
    omega
  have e4 : bitsI .or .u64 0 ((s / 9223372036854775808 : Nat) : Int) = ((s / 9223372036854775808 : Nat) : Int) := by
    have := bits_or (x := 0) (y := s / 9223372036854775808) (by decide) (by omega)
    simpa using this
  have hv : u2_Shl_L0_v (0, 0) (1, 0, (s : Int)) = (1, 0, (s : Int)) := by unfold u2_Shl_L0_v; rw [hr]; rfl
  have ht : u2_Shl_L0_rt (0, 0) (1, 0, (s : Int)) = false := by unfold u2_Shl_L0_rt; rw [hr]; rfl
  have ho : u2_Shl_L0_ok (0, 0) (1, 0, (s : Int)) = true := by unfold u2_Shl_L0_ok; rw [hr]; rfl
  have hd : decide ((1 : Int) ≤ 0) = false := rfl
  simp only [u2_Shl, u2_Shl_s, u2_Shl_t, u2_Shl_T, Tr.val, Tr.safe, ho, ht, hv, w63, e1, e2, e3, e4, hd, cond_false]
  unfold W2 Wd n2
  simp only
  refine ⟨rfl, ⟨?_, ?_⟩, ?_⟩ <;> omega
theorem WideRoots_both {a : U2} (ha : W2 a) : l1_WideRoots a = true ∧ l1_WideRoots_s a = true := by
  obtain ⟨s, q1, q2, q3, q4, q5, q6⟩ := sqrt_spec ha
  have hw : Wd (s : Int) := by unfold Wd; omega
  obtain ⟨m1, m2⟩ := wmul_spec hw hw
  rw [Int.toNat_natCast] at m2
  obtain ⟨k1, k2, k3, k4⟩ := uadd_spec m1 q5
  obtain ⟨t1, t2, t3⟩ := twice_spec q4
  have hn : n2 a < 340282366920938463463374607431768211456 := by
    obtain ⟨h1, h2⟩ := ha
    unfold Wd n2 at *
    omega
  have hle := q3.1
  rw [m2, q6] at k3 k4
  have e : s * s + (n2 a - s * s) = n2 a := by omega
  rw [e, Nat.mod_eq_of_lt hn] at k3
  rw [e, Nat.div_eq_of_lt hn] at k4
  have ea := n2_inj k2 ha k3
  have hc := ucmp_spec q5 t2
  rw [q6, t3] at hc
  have hcmp : cmpN (n2 a - s * s) (2 * s) ≤ 0 := by
    have := q3.2
    have e2 : (s + 1) * (s + 1) = s * s + 2 * s + 1 := by rw [Nat.add_mul, Nat.mul_add]; omega
    unfold cmpN
    split
    · decide
    · split
      · decide
      · omega
  simp only [l1_WideRoots, l1_WideRoots_s, l1_WideRoots_t, l1_WideRoots_T, Tr.val, Tr.safe, works1, q1, q2, k1, k4, ea, t1, hc, decide_eq_true hcmp, beq_self_eq_true]
  exact ⟨rfl, rfl⟩
end Go.Fb
