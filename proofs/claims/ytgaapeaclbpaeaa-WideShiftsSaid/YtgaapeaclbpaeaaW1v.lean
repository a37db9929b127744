/- Contracts and laws of functions of the program, on the way to the claim. Conditions: as each theorem states. -/
import Derived.Test.YtgaapeaclbpaeaaW1u
namespace Go.Fb
open Go.Ev

/-- the least bit set -/
theorem setlo {a : U3} (ha : W3 a) {c : Nat} (hc : c ≤ 1) (he : n3 a % 2 = 0) : W3 ⟨a.hi, a.mid, bitsI .or .u64 a.lo (c : Int)⟩ ∧ n3 ⟨a.hi, a.mid, bitsI .or .u64 a.lo (c : Int)⟩ = n3 a + c := by
  obtain ⟨ahi, amid, alo⟩ := a
  obtain ⟨h1, h2, h3⟩ := ha
  simp only at h1 h2 h3
  obtain ⟨lo, rfl⟩ := Int.eq_ofNat_of_zero_le h3.1
  have b3 := h3.2
  have hev : lo % 2 = 0 := by unfold n3 at he; simp only [Int.toNat_natCast] at he; omega
  have hor : bitsI .or .u64 (lo : Int) (c : Int) = ((lo + c : Nat) : Int) := by
    rw [bits_or (by omega) (by omega)]
    have := or_add (a := lo / 2) (b := c) (i := 1) (by omega)
    rw [Nat.pow_one, show 2 * (lo / 2) = lo by omega] at this
    rw [this]
  simp only [hor]
  refine ⟨⟨h1, h2, ?_⟩, ?_⟩
  · unfold Wd; simp only; omega
  · unfold n3; simp only [Int.toNat_natCast]; omega
theorem divstep {A q b r j : Nat} (h : A / 2 ^ (j + 1) = q * b + r) : A / 2 ^ j = 2 * q * b + (2 * r + A / 2 ^ j % 2) := by
  have := div_step A j
  rw [h] at this
  rw [this, Nat.mul_add, Nat.mul_assoc]
  omega
theorem tdiv_run {a : U3} (ha : W3 a) {b : U2} (hb : W2 b) (hb0 : 0 < n2 b) (z : Bool) (z1 z2 z3 z4 z5 : Int) : ∀ (j : Nat), j ≤ 192 → ∀ q r : U3, W3 q → W3 r → n3 r < n2 b → n3 a / 2 ^ j = n3 q * n2 b + n3 r →
    ∃ q' r' : U3, runL (u3_Div_L0_step (z, a.hi, a.mid, a.lo, z1, z2, z3, z4, z5, 0, b.hi, b.lo)) (j + 1) ((j : Int) - 1, q.hi, q.mid, q.lo, r.hi, r.mid, r.lo) = some (-1, q'.hi, q'.mid, q'.lo, r'.hi, r'.mid, r'.lo) ∧ W3 q' ∧ W3 r' ∧ n3 r' < n2 b ∧ n3 a = n3 q' * n2 b + n3 r'
  | 0, _, q, r, hq, hr, hlt, hv => by
    refine ⟨q, r, ?_, hq, hr, hlt, by simpa using hv⟩
    rw [runL]; rfl
  | j + 1, hj, q, r, hq, hr, hlt, hv => by
    have e : ((j + 1 : Nat) : Int) - 1 = (j : Int) := by omega
    obtain ⟨qhi, qmid, qlo⟩ := q
    obtain ⟨rhi, rmid, rlo⟩ := r
    have hA := n3_lt ha
    have hB := n2_lt hb
    obtain ⟨s1, s2, s3⟩ := tshr_spec ha (n := j) (by omega)
    obtain ⟨d1, d2, d3⟩ := tdbl_spec hr
    obtain ⟨g1, g2, g3⟩ := tdbl_spec hq
    have hd := divstep hv
    have hqle : n3 ⟨qhi, qmid, qlo⟩ ≤ n3 a / 2 ^ (j + 1) := by
      rw [hv]; exact Nat.le_trans (Nat.le_mul_of_pos_right _ hb0) (Nat.le_add_right _ _)
    have hq2 : 2 * n3 ⟨qhi, qmid, qlo⟩ < 6277101735386680763835789423207666416102355444464034512896 := by
      have h1 : n3 a / 2 ^ (j + 1) * 2 ≤ n3 a := by
        have : n3 a / 2 ^ (j + 1) ≤ n3 a / 2 := by
          rw [Nat.pow_succ, Nat.mul_comm, ← Nat.div_div_eq_div_mul]; exact Nat.div_le_self _ _
        omega
      omega
    rw [Nat.mod_eq_of_lt (by omega)] at d3
    rw [Nat.mod_eq_of_lt hq2] at g3
    have hbit : bitsI .and .u64 (u3_Shr a (j : Int)).1.lo 1 = ((n3 a / 2 ^ j % 2 : Nat) : Int) := by
      obtain ⟨w, hw⟩ := Int.eq_ofNat_of_zero_le s2.2.2.1
      have hw2 := s2.2.2.2
      rw [hw] at hw2 ⊢
      have := bits_and (x := w) (y := 1) (by omega) (by decide)
      rw [show ((1 : Nat) : Int) = 1 from rfl, Nat.and_one_is_mod] at this
      rw [this, ← s3]
      unfold n3
      rw [hw]; simp only [Int.toNat_natCast]; omega
    have hc : n3 a / 2 ^ j % 2 ≤ 1 := by omega
    obtain ⟨t1, t2⟩ := setlo d2 hc (by rw [d3]; omega)
    obtain ⟨f1, f2⟩ := setlo g2 (c := 1) (by omega) (by rw [g3]; omega)
    have hbw : W3 ⟨0, b.hi, b.lo⟩ := ⟨wd0, hb.1, hb.2⟩
    have eb : n3 ⟨0, b.hi, b.lo⟩ = n2 b := by unfold n3 n2; simp
    rw [d3] at t2
    rw [g3] at f2
    have hcmp := tcmp_spec t1 hbw
    rw [t2, eb] at hcmp
    have ea : (⟨a.hi, a.mid, a.lo⟩ : U3) = a := rfl
    have w1 : IntKind.i64.wrap ((j : Int) - 1) = (j : Int) - 1 := w64 (by omega) (by omega)
    have hdj : decide ((j : Int) ≥ 0) = true := decide_eq_true (by omega)
    have hone : ((1 : Nat) : Int) = 1 := rfl
    rw [hone] at f1 f2
    rw [e]
    by_cases hge : n2 b ≤ 2 * n3 ⟨rhi, rmid, rlo⟩ + n3 a / 2 ^ j % 2
    · obtain ⟨u1, u2, u3⟩ := tsub_le t1 hbw (by rw [t2, eb]; exact hge)
      rw [t2, eb] at u3
      have hc0 : cmpN (2 * n3 ⟨rhi, rmid, rlo⟩ + n3 a / 2 ^ j % 2) (n2 b) ≥ 0 := by unfold cmpN; rw [if_neg (by omega)]; split <;> decide
      obtain ⟨q', r', k1, k2, k3, k4, k5⟩ := tdiv_run ha hb hb0 z z1 z2 z3 z4 z5 j (by omega) _ _ f1 u2 (by rw [u3]; omega) (by
        rw [f2, u3, hd, Nat.add_mul, Nat.one_mul]; omega)
      refine ⟨q', r', ?_, k2, k3, k4, k5⟩
      have key : (u3_Div_L0_step (z, a.hi, a.mid, a.lo, z1, z2, z3, z4, z5, 0, b.hi, b.lo) ((j : Int), qhi, qmid, qlo, rhi, rmid, rlo)).safe = true ∧ (u3_Div_L0_step (z, a.hi, a.mid, a.lo, z1, z2, z3, z4, z5, 0, b.hi, b.lo) ((j : Int), qhi, qmid, qlo, rhi, rmid, rlo)).val = .inl ((j : Int) - 1, (u3_Shl ⟨qhi, qmid, qlo⟩ 1).hi, (u3_Shl ⟨qhi, qmid, qlo⟩ 1).mid, bitsI .or .u64 (u3_Shl ⟨qhi, qmid, qlo⟩ 1).lo 1, (u3_Sub ⟨(u3_Shl ⟨rhi, rmid, rlo⟩ 1).hi, (u3_Shl ⟨rhi, rmid, rlo⟩ 1).mid, bitsI .or .u64 (u3_Shl ⟨rhi, rmid, rlo⟩ 1).lo ((n3 a / 2 ^ j % 2 : Nat) : Int)⟩ ⟨0, b.hi, b.lo⟩).1.hi, (u3_Sub ⟨(u3_Shl ⟨rhi, rmid, rlo⟩ 1).hi, (u3_Shl ⟨rhi, rmid, rlo⟩ 1).mid, bitsI .or .u64 (u3_Shl ⟨rhi, rmid, rlo⟩ 1).lo ((n3 a / 2 ^ j % 2 : Nat) : Int)⟩ ⟨0, b.hi, b.lo⟩).1.mid, (u3_Sub ⟨(u3_Shl ⟨rhi, rmid, rlo⟩ 1).hi, (u3_Shl ⟨rhi, rmid, rlo⟩ 1).mid, bitsI .or .u64 (u3_Shl ⟨rhi, rmid, rlo⟩ 1).lo ((n3 a / 2 ^ j % 2 : Nat) : Int)⟩ ⟨0, b.hi, b.lo⟩).1.lo) := by
        simp only [u3_Div_L0_step, u3_Div_L0_T, Tr.val, Tr.safe, ea, hbit, s1, d1, g1, hcmp, u1, w1, hdj, decide_eq_true hc0]
        exact ⟨rfl, rfl⟩
      rw [runL, key.1, key.2]
      exact k1
    · have hc0 : ¬ cmpN (2 * n3 ⟨rhi, rmid, rlo⟩ + n3 a / 2 ^ j % 2) (n2 b) ≥ 0 := by unfold cmpN; rw [if_pos (by omega)]; decide
      obtain ⟨q', r', k1, k2, k3, k4, k5⟩ := tdiv_run ha hb hb0 z z1 z2 z3 z4 z5 j (by omega) _ _ g2 t1 (by rw [t2]; omega) (by rw [g3, t2]; exact hd)
      refine ⟨q', r', ?_, k2, k3, k4, k5⟩
      have key : (u3_Div_L0_step (z, a.hi, a.mid, a.lo, z1, z2, z3, z4, z5, 0, b.hi, b.lo) ((j : Int), qhi, qmid, qlo, rhi, rmid, rlo)).safe = true ∧ (u3_Div_L0_step (z, a.hi, a.mid, a.lo, z1, z2, z3, z4, z5, 0, b.hi, b.lo) ((j : Int), qhi, qmid, qlo, rhi, rmid, rlo)).val = .inl ((j : Int) - 1, (u3_Shl ⟨qhi, qmid, qlo⟩ 1).hi, (u3_Shl ⟨qhi, qmid, qlo⟩ 1).mid, (u3_Shl ⟨qhi, qmid, qlo⟩ 1).lo, (u3_Shl ⟨rhi, rmid, rlo⟩ 1).hi, (u3_Shl ⟨rhi, rmid, rlo⟩ 1).mid, bitsI .or .u64 (u3_Shl ⟨rhi, rmid, rlo⟩ 1).lo ((n3 a / 2 ^ j % 2 : Nat) : Int)) := by
        simp only [u3_Div_L0_step, u3_Div_L0_T, Tr.val, Tr.safe, ea, hbit, s1, d1, g1, hcmp, w1, hdj, decide_eq_false hc0]
        exact ⟨rfl, rfl⟩
      rw [runL, key.1, key.2]
      exact k1
end Go.Fb
