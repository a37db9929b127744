/- Contracts and laws of functions of the program, on the way to the claim. Conditions: as each theorem states. -/
import Derived.Test.YtgaapeaclbpaeaaWA1
namespace Go.Fb
open Go.Ev

theorem lz64_spec {y : Nat} (hy : y < 18446744073709551616) (h0 : 0 < y) : ∃ s : Nat, bits_LZ64 (y : Int) = (s : Int) ∧ s < 64 ∧ 9223372036854775808 ≤ y * 2 ^ s ∧ y * 2 ^ s < 18446744073709551616 := by
  obtain ⟨l, hl, ⟨h1, h2⟩, h3⟩ := len64_spec hy
  have hl0 : l ≠ 0 := by rintro rfl; simp at h1; omega
  refine ⟨64 - l, ?_, by omega, ?_, ?_⟩
  · have e : bits_LZ64 (y : Int) = IntKind.i64.wrap (64 - bits_Len64 (y : Int)) := rfl
    rw [e, hl, w64 (by omega) (by omega)]
    omega
  · have h4 : 2 ^ (l - 1) ≤ y := h2.resolve_left hl0
    have := Nat.mul_le_mul_right (2 ^ (64 - l)) h4
    rw [← Nat.pow_add, show l - 1 + (64 - l) = 63 by omega] at this
    exact this
  · have := Nat.mul_lt_mul_of_pos_right h1 (Nat.two_pow_pos (64 - l))
    rw [← Nat.pow_add, show l + (64 - l) = 64 by omega] at this
    exact this
theorem two_digits {U Y w1 w0 : Nat} (hY : 0 < Y) (_h0 : w0 < 4294967296) : (18446744073709551616 * U + 4294967296 * w1 + w0) / Y = 4294967296 * ((4294967296 * U + w1) / Y) + (4294967296 * ((4294967296 * U + w1) % Y) + w0) / Y ∧
    (18446744073709551616 * U + 4294967296 * w1 + w0) % Y = (4294967296 * ((4294967296 * U + w1) % Y) + w0) % Y := by
  have e : 18446744073709551616 * U + 4294967296 * w1 + w0 = (4294967296 * ((4294967296 * U + w1) % Y) + w0) + Y * (4294967296 * ((4294967296 * U + w1) / Y)) := by
    have := Nat.div_add_mod (4294967296 * U + w1) Y
    rw [Nat.mul_left_comm Y]
    omega
  rw [e, Nat.add_mul_div_left _ _ hY, Nat.add_mul_mod_self_left]
  exact ⟨by omega, rfl⟩
def Hid1 (p : Prop) : Prop := p
set_option maxHeartbeats 1000000 in
set_option maxRecDepth 40000 in
theorem div64_spec {hi lo y : Nat} (hlo : lo < 18446744073709551616) (hy : y < 18446744073709551616) (h : hi < y) :
    bits_Div64_s (hi : Int) (lo : Int) (y : Int) = true ∧ bits_Div64 (hi : Int) (lo : Int) (y : Int) = (((((18446744073709551616 * hi + lo) / y : Nat) : Int)), (((18446744073709551616 * hi + lo) % y : Nat) : Int)) := by
  have es : bits_Div64_s (hi : Int) (lo : Int) (y : Int) = (bits_Div64_t (hi : Int) (lo : Int) (y : Int)).safe := rfl
  have ev : bits_Div64 (hi : Int) (lo : Int) (y : Int) = (bits_Div64_t (hi : Int) (lo : Int) (y : Int)).val := rfl
  rw [es, ev]
  obtain ⟨s, hs, hs64, hY1, hY2⟩ := lz64_spec hy (by omega)
  have hsw : IntKind.u64.wrap (s : Int) = (s : Int) := by rw [u64w]; omega
  have hy0 : ((y : Int) == 0) = false := by simp; omega
  have hyh : decide ((y : Int) ≤ (hi : Int)) = false := by simp; omega
  have hs0 : decide (0 ≤ (s : Int)) = true := by simp
  have ht7 : IntKind.u64.wrap (64 - (s : Int)) = ((64 - s : Nat) : Int) := by rw [u64w]; omega
  have ht7' : decide (0 ≤ ((64 - s : Nat) : Int)) = true := by simp
  unfold bits_Div64_t bits_Div64_T
  simp only [hs, hsw, hy0, hyh, hs0, ht7, ht7', Tr.safe, Tr.val, Bool.not_false, Bool.true_and]
  clear es ev hs hsw hy0 hyh hs0 ht7 ht7'
  by_cases hh : hi = 0
  · subst hh
    simp only [Int.natCast_zero, beq_self_eq_true, cond_true, Nat.mul_zero, Nat.zero_add, true_and]
    refine Prod.ext ?_ ?_
    · have : ((lo : Int)).tdiv (y : Int) = ((lo / y : Nat) : Int) := by
        rw [Int.tdiv_eq_ediv_of_nonneg (Int.natCast_nonneg lo)]; exact (Int.natCast_ediv lo y).symm
      simp only [this]
      have := Nat.div_le_self lo y
      generalize lo / y = k at *
      rw [u64w]; omega
    · have : ((lo : Int)).tmod (y : Int) = ((lo % y : Nat) : Int) := by
        rw [Int.tmod_eq_emod_of_nonneg (Int.natCast_nonneg lo)]; exact (Int.natCast_emod lo y).symm
      exact this
  · have hh0 : ((hi : Int) == 0) = false := by simp; omega
    simp only [hh0, cond_false]
    -- the shifted numbers
    have hYs : shlI .u64 (y : Int) (s : Int) = ((y * 2 ^ s : Nat) : Int) := by rw [shl_nat _ _ (by omega), Nat.mod_eq_of_lt hY2]
    have hhs : shlI .u64 (hi : Int) (s : Int) = ((hi * 2 ^ s % 18446744073709551616 : Nat) : Int) := shl_nat _ _ (by omega)
    have hLs : shlI .u64 (lo : Int) (s : Int) = ((lo * 2 ^ s % 18446744073709551616 : Nat) : Int) := shl_nat _ _ (by omega)
    have hls : shrI .u64 (lo : Int) ((64 - s : Nat) : Int) = ((lo / 2 ^ (64 - s) : Nat) : Int) := shr_nat _ _ (by omega)
    have hlo2 : lo / 2 ^ (64 - s) < 18446744073709551616 := Nat.lt_of_le_of_lt (Nat.div_le_self _ _) hlo
    -- their joint value
    obtain ⟨U, L, hU, hL, hUL, hUlt, hLlt⟩ : ∃ U L : Nat, bitsI .or .u64 ((hi * 2 ^ s % 18446744073709551616 : Nat) : Int) ((lo / 2 ^ (64 - s) : Nat) : Int) = (U : Int) ∧ lo * 2 ^ s % 18446744073709551616 = L ∧ 18446744073709551616 * U + L = (18446744073709551616 * hi + lo) * 2 ^ s ∧ U < y * 2 ^ s ∧ L < 18446744073709551616 := by
      have hN : (18446744073709551616 * hi + lo) * 2 ^ s < 18446744073709551616 * (y * 2 ^ s) := by
        have h1 : 18446744073709551616 * hi + lo < 18446744073709551616 * y := by omega
        have := Nat.mul_lt_mul_of_pos_right h1 (Nat.two_pow_pos s)
        rw [Nat.mul_assoc 18446744073709551616 y] at this
        exact this
      have hU0 : bitsI .or .u64 ((hi * 2 ^ s % 18446744073709551616 : Nat) : Int) ((lo / 2 ^ (64 - s) : Nat) : Int) = ((hi * 2 ^ s % 18446744073709551616 ||| lo / 2 ^ (64 - s) : Nat) : Int) :=
        bits_or (Nat.mod_lt _ (by decide)) hlo2
      rcases Nat.eq_zero_or_pos s with h0 | h0
      · subst h0
        refine ⟨hi, lo, ?_, ?_, ?_, ?_, hlo⟩
        · rw [hU0]
          have e1 : lo / 2 ^ (64 - 0) = 0 := Nat.div_eq_of_lt (by simpa using hlo)
          have e2 : hi * 2 ^ 0 % 18446744073709551616 = hi := by rw [Nat.pow_zero, Nat.mul_one]; exact Nat.mod_eq_of_lt (by omega)
          rw [e1, e2]; simp
        · rw [Nat.pow_zero, Nat.mul_one]; exact Nat.mod_eq_of_lt hlo
        · simp
        · simpa using h
      · obtain ⟨c1, c2⟩ := shl_core (hi := hi) (lo := lo) (by omega) hlo h0 hs64
        have hN2 : (18446744073709551616 * hi + lo) * 2 ^ s < 340282366920938463463374607431768211456 := by omega
        have e : (lo + 18446744073709551616 * hi) * 2 ^ s = (18446744073709551616 * hi + lo) * 2 ^ s := by rw [Nat.add_comm lo]
        rw [e, Nat.mod_eq_of_lt hN2] at c2
        refine ⟨_, _, hU0, rfl, by omega, ?_, Nat.mod_lt _ (by decide)⟩
        omega
    simp only [hYs, hhs, hLs, hls, hU, hL]
    clear hYs hhs hLs hls hU hL hlo2
    generalize hYd : y * 2 ^ s = Y at hY1 hY2 hUlt ⊢
    replace hYd : Hid1 (y * 2 ^ s = Y) := hYd
    generalize hNd : (18446744073709551616 * hi + lo) * 2 ^ s = N at hUL
    replace hNd : Hid1 ((18446744073709551616 * hi + lo) * 2 ^ s = N) := hNd
    have d1e : shrI .u64 (Y : Int) 32 = ((Y / 4294967296 : Nat) : Int) := shr_nat Y 32 (by decide)
    have w1e : shrI .u64 (L : Int) 32 = ((L / 4294967296 : Nat) : Int) := shr_nat L 32 (by decide)
    have d0e : bitsI .and .u64 (Y : Int) 4294967295 = ((Y % 4294967296 : Nat) : Int) := by rw [and32 (by unfold Wd; omega)]; omega
    have w0e : bitsI .and .u64 (L : Int) 4294967295 = ((L % 4294967296 : Nat) : Int) := by rw [and32 (by unfold Wd; omega)]; omega
    simp only [d1e, w1e, d0e, w0e]
    clear d1e w1e d0e w0e
    have hYdm : 4294967296 * (Y / 4294967296) + Y % 4294967296 = Y := by omega
    have hd1 : Y / 4294967296 < 4294967296 := by omega
    have hd1' : 2147483648 ≤ Y / 4294967296 := by omega
    have hd0 : Y % 4294967296 < 4294967296 := by omega
    have hw1 : L / 4294967296 < 4294967296 := by omega
    have hw0 : L % 4294967296 < 4294967296 := by omega
    generalize hd1g : Y / 4294967296 = d1 at *
    generalize hd0g : Y % 4294967296 = d0 at *
    have hLdm : L = 4294967296 * (L / 4294967296) + L % 4294967296 := by omega
    generalize hw1g : L / 4294967296 = w1 at *
    generalize hw0g : L % 4294967296 = w0 at *
    have hd1n : ((d1 : Int) == 0) = false := by simp; omega
    -- a first guess
    have guess : ∀ u w : Nat, u < Y → w < 4294967296 → IntKind.u64.wrap ((u : Int).tdiv (d1 : Int)) = ((u / d1 : Nat) : Int) ∧ IntKind.u64.wrap ((u : Int) - IntKind.u64.wrap (((u / d1 : Nat) : Int) * (d1 : Int))) = ((u % d1 : Nat) : Int) ∧
        u / d1 ≤ 18446744073709551615 ∧ u / d1 * d1 + u % d1 = u ∧ u % d1 < 4294967296 ∧ (4294967296 * u + w) / (4294967296 * d1 + d0) ≤ u / d1 := by
      intro u w hu hw
      have e1 : (u : Int).tdiv (d1 : Int) = ((u / d1 : Nat) : Int) := by
        rw [Int.tdiv_eq_ediv_of_nonneg (Int.natCast_nonneg u)]; exact (Int.natCast_ediv u d1).symm
      have hle := Nat.div_le_self u d1
      have hdm : u / d1 * d1 + u % d1 = u := by rw [Nat.mul_comm]; exact Nat.div_add_mod u d1
      have hml := Nat.mod_lt u (show 0 < d1 by omega)
      refine ⟨by rw [e1]; generalize u / d1 = k at *; rw [u64w]; omega, ?_, by omega, hdm, by omega, ?_⟩
      · rw [← Int.natCast_mul]
        generalize u / d1 * d1 = p at *
        generalize u % d1 = m at *
        rw [u64w, u64w]; omega
      · have hA : (4294967296 * u + w) / (4294967296 * d1 + d0) ≤ (4294967296 * u + w) / (4294967296 * d1) := Nat.div_le_div_left (Nat.le_add_right _ _) (by omega)
        have hB : (4294967296 * u + w) / (4294967296 * d1) = u / d1 := by
          rw [← Nat.div_div_eq_div_mul, show (4294967296 * u + w) / 4294967296 = u by omega]
        rw [hB] at hA
        exact hA
    obtain ⟨a1, a2, a3, a4, a5, a6⟩ := guess U w1 hUlt hw1
    simp only [a1, a2]
    obtain ⟨q1, r1, b1, b2, b3⟩ := dig0_run hd1 hd1' hd0 hw1 (by rw [hYdm]; exact hUlt) ((Y : Nat) : Int) 0 0 (s : Int) ((U : Nat) : Int) ((w0 : Nat) : Int) (false, false, false) 18446744073709551615 (U / d1) (U % d1) a3 a3 a4 a5 a6
    rw [hYdm] at b2
    have L0 : bits_Div64_L0_r ((Y : Int), 0, 0, (s : Int), (d1 : Int), (d0 : Int), (U : Int), (w1 : Int), (w0 : Int), false, false, false) (((U / d1 : Nat) : Int), ((U % d1 : Nat) : Int)) = some ((q1 : Int), (r1 : Int)) := b1
    have L0ok : bits_Div64_L0_ok ((Y : Int), 0, 0, (s : Int), (d1 : Int), (d0 : Int), (U : Int), (w1 : Int), (w0 : Int), false, false, false) (((U / d1 : Nat) : Int), ((U % d1 : Nat) : Int)) = true := by unfold bits_Div64_L0_ok; rw [L0]; rfl
    have L0v : bits_Div64_L0_v ((Y : Int), 0, 0, (s : Int), (d1 : Int), (d0 : Int), (U : Int), (w1 : Int), (w0 : Int), false, false, false) (((U / d1 : Nat) : Int), ((U % d1 : Nat) : Int)) = ((q1 : Int), (r1 : Int)) := by unfold bits_Div64_L0_v; rw [L0]; rfl
    simp only [L0ok, L0v]
    have hYp : 0 < Y := by omega
    -- what is left
    have hV : ((4294967296 * U + w1) % Y) < Y := Nat.mod_lt _ hYp
    have hVe : (4294967296 * U + w1) = q1 * Y + (4294967296 * U + w1) % Y := by
      rw [b2, Nat.mul_comm _ Y]; exact (Nat.div_add_mod _ _).symm
    have hVw : IntKind.u64.wrap (IntKind.u64.wrap (IntKind.u64.wrap ((U : Int) * 4294967296) + (w1 : Int)) - IntKind.u64.wrap ((q1 : Int) * (Y : Int))) = (((4294967296 * U + w1) % Y : Nat) : Int) := by
      rw [← Int.natCast_mul]
      generalize q1 * Y = p at *
      generalize (4294967296 * U + w1) % Y = V at *
      rw [u64w, u64w, u64w, u64w]
      omega
    simp only [hVw]
    generalize hVg : (4294967296 * U + w1) % Y = V at *
    obtain ⟨c1, c2, c3, c4, c5, c6⟩ := guess V w0 hV hw0
    simp only [c1, c2]
    obtain ⟨q0, r0, e1, e2, e3⟩ := dig1_run hd1 hd1' hd0 hw0 (by rw [hYdm]; exact hV) ((Y : Nat) : Int) 0 0 (s : Int) ((q1 : Nat) : Int) ((V : Nat) : Int) (false, false, false) 18446744073709551615 (V / d1) (V % d1) c3 c3 c4 c5 c6
    rw [hYdm] at e2
    have L1 : bits_Div64_L1_r ((Y : Int), 0, 0, (s : Int), (d1 : Int), (d0 : Int), (w0 : Int), (q1 : Int), (V : Int), false, false, false) (((V % d1 : Nat) : Int), ((V / d1 : Nat) : Int)) = some ((r0 : Int), (q0 : Int)) := e1
    have L1ok : bits_Div64_L1_ok ((Y : Int), 0, 0, (s : Int), (d1 : Int), (d0 : Int), (w0 : Int), (q1 : Int), (V : Int), false, false, false) (((V % d1 : Nat) : Int), ((V / d1 : Nat) : Int)) = true := by unfold bits_Div64_L1_ok; rw [L1]; rfl
    have L1v : bits_Div64_L1_v ((Y : Int), 0, 0, (s : Int), (d1 : Int), (d0 : Int), (w0 : Int), (q1 : Int), (V : Int), false, false, false) (((V % d1 : Nat) : Int), ((V / d1 : Nat) : Int)) = ((r0 : Int), (q0 : Int)) := by unfold bits_Div64_L1_v; rw [L1]; rfl
    simp only [L1ok, L1v, hd1n, Bool.not_false, Bool.true_and, and_self, true_and]
    have hN : 18446744073709551616 * U + 4294967296 * w1 + w0 = (18446744073709551616 * hi + lo) * 2 ^ s := by
      have hNd : (18446744073709551616 * hi + lo) * 2 ^ s = N := hNd
      rw [hNd, ← hUL]
      clear hNd
      omega
    obtain ⟨t1, t2⟩ := two_digits (U := U) (w1 := w1) hYp hw0
    rw [hVg] at t1 t2
    have hYd : y * 2 ^ s = Y := hYd
    rw [hN, ← hYd, Nat.mul_div_mul_right _ _ (Nat.two_pow_pos s)] at t1
    rw [hN, ← hYd, Nat.mul_mod_mul_right] at t2
    rw [hYd] at t1 t2
    clear hYd hN
    have hq1 : q1 < 4294967296 := by
      rw [b2]; refine (Nat.div_lt_iff_lt_mul hYp).2 ?_; omega
    have hq0 : q0 < 4294967296 := by
      rw [e2]; refine (Nat.div_lt_iff_lt_mul hYp).2 ?_; omega
    have hWe : 4294967296 * V + w0 = q0 * Y + (4294967296 * V + w0) % Y := by
      rw [e2, Nat.mul_comm _ Y]; exact (Nat.div_add_mod _ _).symm
    have hWl : (4294967296 * V + w0) % Y < Y := Nat.mod_lt _ hYp
    refine Prod.ext ?_ ?_
    · show IntKind.u64.wrap (IntKind.u64.wrap ((q1 : Int) * 4294967296) + (q0 : Int)) = _
      rw [t1, ← b2, ← e2, u64w, u64w]
      omega
    · show shrI .u64 (IntKind.u64.wrap (IntKind.u64.wrap (IntKind.u64.wrap ((V : Int) * 4294967296) + (w0 : Int)) - IntKind.u64.wrap ((q0 : Int) * (Y : Int)))) (s : Int) = _
      have : IntKind.u64.wrap (IntKind.u64.wrap (IntKind.u64.wrap ((V : Int) * 4294967296) + (w0 : Int)) - IntKind.u64.wrap ((q0 : Int) * (Y : Int))) = (((4294967296 * V + w0) % Y : Nat) : Int) := by
        rw [← Int.natCast_mul]
        generalize q0 * Y = p at *
        generalize (4294967296 * V + w0) % Y = W at *
        rw [u64w, u64w, u64w, u64w]
        omega
      rw [this, shr_nat _ _ (by omega), ← t2, Nat.mul_div_cancel _ (Nat.two_pow_pos s)]
end Go.Fb
