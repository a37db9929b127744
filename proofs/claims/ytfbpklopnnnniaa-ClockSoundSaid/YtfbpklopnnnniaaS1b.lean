/- Contracts and laws of functions of the program, on the way to the claim. Conditions: as each theorem states. -/
import Derived.Test.YtfbpklopnnnniaaS1a
namespace Go.Proofs.Ytfbpklopnnnniaa
open Go.Ev Go.Fb
set_option maxRecDepth 10000

theorem w64 {n : Int} (h0 : -9223372036854775808 ≤ n) (h1 : n ≤ 9223372036854775807) : IntKind.i64.wrap n = n := by
  simp only [IntKind.wrap, IntKind.bits, IntKind.signed]
  simp
  omega
theorem imax_eq (x y : Int) : imax x y = max x y := by unfold imax; split <;> omega
theorem imin_eq (x y : Int) : imin x y = min x y := by unfold imin; split <;> omega
def nrm (s : I3) : I3 := if s.e = true ∨ s.lo > s.hi ∨ s.lo ≥ 1099511627776 ∨ s.hi ≤ -1099511627776 then ⟨true, 0, 0⟩ else ⟨false, max s.lo (-1099511627776), min s.hi 1099511627776⟩
theorem none_eq : ints_none = ⟨true, 0, 0⟩ := rfl
theorem norm_eq (s : I3) : ints_norm s = nrm s := by
  obtain ⟨e, lo, hi⟩ := s
  cases e <;> simp only [ints_norm, ints_norm_t, ints_norm_T, Tr.val, nrm, cond_true, cond_false, Bool.cond_decide, none_eq, imax_eq, imin_eq]
  · by_cases h1 : lo > hi
    · simp [h1]
    · by_cases h2 : lo ≥ 1099511627776
      · simp [h1, h2]
      · by_cases h3 : hi ≤ -1099511627776
        · simp [h1, h2, h3]
        · simp [h1, h2, h3]
  · simp
/-- a set of integers, in the one way -/
def Nm (s : I3) : Prop := s = ⟨true, 0, 0⟩ ∨ s.e = false ∧ -1099511627776 ≤ s.lo ∧ s.lo < 1099511627776 ∧ -1099511627776 < s.hi ∧ s.hi ≤ 1099511627776 ∧ s.lo ≤ s.hi
theorem nm_nrm (s : I3) : Nm (nrm s) := by
  unfold nrm
  split
  · exact .inl rfl
  · rename_i h
    simp only [not_or] at h
    refine .inr ⟨rfl, ?_⟩
    simp only
    omega
theorem nrm_nm {s : I3} (h : Nm s) : nrm s = s := by
  rcases h with rfl | ⟨h1, h2, h3, h4, h5, h6⟩
  · rfl
  · obtain ⟨e, lo, hi⟩ := s
    simp only at h1 h2 h3 h4 h5 h6
    subst h1
    unfold nrm
    rw [if_neg (by simp; omega)]
    simp only [I3.mk.injEq, true_and]
    omega
/-- integers of it -/
def inI (s : I3) (n : Int) : Prop := s.e = false ∧ (s.lo = -1099511627776 ∨ s.lo ≤ n) ∧ (s.hi = 1099511627776 ∨ n ≤ s.hi)

theorem abs_small {n : Int} (h0 : -1099511627776 ≤ n) (h1 : n ≤ 1099511627776) : ints_abs n = max n (-n) := by
  simp only [ints_abs, ints_abs_t, ints_abs_T, Tr.val, imax_eq]
  rw [w64 (by omega) (by omega)]
  omega
theorem times_safe {x y : Int} (h0 : -1099511627776 ≤ y) (h1 : y ≤ 1099511627776) : ints_times_s x y = true := by
  by_cases hx : x = 0
  · simp [ints_times_s, ints_times_t, ints_times_T, Tr.safe, hx]
  by_cases hy : y = 0
  · simp [ints_times_s, ints_times_t, ints_times_T, Tr.safe, hy]
  have : (ints_abs y == 0) = false := by
    rw [abs_small h0 h1]
    simp
    omega
  simp only [ints_times_s, ints_times_t, ints_times_T, Tr.safe, this]
  simp
theorem over_safe {x y : Int} (h : y ≠ 0) : ints_over_s x y = true := by
  have : (y == 0) = false := by simp [h]
  simp only [ints_over_s, ints_over_t, ints_over_T, Tr.safe, this]
  simp
theorem corT_safe (a b : I3) : ints_corT_s a ((ints_norm b).lo, (ints_norm b).hi) () = true := by
  have h1 : ∀ x, ints_times_s x (ints_norm b).lo = true := by
    intro x
    rw [norm_eq]
    refine times_safe ?_ ?_ <;> rcases nm_nrm b with h | h <;> first | (rw [h]; decide) | omega
  have h2 : ∀ x, ints_times_s x (ints_norm b).hi = true := by
    intro x
    rw [norm_eq]
    refine times_safe ?_ ?_ <;> rcases nm_nrm b with h | h <;> first | (rw [h]; decide) | omega
  unfold ints_corT_s ints_corT_t ints_corT_T
  show (ints_times_s a.lo (ints_norm b).lo && (ints_times_s a.lo (ints_norm b).hi && (ints_times_s a.hi (ints_norm b).lo && (ints_times_s a.hi (ints_norm b).hi && true)))) = true
  simp [h1, h2]
theorem cor1_safe {a : I3} {x : Int} (h1 : x ≠ 0) : ints_cor1_s a x () = true := by
  show (ints_over_s a.lo x && (ints_over_s a.hi x && true)) = true
  simp [over_safe h1]
theorem cor2_safe {a : I3} {x y : Int} (h1 : x ≠ 0) (h2 : y ≠ 0) : ints_cor2_s a (x, y) () = true := by
  show (ints_over_s a.lo x && (ints_over_s a.lo y && (ints_over_s a.hi x && (ints_over_s a.hi y && true)))) = true
  simp [over_safe h1, over_safe h2]
theorem cor3_safe {a : I3} {x y z : Int} (h1 : x ≠ 0) (h2 : y ≠ 0) (h3 : z ≠ 0) : ints_cor3_s a (x, y, z) () = true := by
  show (ints_over_s a.lo x && (ints_over_s a.lo y && (ints_over_s a.lo z && (ints_over_s a.hi x && (ints_over_s a.hi y && (ints_over_s a.hi z && true)))))) = true
  simp [over_safe h1, over_safe h2, over_safe h3]
theorem cor4_safe {a : I3} {x y z u : Int} (h1 : x ≠ 0) (h2 : y ≠ 0) (h3 : z ≠ 0) (h4 : u ≠ 0) : ints_cor4_s a (x, y, z, u) () = true := by
  show (ints_over_s a.lo x && (ints_over_s a.lo y && (ints_over_s a.lo z && (ints_over_s a.lo u && (ints_over_s a.hi x && (ints_over_s a.hi y && (ints_over_s a.hi z && (ints_over_s a.hi u && true)))))))) = true
  simp [over_safe h1, over_safe h2, over_safe h3, over_safe h4]
end Go.Proofs.Ytfbpklopnnnniaa
