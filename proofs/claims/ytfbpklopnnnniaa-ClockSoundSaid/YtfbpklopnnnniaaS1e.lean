/- Contracts and laws of functions of the program, on the way to the claim. Conditions: as each theorem states. -/
import Derived.Test.YtfbpklopnnnniaaS1d
namespace Go.Proofs.Ytfbpklopnnnniaa
open Go.Ev Go.Fb

theorem works17 : l17_works = true := by kernel_rfl
theorem make_eq (lo hi : Int) : ints_Make lo hi = nrm ⟨false, lo, hi⟩ := norm_eq ⟨false, lo, hi⟩
theorem point_eq (n : Int) : ints_Point n = nrm ⟨false, n, n⟩ := (make_eq n n)
theorem rnorm_eq (s : I3) : ref_Norm s = nrm s := by
  obtain ⟨e, lo, hi⟩ := s
  cases e <;> simp only [ref_Norm, ref_Norm_t, ref_Norm_T, Tr.val, nrm, cond_true, cond_false, Bool.cond_decide, imax_eq, imin_eq]
  · by_cases h1 : lo > hi
    · simp [h1]
    · by_cases h2 : lo ≥ 1099511627776
      · simp [h1, h2]
      · by_cases h3 : hi ≤ -1099511627776
        · simp [h1, h2, h3]
        · simp [h1, h2, h3]
  · simp
theorem nrm_e {s : I3} (h : (nrm s).e = true) : nrm s = ⟨true, 0, 0⟩ := by
  rcases nm_nrm s with h' | h'
  · exact h'
  · rw [h'.1] at h; cases h
def has (x : I3) (n : Int) : Bool := !x.e && ((x.lo == -1099511627776 || decide (x.lo ≤ n)) && (x.hi == 1099511627776 || decide (n ≤ x.hi)))
def inside (x y : I3) : Bool := x.e || (!y.e && (decide (y.lo ≤ x.lo) && decide (x.hi ≤ y.hi)))
def join (x y : I3) : I3 := if x.e then y else if y.e then x else ⟨false, min x.lo y.lo, max x.hi y.hi⟩
def meet (x y : I3) : I3 := if x.e ∨ y.e then ⟨true, 0, 0⟩ else nrm ⟨false, max x.lo y.lo, min x.hi y.hi⟩
theorem has_eq (s : I3) (n : Int) : ints_Has s n = has (nrm s) n := by
  simp only [ints_Has, ints_Has_t, ints_Has_T, Tr.val, norm_eq, has]
  generalize nrm s = x
  cases x.e <;> cases (x.lo == -1099511627776) <;> cases (x.hi == 1099511627776) <;> simp
theorem rhas_eq (s : I3) (n : Int) : ref_Has s n = has (nrm s) n := by
  simp only [ref_Has, ref_Has_t, ref_Has_T, Tr.val, rnorm_eq, has]
  generalize nrm s = x
  cases x.e <;> cases (x.lo == -1099511627776) <;> cases (x.hi == 1099511627776) <;> simp
theorem inside_eq (a b : I3) : ints_Inside a b = inside (nrm a) (nrm b) := by
  simp only [ints_Inside, ints_Inside_t, ints_Inside_T, Tr.val, norm_eq, inside]
  generalize nrm a = x
  generalize nrm b = y
  cases x.e <;> cases y.e <;> simp
theorem rinside_eq (a b : I3) : ref_Inside a b = inside (nrm a) (nrm b) := by
  simp only [ref_Inside, ref_Inside_t, ref_Inside_T, Tr.val, rnorm_eq, inside]
  generalize nrm a = x
  generalize nrm b = y
  cases x.e <;> cases y.e <;> simp
theorem join1_eq (a : I3) : ints_Join1 a = nrm a := by
  simp only [ints_Join1, ints_Join1_t, ints_Join1_T, Tr.val, norm_eq, none_eq]
  cases h : (nrm a).e
  · rfl
  · rw [nrm_e h]; rfl
theorem join2_eq (a b : I3) : ints_Join2 (a, b) = join (nrm a) (nrm b) := by
  simp only [ints_Join2, ints_Join2_t, ints_Join2_T, Tr.val, norm_eq, none_eq, join, imax_eq, imin_eq]
  cases h : (nrm a).e <;> cases h' : (nrm b).e <;> simp
  rw [nrm_e h']
theorem rjoin_eq (a b : I3) : ref_Join a b = join (nrm a) (nrm b) := by
  simp only [ref_Join, ref_Join_t, ref_Join_T, Tr.val, rnorm_eq, join, imax_eq, imin_eq]
  cases h : (nrm a).e <;> cases h' : (nrm b).e <;> simp
theorem meet_eq (a b : I3) : ints_Meet a b = meet (nrm a) (nrm b) := by
  simp only [ints_Meet, ints_Meet_t, ints_Meet_T, Tr.val, norm_eq, none_eq, meet, imax_eq, imin_eq, make_eq]
  cases h : (nrm a).e <;> cases h' : (nrm b).e <;> simp
theorem rmeet_eq (a b : I3) : ref_Meet a b = meet (nrm a) (nrm b) := by
  simp only [ref_Meet, ref_Meet_t, ref_Meet_T, Tr.val, rnorm_eq, meet, imax_eq, imin_eq]
  cases h : (nrm a).e <;> cases h' : (nrm b).e <;> simp
theorem nrm_lohi (a : I3) (h : a.e = false) : nrm ⟨false, a.lo, a.hi⟩ = nrm a := by
  obtain ⟨e, lo, hi⟩ := a
  simp only at h; subst h; rfl
theorem IntsMakes_true (a b : I3) (n : Int) : l17_IntsMakes a b n = true := by
  simp [l17_IntsMakes, l17_IntsMakes_t, l17_IntsMakes_T, Tr.val, works17, make_eq, point_eq, rnorm_eq, has_eq, rhas_eq, inside_eq, rinside_eq, join1_eq, join2_eq, rjoin_eq, meet_eq, rmeet_eq]
  exact ⟨rfl, rfl, rfl⟩
end Go.Proofs.Ytfbpklopnnnniaa
