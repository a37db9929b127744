/- Contracts and laws of functions of the program, on the way to the claim. Conditions: as each theorem states. -/
import Derived.Test.YtfbpklopnnnniaaS1e
namespace Go.Proofs.Ytfbpklopnnnniaa
open Go.Ev Go.Fb

/-- a number between the ends, ends counted in -/
def Rg (n : Int) : Prop := -1099511627776 ≤ n ∧ n ≤ 1099511627776
theorem Nm.rg {s : I3} (h : Nm s) : Rg s.lo ∧ Rg s.hi := by
  unfold Rg
  rcases h with rfl | h
  · decide
  · omega
def clip (n : Int) : Int := max (min n 1099511627776) (-1099511627776)
def send (x y : Int) : Int := if x ≥ 1099511627776 ∨ x ≤ -1099511627776 then x else if y ≥ 1099511627776 ∨ y ≤ -1099511627776 then y else clip (x + y)
theorem far_eq (n : Int) : ints_far n = decide (n ≥ 1099511627776 ∨ n ≤ -1099511627776) := by
  simp only [ints_far, ints_far_t, ints_far_T, Tr.val]
  by_cases h : n ≥ 1099511627776 <;> simp [h]
theorem clip_eq (n : Int) : ints_clip n = clip n := by
  simp only [ints_clip, ints_clip_t, ints_clip_T, Tr.val, imax_eq, imin_eq, clip]
theorem sum_eq {x y : Int} (hx : Rg x) (hy : Rg y) : ints_sum x y = send x y := by
  unfold Rg at hx hy
  simp only [ints_sum, ints_sum_t, ints_sum_T, Tr.val, far_eq, clip_eq, Bool.cond_decide, send]
  rw [w64 (by omega) (by omega)]
theorem sumEnd_eq {x y : Int} (hx : Rg x) (hy : Rg y) : l17_sumEnd x y = send x y := by
  unfold Rg at hx hy
  simp only [l17_sumEnd, l17_sumEnd_t, l17_sumEnd_T, Tr.val, send, clip, imax_eq, imin_eq]
  rw [w64 (by omega) (by omega)]
  by_cases h1 : x = 1099511627776
  · subst h1; rfl
  by_cases h2 : x = -1099511627776
  · subst h2; rfl
  have e1 : ¬ (x ≥ 1099511627776 ∨ x ≤ -1099511627776) := by omega
  have b1 : (x == 1099511627776) = false := beq_eq_false_iff_ne.2 h1
  have b2 : (x == -1099511627776) = false := beq_eq_false_iff_ne.2 h2
  rw [b1, b2, if_neg e1]
  by_cases h3 : y = 1099511627776
  · subst h3; rfl
  by_cases h4 : y = -1099511627776
  · subst h4; rfl
  have e2 : ¬ (y ≥ 1099511627776 ∨ y ≤ -1099511627776) := by omega
  have b3 : (y == 1099511627776) = false := beq_eq_false_iff_ne.2 h3
  have b4 : (y == -1099511627776) = false := beq_eq_false_iff_ne.2 h4
  rw [b3, b4, if_neg e2]
  rfl
theorem hull_eq (lo hi : Int) : ints_hull lo hi = ⟨false, min (clip lo) 1099511627775, max (clip hi) (-1099511627775)⟩ := by
  simp only [ints_hull, ints_hull_t, ints_hull_T, Tr.val, imax_eq, imin_eq, clip_eq]
def add (x y : I3) : I3 := if x.e ∨ y.e then ⟨true, 0, 0⟩ else ⟨false, min (send x.lo y.lo) 1099511627775, max (send x.hi y.hi) (-1099511627775)⟩
theorem send_rg {x y : Int} (hx : Rg x) (hy : Rg y) : Rg (send x y) := by
  unfold Rg at *
  unfold send clip
  split
  · omega
  · split <;> omega
theorem clip_rg {x : Int} (hx : Rg x) : clip x = x := by
  unfold Rg at hx
  unfold clip; omega
theorem add_eq (a b : I3) : ints_Add a b = add (nrm a) (nrm b) := by
  have ha := (nm_nrm a).rg
  have hb := (nm_nrm b).rg
  simp only [ints_Add, ints_Add_t, ints_Add_T, Tr.val, norm_eq, none_eq, add, sum_eq ha.1 hb.1, sum_eq ha.2 hb.2, hull_eq, clip_rg (send_rg ha.1 hb.1), clip_rg (send_rg ha.2 hb.2)]
  cases (nrm a).e <;> cases (nrm b).e <;> simp
def neg (x : I3) : I3 := if x.e then ⟨true, 0, 0⟩ else ⟨false, -x.hi, -x.lo⟩
theorem nm_neg {x : I3} (h : Nm x) : Nm (neg x) := by
  unfold neg
  rcases h with rfl | h
  · exact .inl rfl
  · rw [h.1]
    refine .inr ⟨rfl, ?_⟩
    simp only [Bool.false_eq_true, if_false]
    omega
theorem neg_eq (a : I3) : ints_Neg a = neg (nrm a) := by
  have ha := nm_nrm a
  have hr := ha.rg
  unfold Rg at hr
  simp only [ints_Neg, ints_Neg_t, ints_Neg_T, Tr.val, norm_eq, make_eq]
  rw [w64 (by omega) (by omega), w64 (by omega) (by omega)]
  cases h : (nrm a).e
  · have : nrm (⟨false, 0 - (nrm a).hi, 0 - (nrm a).lo⟩ : I3) = ⟨false, -(nrm a).hi, -(nrm a).lo⟩ := by
      have hn := nm_neg ha
      have e : neg (nrm a) = ⟨false, -(nrm a).hi, -(nrm a).lo⟩ := by unfold neg; rw [h]; rfl
      rw [e] at hn
      rw [Int.zero_sub, Int.zero_sub, nrm_nm hn]
    simp only [cond_false, this, neg, h]
    rfl
  · rw [nrm_e h]; rfl
theorem sub_eq (a b : I3) : ints_Sub a b = add (nrm a) (neg (nrm b)) := by
  simp only [ints_Sub, ints_Sub_t, ints_Sub_T, Tr.val, neg_eq, add_eq, nrm_nm (nm_neg (nm_nrm b))]
theorem IntsEnds_true (a b : I3) : l17_IntsEnds a b = true := by
  simp only [l17_IntsEnds, l17_IntsEnds_t, l17_IntsEnds_T, Tr.val, works17, join1_eq, add_eq, sub_eq, neg_eq, imax_eq, imin_eq]
  have ha := nm_nrm a
  have hb := nm_nrm b
  generalize nrm a = x at ha
  generalize nrm b = y at hb
  rcases ha with rfl | ha
  · simp [add]
  · rcases hb with rfl | hb
    · simp [add, ha.1, neg]
    · have h1 : ∀ n, Rg n → IntKind.i64.wrap (0 - n) = -n := fun n hn => by
        unfold Rg at hn
        rw [w64 (by omega) (by omega)]; omega
      have hx := Nm.rg (s := x) (.inr ha)
      have hy := Nm.rg (s := y) (.inr hb)
      have hny : Rg (-y.lo) ∧ Rg (-y.hi) := by unfold Rg at *; omega
      rw [h1 _ hy.1, h1 _ hy.2, h1 _ hx.1, h1 _ hx.2, sumEnd_eq hx.1 hy.1, sumEnd_eq hx.2 hy.2, sumEnd_eq hx.1 hny.2, sumEnd_eq hx.2 hny.1]
      simp [add, neg, ha.1, hb.1]
end Go.Proofs.Ytfbpklopnnnniaa
