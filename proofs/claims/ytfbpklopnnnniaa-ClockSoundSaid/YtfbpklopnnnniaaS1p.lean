/- Contracts and laws of functions of the program, on the way to the claim. Conditions: as each theorem states. -/
import Derived.Test.YtfbpklopnnnniaaS1o
namespace Go.Proofs.Ytfbpklopnnnniaa
open Go.Ev Go.Fb

/-! ### A counter -/
theorem add_val {a b c d : Int} (h1 : -1099511627776 < a + c) (h2 : a + c < 1099511627776) (h3 : -1099511627776 < b + d) (h4 : b + d < 1099511627776) (ha : -1099511627776 < a ∧ a < 1099511627776) (hb : -1099511627776 < b ∧ b < 1099511627776) (hc : -1099511627776 < c ∧ c < 1099511627776) (hd : -1099511627776 < d ∧ d < 1099511627776) :
    add ⟨false, a, b⟩ ⟨false, c, d⟩ = ⟨false, a + c, b + d⟩ := by
  unfold add send clip
  rw [if_neg (by simp)]
  simp only
  rw [if_neg (by omega), if_neg (by omega), if_neg (by omega), if_neg (by omega)]
  simp only [I3.mk.injEq, true_and]
  omega
theorem nrm_val {a b : Int} (h : a ≤ b) (ha : -1099511627776 ≤ a ∧ a < 1099511627776) (hb : -1099511627776 < b ∧ b ≤ 1099511627776) : nrm ⟨false, a, b⟩ = ⟨false, a, b⟩ :=
  nrm_nm (.inr ⟨rfl, by simp only; omega⟩)
theorem nn_val {a b c d : Int} (h : a ≤ b) (ha : -1099511627776 ≤ a ∧ a < 1099511627776) (hb : -1099511627776 < b ∧ b ≤ 1099511627776) (h' : c ≤ d) (hc : -1099511627776 ≤ c ∧ c < 1099511627776) (hd : -1099511627776 < d ∧ d ≤ 1099511627776) :
    nn ⟨⟨false, a, b⟩, ⟨false, c, d⟩⟩ = ⟨⟨false, a, b⟩, ⟨false, c, d⟩⟩ := by
  unfold nn
  simp only [nrm_val h ha hb, nrm_val h' hc hd]
  rfl
theorem meet_val {a b c d : Int} (h : max a c ≤ min b d) (h1 : -1099511627776 ≤ max a c ∧ max a c < 1099511627776) (h2 : -1099511627776 < min b d ∧ min b d ≤ 1099511627776) : meet ⟨false, a, b⟩ ⟨false, c, d⟩ = ⟨false, max a c, min b d⟩ := by
  unfold meet
  rw [if_neg (by simp)]
  exact nrm_val h h1 h2
theorem neg_val (a b : Int) : neg ⟨false, a, b⟩ = ⟨false, -b, -a⟩ := rfl
theorem point_val {n : Int} (h : -1099511627776 < n ∧ n < 1099511627776) : ints_Point n = ⟨false, n, n⟩ := by
  rw [point_eq, nrm_val (by omega) (by omega) (by omega)]
theorem cOf_val {f : Int} (h : -4294967296 ≤ f ∧ f ≤ 4294967296) : clock_Of ⟨false, f, f⟩ ⟨false, 0, 0⟩ = ⟨⟨false, f, f⟩, ⟨false, f, f⟩⟩ := by
  rw [(of_eq _ _).1, cOf, nrm_val (by omega) (by omega) (by omega), nrm_val (by omega) (by omega) (by omega), neg_val, add_val (by omega) (by omega) (by omega) (by omega) (by omega) (by omega) (by omega) (by omega), add_val (by omega) (by omega) (by omega) (by omega) (by omega) (by omega) (by omega) (by omega), nn_val (by omega) (by omega) (by omega) (by omega) (by omega) (by omega)]
  simp
theorem tick_val {f b : Int} (h : -4294967296 ≤ f ∧ f ≤ 4294967296) (hb : -8589934592 ≤ b ∧ b ≤ 8589934592) :
    clock_Tick (clock_Move ⟨⟨false, f, f⟩, ⟨false, b, b⟩⟩ ⟨false, 1, 1⟩) = ⟨⟨false, f, f⟩, ⟨false, b + 2, b + 2⟩⟩ := by
  rw [(move_eq _ _).1, (tick_eq _).1, cMove, cTick, pt, pt, nrm_val (a := 1) (by omega) (by omega) (by omega),
   nn_val (a := f) (c := b) (by omega) (by omega) (by omega) (by omega) (by omega) (by omega)]
  simp only
  rw [add_val (a := f) (by omega) (by omega) (by omega) (by omega) (by omega) (by omega) (by omega) (by omega), add_val (a := b) (by omega) (by omega) (by omega) (by omega) (by omega) (by omega) (by omega) (by omega),
   nn_val (a := f + 1) (c := b + 1) (by omega) (by omega) (by omega) (by omega) (by omega) (by omega)]
  rw [nn_val (a := f + 1) (c := b + 1) (by omega) (by omega) (by omega) (by omega) (by omega) (by omega)]
  simp only
  rw [add_val (a := f + 1) (by omega) (by omega) (by omega) (by omega) (by omega) (by omega) (by omega) (by omega), add_val (a := b + 1) (by omega) (by omega) (by omega) (by omega) (by omega) (by omega) (by omega) (by omega),
   nn_val (a := f + 1 + -1) (c := b + 1 + 1) (by omega) (by omega) (by omega) (by omega) (by omega) (by omega)]
  simp only [CK.mk.injEq, I3.mk.injEq, true_and]
  omega
theorem wd_pt (f : Int) : wd ⟨false, f, f⟩ (join ⟨false, f, f⟩ ⟨false, f, f⟩) [] = ⟨false, f, f⟩ := by
  simp [wd, join]
theorem wid_val {f h b : Int} (hf : -4294967296 ≤ f ∧ f ≤ 4294967296) (hb : f ≤ b ∧ b ≤ 8589934592) (hh : h = f ∧ f < b ∨ h = 1099511627776) :
    clock_Widen ⟨⟨false, f, f⟩, ⟨false, f, h⟩⟩ (clock_Join ⟨⟨false, f, f⟩, ⟨false, f, h⟩⟩ ⟨⟨false, f, f⟩, ⟨false, b, b⟩⟩) [] = ⟨⟨false, f, f⟩, ⟨false, f, 1099511627776⟩⟩
    ∧ clock_Widen_s ⟨⟨false, f, f⟩, ⟨false, f, h⟩⟩ (clock_Join ⟨⟨false, f, f⟩, ⟨false, f, h⟩⟩ ⟨⟨false, f, f⟩, ⟨false, b, b⟩⟩) [] = true := by
  refine ⟨?_, (bothW_eq (by decide) _ _).2⟩
  rw [(bothW_eq (by decide) _ _).1, (cjoin_eq _ _).1]
  unfold cBy
  rw [nn_val (a := f) (c := f) (by omega) (by omega) (by omega) (by omega) (by omega) (by omega), nn_val (a := f) (c := b) (by omega) (by omega) (by omega) (by omega) (by omega) (by omega)]
  simp only
  have e1 : join ⟨false, f, f⟩ ⟨false, f, f⟩ = ⟨false, f, f⟩ := by simp [join]
  have e2 : join ⟨false, f, h⟩ ⟨false, b, b⟩ = ⟨false, f, max h b⟩ := by
    simp [join]; omega
  rw [e1, e2, nn_val (a := f) (c := f) (d := max h b) (by omega) (by omega) (by omega) (by omega) (by omega) (by omega), nn_val (a := f) (c := f) (d := max h b) (by omega) (by omega) (by omega) (by omega) (by omega) (by omega)]
  simp only
  have e3 : wd ⟨false, f, f⟩ ⟨false, f, f⟩ [] = ⟨false, f, f⟩ := by simp [wd, join]
  have e4 : wd ⟨false, f, h⟩ ⟨false, f, max h b⟩ [] = ⟨false, f, 1099511627776⟩ := by
    simp only [wd, join, wLo, wHi, Bool.false_eq_true, if_false, List.foldl_nil]
    simp only [I3.mk.injEq, true_and]
    refine ⟨by split <;> omega, by split <;> omega⟩
  rw [e3, e4, nn_val (a := f) (c := f) (by omega) (by omega) (by omega) (by omega) (by omega) (by omega)]
theorem red1_val {f t : Int} (hf : -4294967296 ≤ f ∧ f ≤ 4294967296) (ht : 0 ≤ t ∧ t ≤ 200) :
    clock_Reduce ⟨false, -1099511627776, 1099511627776⟩ ⟨⟨false, f, f⟩, ⟨false, f + 2 * t, f + 2 * t⟩⟩ ⟨false, t, t⟩ = ⟨false, f + t, f + t⟩ := by
  rw [(reduce_eq _ _ _).1, cRed, nn_val (a := f) (c := f + 2 * t) (by omega) (by omega) (by omega) (by omega) (by omega) (by omega), nrm_val (a := t) (by omega) (by omega) (by omega), nrm_val (a := -1099511627776) (by omega) (by omega) (by omega), neg_val]
  simp only
  rw [add_val (a := f) (by omega) (by omega) (by omega) (by omega) (by omega) (by omega) (by omega) (by omega), add_val (a := f + 2 * t) (by omega) (by omega) (by omega) (by omega) (by omega) (by omega) (by omega) (by omega)]
  rw [meet_val (by omega) (by omega) (by omega), meet_val (by omega) (by omega) (by omega)]
  simp only [I3.mk.injEq, true_and]
  omega
theorem red2_val {f : Int} (hf : -4294967296 ≤ f ∧ f ≤ 4294967296) :
    clock_Reduce ⟨false, -1099511627776, 1099511627776⟩ ⟨⟨false, f, f⟩, ⟨false, f, 1099511627776⟩⟩ ⟨false, 0, 2147483647⟩ = ⟨false, f, f + 2147483647⟩ := by
  have e : add ⟨false, f, 1099511627776⟩ ⟨false, -2147483647, -0⟩ = ⟨false, f - 2147483647, 1099511627776⟩ := by
    unfold add send clip
    rw [if_neg (by simp)]
    simp only
    rw [if_neg (by omega), if_neg (by omega), if_pos (by omega)]
    simp only [I3.mk.injEq, true_and]
    omega
  rw [(reduce_eq _ _ _).1, cRed, nn_val (a := f) (c := f) (by omega) (by omega) (by omega) (by omega) (by omega) (by omega), nrm_val (a := 0) (by omega) (by omega) (by omega), nrm_val (a := -1099511627776) (by omega) (by omega) (by omega), neg_val]
  simp only
  rw [add_val (a := f) (by omega) (by omega) (by omega) (by omega) (by omega) (by omega) (by omega) (by omega), e]
  rw [meet_val (by omega) (by omega) (by omega), meet_val (by omega) (by omega) (by omega)]
  simp only [I3.mk.injEq, true_and]
  omega
theorem counts_run {f : Int} (hf : -4294967296 ≤ f ∧ f ≤ 4294967296) (t : Int) (ht : 0 ≤ t ∧ t ≤ 200) (b1 b2 b3 b4 : Bool) (z : Int) : ∀ (m : Nat) (i h : Int), 0 ≤ i → i + m = t → (i = 0 ∧ h = f ∨ 0 < i ∧ h = 1099511627776) →
    runL (l21_ClockCounts_L0_step (z, t, b1, b2, b3, b4)) (m + 1) (i, false, f, f, false, f + 2 * i, f + 2 * i, false, f, f, false, f, h)
      = some (t, false, f, f, false, f + 2 * t, f + 2 * t, false, f, f, false, f, if t = 0 then f else 1099511627776)
  | 0, i, h, h0, hm, hh => by
    have e : i = t := by omega
    subst e
    rw [runL]
    simp only [l21_ClockCounts_L0_step, l21_ClockCounts_L0_T, Tr.safe, Tr.val]
    rw [decide_eq_false (show ¬ i < i by omega)]
    simp only [cond_false, cond_true, Option.some.injEq, Prod.mk.injEq, true_and]
    split <;> omega
  | m + 1, i, h, h0, hm, hh => by
    have ih := counts_run hf t ht b1 b2 b3 b4 z m (i + 1) 1099511627776 (by omega) (by omega) (.inr ⟨by omega, rfl⟩)
    have ev := tick_val (f := f) (b := f + 2 * i) hf (by omega)
    have ew := wid_val (f := f) (h := h) (b := f + 2 * i + 2) hf (by omega) (by omega)
    rw [runL]
    simp only [l21_ClockCounts_L0_step, l21_ClockCounts_L0_T, Tr.safe, Tr.val, point_val (n := 1) (by decide), ev, ew.1, ew.2]
    rw [decide_eq_true (show i < t by omega), w64 (by omega) (by omega)]
    rw [show f + 2 * (i + 1) = f + 2 * i + 2 by omega] at ih
    exact ih
theorem ClockCounts_both (f t : Int) (hf : -2147483648 ≤ f ∧ f ≤ 2147483647) : l21_ClockCounts f t = true ∧ l21_ClockCounts_s f t = true := by
  by_cases h1 : t < 0
  · simp only [l21_ClockCounts, l21_ClockCounts_s, l21_ClockCounts_t, l21_ClockCounts_T, Tr.val, Tr.safe, works21, decide_eq_true h1]
    exact ⟨rfl, rfl⟩
  by_cases h2 : t > 200
  · simp only [l21_ClockCounts, l21_ClockCounts_s, l21_ClockCounts_t, l21_ClockCounts_T, Tr.val, Tr.safe, works21, decide_eq_false h1, decide_eq_true h2]
    exact ⟨rfl, rfl⟩
  have hr : ∀ b1 b2 b3 b4 z, l21_ClockCounts_L0_r (z, t, b1, b2, b3, b4) (0, false, f, f, false, f, f, false, f, f, false, f, f) = some (t, false, f, f, false, f + 2 * t, f + 2 * t, false, f, f, false, f, if t = 0 then f else 1099511627776) := fun b1 b2 b3 b4 z => by
    have := counts_run (f := f) (by omega) t (by omega) b1 b2 b3 b4 z t.toNat 0 f (by omega) (by omega) (.inl ⟨rfl, rfl⟩)
    rw [show f + 2 * 0 = f by omega] at this
    exact runB_of this (by omega)
  have m1 : ints_Make (-1099511627776) 1099511627776 = ⟨false, -1099511627776, 1099511627776⟩ := by rw [make_eq, nrm_val (by omega) (by omega) (by omega)]
  have m2 : ints_Make 0 2147483647 = ⟨false, 0, 2147483647⟩ := by rw [make_eq, nrm_val (by omega) (by omega) (by omega)]
  have m3 : ints_Make f (f + 2147483647) = ⟨false, f, f + 2147483647⟩ := by rw [make_eq, nrm_val (by omega) (by omega) (by omega)]
  have p0 := point_val (n := 0) (by decide)
  have p1 := point_val (n := f) (by omega)
  have p2 := point_val (n := t) (by omega)
  have p3 := point_val (n := f + t) (by omega)
  have r1 := red1_val (f := f) (t := t) (by omega) (by omega)
  have r2 := red2_val (f := f) (by omega)
  have o := cOf_val (f := f) (by omega)
  simp only [l21_ClockCounts, l21_ClockCounts_s, l21_ClockCounts_t, l21_ClockCounts_T, Tr.val, Tr.safe, works21, decide_eq_false h1, decide_eq_false h2, l21_ClockCounts_L0_ok, l21_ClockCounts_L0_v,
    w64 (n := f) (by omega) (by omega), w64 (n := f + t) (by omega) (by omega), w64 (n := f + 2147483647) (by omega) (by omega), p0, p1, o, hr, Option.isSome_some, Option.getD_some, m1, m2, m3, p2, p3, r1]
  by_cases h3 : t = 0
  · subst h3
    simp
  · simp only [if_neg h3, r2]
    simp
end Go.Proofs.Ytfbpklopnnnniaa
