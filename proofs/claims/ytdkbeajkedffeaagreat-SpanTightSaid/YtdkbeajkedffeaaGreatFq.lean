/- Spans: the laws hold, in plain Lean. Conditions: as each theorem states. -/
import Derived.Test.YtdkbeajkedffeaaGreatFl
import Derived.Test.YtdkbeajkedffeaaGreatFp
namespace Go.Fb
theorem works16 : l16_works = true ∧ l16_works_s = true := by decide +kernel
end Go.Fb
namespace Go.Fb
open Go.Ev
theorem pre16 {t : Tr Bool} (h : Tr.Is t true) : Tr.Is (.ast l16_works_s (.br (!l16_works) (.leaf false) t)) true :=
  Tr.is_ast works16.2 (Tr.is_br_f (by rw [works16.1]; rfl) h)
end Go.Fb
namespace Go.Fb
open Go.Ev
theorem next_kf {z : Int} (h : -9218868437227405312 ≤ z) (g : z < 9218868437227405312) : Wd (p_Next (kf z)) ∧ kz (p_Next (kf z)) = some (z + 1) ∧ r4_Next (kf z) = p_Next (kf z) := by
  unfold kf
  rw [next_spec (by omega), rnext_spec (by omega)]
  obtain ⟨t, j, e, hj, hk⟩ := ky_next (s := decide (z < 0)) (k := z.natAbs) (by omega) (by
    rintro ⟨h1, h2⟩; have := of_decide_eq_false h1; omega)
  rw [e]; exact ⟨fl_wd (by omega), by rw [kz_fl hj, hk, ky_kf], rfl⟩
theorem prev_kf {z : Int} (h : -9218868437227405312 < z) (g : z ≤ 9218868437227405312) : Wd (p_Prev (kf z)) ∧ kz (p_Prev (kf z)) = some (z - 1) ∧ r4_Prev (kf z) = p_Prev (kf z) := by
  unfold kf
  rw [prev_spec (by omega), rprev_spec (by omega)]
  obtain ⟨t, j, e, hj, hk⟩ := ky_prev (s := decide (z < 0)) (k := z.natAbs) (by omega) (by
    rintro ⟨h1, h2⟩; have := of_decide_eq_true h1; omega)
  rw [e]; exact ⟨fl_wd (by omega), by rw [kz_fl hj, hk, ky_kf], rfl⟩
theorem class_kf {z : Int} (h : -9218868437227405312 ≤ z) (g : z ≤ 9218868437227405312) : (p_Class (kf z) != 3) = decide (z ≠ 9218868437227405312 ∧ z ≠ -9218868437227405312) ∧ r4_Finite (kf z) = decide (z ≠ 9218868437227405312 ∧ z ≠ -9218868437227405312) := by
  unfold kf
  rw [class_ky (by omega), finite_spec (by omega)]
  constructor <;> rw [decide_eq_decide] <;> omega
end Go.Fb
namespace Go.Fb
open Go.Ev
end Go.Fb
namespace Go.Fb
open Go.Ev
def zv (z : Int) : Rat := fv (decide (z < 0)) z.natAbs
theorem zv_zero : zv 0 = 0 := fv_zero _
theorem zv_neg (z : Int) : zv (-z) = -zv z := by
  by_cases h : z = 0
  · subst h; rw [Int.neg_zero, zv_zero]; rfl
  · unfold zv
    rw [Int.natAbs_neg, ← fv_neg]
    congr 1
    rw [Bool.eq_iff_iff]; simp only [decide_eq_true_eq, Bool.not_eq_true', decide_eq_false_iff_not]; omega
theorem zv_lt {z w : Int} (h : -9218868437227405312 < z) (g : z < 9218868437227405312) (h' : -9218868437227405312 < w) (g' : w < 9218868437227405312) : zv z < zv w ↔ z < w := by
  unfold zv; rw [fv_lt (by omega) (by omega), ky_kf, ky_kf]
theorem zv_le {z w : Int} (h : -9218868437227405312 < z) (g : z < 9218868437227405312) (h' : -9218868437227405312 < w) (g' : w < 9218868437227405312) (l : z ≤ w) : zv z ≤ zv w := by
  refine Rat.not_lt.1 fun c => ?_
  have := (zv_lt h' g' h g).1 c; omega
theorem zv_pos {z : Int} (h : 0 < z) (g : z < 9218868437227405312) : 0 < zv z := by rw [← zv_zero]; exact (zv_lt (by omega) (by omega) (by omega) (by omega)).2 h
theorem zv_nonneg {z : Int} (h : 0 ≤ z) (g : z < 9218868437227405312) : 0 ≤ zv z := by rw [← zv_zero]; exact zv_le (by omega) (by omega) (by omega) (by omega) h
theorem zv_nonpos {z : Int} (h : z ≤ 0) (g : -9218868437227405312 < z) : zv z ≤ 0 := by rw [← zv_zero]; exact zv_le (by omega) (by omega) (by omega) (by omega) h
theorem RK.kz {x z : Int} (h : RK x z) : Wd x ∧ kz x = some z := by
  obtain ⟨q, m, hm, rfl, rfl⟩ := h
  exact ⟨fl_wd (by omega), kz_fl hm⟩
theorem exk_rng {x : Rat} {m z : Int} (h : ExK x m z) : -9218868437227405312 ≤ z ∧ z ≤ 9218868437227405312 := by
  rcases h with ⟨_, h⟩ | ⟨_, K, a, b, _, h⟩
  · omega
  · rw [h, ← rk_eq (sm := false)]
    have := @rans_le K a b false (wayOf (decide (x < 0)) m)
    exact ky_rng this
theorem exk_zero (m : Int) : ExK 0 m 0 := .inl ⟨rfl, rfl⟩
theorem exk_nonneg {x : Rat} {m z : Int} (h : ExK x m z) (g : 0 ≤ x) : 0 ≤ z := exk_mono g (exk_zero m) h
theorem exk_nonpos {x : Rat} {m z : Int} (h : ExK x m z) (g : x ≤ 0) : z ≤ 0 := exk_mono g h (exk_zero m)
theorem exk_down {x : Rat} {z : Int} (h : ExK x 2 z) : z < 9218868437227405312 := by
  rcases h with ⟨_, h⟩ | ⟨_, K, a, b, _, h⟩
  · omega
  · by_cases c : x < 0
    · rw [dt c] at h; unfold ky at h; rw [if_pos rfl] at h; omega
    · rw [df c] at h; unfold ky at h; rw [if_neg (by simp)] at h
      have e : rk K a b (wayOf false 2) ≤ 9218868437227405311 := by
        show (rans K a b false 2).1 ≤ _
        unfold rans
        split
        · rw [if_pos rfl]; omega
        · dsimp only; omega
      omega
theorem exk_up {x : Rat} {z : Int} (h : ExK x 1 z) : -9218868437227405312 < z := by
  rcases h with ⟨_, h⟩ | ⟨_, K, a, b, _, h⟩
  · omega
  · by_cases c : x < 0
    · rw [dt c] at h; unfold ky at h; rw [if_pos rfl] at h
      have e : rk K a b (wayOf true 1) ≤ 9218868437227405311 := by
        show (rans K a b false 2).1 ≤ _
        unfold rans
        split
        · rw [if_pos rfl]; omega
        · dsimp only; omega
      omega
    · rw [df c] at h; unfold ky at h; rw [if_neg (by simp)] at h; omega
theorem exk_order2 {x : Rat} {d u : Int} (a : ExK x 2 d) (c : ExK x 1 u) : d ≤ u := by
  have := exk_order a a c; omega
structure MulK (m z w r : Int) : Prop where
  zero : z = 0 ∨ w = 0 → r = 0
  inf : z ≠ 0 → w ≠ 0 → (z = 9218868437227405312 ∨ z = -9218868437227405312 ∨ w = 9218868437227405312 ∨ w = -9218868437227405312) → r = if (0 < z) = (0 < w) then 9218868437227405312 else -9218868437227405312
  fin : -9218868437227405312 < z → z < 9218868437227405312 → -9218868437227405312 < w → w < 9218868437227405312 → ExK (zv z * zv w) m r
  rng : -9218868437227405312 ≤ r ∧ r ≤ 9218868437227405312
theorem MulK.symm {m z w r : Int} (h : MulK m z w r) : MulK m w z r where
  zero g := h.zero g.symm
  inf a b c := by
    rw [h.inf b a (by omega)]
    by_cases p : 0 < z <;> by_cases q : 0 < w <;> simp [p, q]
  fin a b c d := by rw [Rat.mul_comm]; exact h.fin c d a b
  rng := h.rng
theorem MulK.neg {m z w r : Int} (h : MulK m z w r) : MulK m (-z) (-w) r where
  zero g := h.zero (by omega)
  inf a b c := by
    rw [h.inf (by omega) (by omega) (by omega)]
    have e : ((0 < z) = (0 < w)) = ((0 < -z) = (0 < -w)) := by
      rw [eq_iff_iff, eq_iff_iff, eq_iff_iff]; omega
    simp only [e]
  fin a b c d := by
    rw [zv_neg, zv_neg, show -zv z * -zv w = zv z * zv w by grind]
    exact h.fin (by omega) (by omega) (by omega) (by omega)
  rng := h.rng
theorem MulK.pos {m z w r : Int} (h : MulK m z w r) (hz : 0 < z) (hw : 0 < w) (h1 : z ≤ 9218868437227405312) (h2 : w ≤ 9218868437227405312) : 0 ≤ r := by
  by_cases c : z = 9218868437227405312 ∨ w = 9218868437227405312
  · have := h.inf (by omega) (by omega) (by omega)
    rw [if_pos (by rw [eq_iff_iff]; omega)] at this; omega
  · exact exk_nonneg (h.fin (by omega) (by omega) (by omega) (by omega)) (Rat.mul_nonneg (zv_nonneg (by omega) (by omega)) (zv_nonneg (by omega) (by omega)))
theorem MulK.npos {m z w r : Int} (h : MulK m z w r) (hz : z < 0) (hw : 0 < w) (h1 : -9218868437227405312 ≤ z) (h2 : w ≤ 9218868437227405312) : r ≤ 0 := by
  by_cases c : z = -9218868437227405312 ∨ w = 9218868437227405312
  · have := h.inf (by omega) (by omega) (by omega)
    rw [if_neg (by rw [eq_iff_iff]; omega)] at this; omega
  · refine exk_nonpos (h.fin (by omega) (by omega) (by omega) (by omega)) ?_
    have p := zv_nonpos (z := z) (by omega) (by omega)
    have q := zv_nonneg (z := w) (by omega) (by omega)
    have := Rat.mul_le_mul_of_nonneg_right p q
    rwa [Rat.zero_mul] at this
theorem MulK.mono {m z z' w r r' : Int} (h : MulK m z w r) (g : MulK m z' w r') (hw : 0 ≤ w) (l : z ≤ z') (h1 : -9218868437227405312 ≤ z) (h2 : z' ≤ 9218868437227405312) (h3 : w ≤ 9218868437227405312) : r ≤ r' := by
  have R := h.rng; have R' := g.rng
  by_cases w0 : w = 0
  · rw [h.zero (.inr w0), g.zero (.inr w0)]; exact Int.le_refl _
  have sl : z ≤ 0 → r ≤ 0 := fun c => by
    by_cases d : z = 0
    · rw [h.zero (.inl d)]; exact Int.le_refl _
    · exact h.npos (by omega) (by omega) h1 h3
  have sg : 0 ≤ z' → 0 ≤ r' := fun c => by
    by_cases d : z' = 0
    · rw [g.zero (.inl d)]; exact Int.le_refl _
    · exact g.pos (by omega) (by omega) h2 h3
  by_cases c : z ≤ 0 ∧ 0 ≤ z'
  · have := sl c.1; have := sg c.2; omega
  · by_cases c1 : 0 < z
    · by_cases i' : z' = 9218868437227405312 ∨ w = 9218868437227405312
      · have := g.inf (by omega) (by omega) (by omega)
        rw [if_pos (by rw [eq_iff_iff]; omega)] at this; omega
      · exact exk_mono (Rat.mul_le_mul_of_nonneg_right (zv_le (by omega) (by omega) (by omega) (by omega) l) (zv_nonneg (by omega) (by omega))) (h.fin (by omega) (by omega) (by omega) (by omega)) (g.fin (by omega) (by omega) (by omega) (by omega))
    · by_cases i' : z = -9218868437227405312 ∨ w = 9218868437227405312
      · have := h.inf (by omega) (by omega) (by omega)
        rw [if_neg (by rw [eq_iff_iff]; omega)] at this; omega
      · exact exk_mono (Rat.mul_le_mul_of_nonneg_right (zv_le (by omega) (by omega) (by omega) (by omega) l) (zv_nonneg (by omega) (by omega))) (h.fin (by omega) (by omega) (by omega) (by omega)) (g.fin (by omega) (by omega) (by omega) (by omega))
theorem MulK.anti {m z z' w r r' : Int} (h : MulK m z w r) (g : MulK m z' w r') (hw : w ≤ 0) (l : z ≤ z') (h1 : -9218868437227405312 ≤ z) (h2 : z' ≤ 9218868437227405312) (h3 : -9218868437227405312 ≤ w) : r' ≤ r :=
  MulK.mono g.neg h.neg (by omega) (by omega) (by omega) (by omega) (by omega)
theorem MulK.order {z w d u : Int} (h : MulK 2 z w d) (g : MulK 1 z w u) (h1 : -9218868437227405312 ≤ z) (h2 : z ≤ 9218868437227405312) (h3 : -9218868437227405312 ≤ w) (h4 : w ≤ 9218868437227405312) : d ≤ u := by
  by_cases c : z = 0 ∨ w = 0
  · rw [h.zero c, g.zero c]; exact Int.le_refl _
  · by_cases i : z = 9218868437227405312 ∨ z = -9218868437227405312 ∨ w = 9218868437227405312 ∨ w = -9218868437227405312
    · rw [h.inf (by omega) (by omega) i, g.inf (by omega) (by omega) i]; exact Int.le_refl _
    · exact exk_order2 (h.fin (by omega) (by omega) (by omega) (by omega)) (g.fin (by omega) (by omega) (by omega) (by omega))
theorem MulK.down {z w r : Int} (h : MulK 2 z w r) (h1 : -9218868437227405312 ≤ z) (h2 : z ≤ 9218868437227405312) (h3 : -9218868437227405312 ≤ w) (h4 : w ≤ 9218868437227405312) (e : r = 9218868437227405312) : (z = 9218868437227405312 ∧ 0 < w) ∨ (z = -9218868437227405312 ∧ w < 0) ∨ (w = 9218868437227405312 ∧ 0 < z) ∨ (w = -9218868437227405312 ∧ z < 0) := by
  by_cases c : z = 0 ∨ w = 0
  · have := h.zero c; omega
  · by_cases i : z = 9218868437227405312 ∨ z = -9218868437227405312 ∨ w = 9218868437227405312 ∨ w = -9218868437227405312
    · have := h.inf (by omega) (by omega) i
      by_cases p : (0 < z) = (0 < w)
      · rw [eq_iff_iff] at p; omega
      · rw [if_neg p] at this; omega
    · have := exk_down (h.fin (by omega) (by omega) (by omega) (by omega)); omega
theorem MulK.up {z w r : Int} (h : MulK 1 z w r) (h1 : -9218868437227405312 ≤ z) (h2 : z ≤ 9218868437227405312) (h3 : -9218868437227405312 ≤ w) (h4 : w ≤ 9218868437227405312) (e : r = -9218868437227405312) : (z = 9218868437227405312 ∧ w < 0) ∨ (z = -9218868437227405312 ∧ 0 < w) ∨ (w = 9218868437227405312 ∧ z < 0) ∨ (w = -9218868437227405312 ∧ 0 < z) := by
  by_cases c : z = 0 ∨ w = 0
  · have := h.zero c; omega
  · by_cases i : z = 9218868437227405312 ∨ z = -9218868437227405312 ∨ w = 9218868437227405312 ∨ w = -9218868437227405312
    · have := h.inf (by omega) (by omega) i
      by_cases p : (0 < z) = (0 < w)
      · rw [if_pos p] at this; omega
      · rw [eq_iff_iff] at p; omega
    · have := exk_up (h.fin (by omega) (by omega) (by omega) (by omega)); omega
theorem zero_kf {z : Int} (h : -9218868437227405312 ≤ z) (g : z ≤ 9218868437227405312) : sp_zero (kf z) = decide (z = 0) := by
  show (p_Class (fl _ _) == 0) = _
  rw [class_spec (by omega), cls0, decide_eq_decide]; omega
theorem ky_sgn {z : Int} (h0 : z ≠ 0) (b : Bool) : ky (decide (z < 0) != b) 9218868437227405312 = if (0 < z) = (b = false) then 9218868437227405312 else -9218868437227405312 := by
  by_cases h : z < 0
  · rw [dt h]; cases b
    · rw [if_neg (by rw [eq_iff_iff]; simp; omega)]; rfl
    · rw [if_pos (by rw [eq_iff_iff]; simp; omega)]; rfl
  · rw [df h]; cases b
    · rw [if_pos (by rw [eq_iff_iff]; simp; omega)]; rfl
    · rw [if_neg (by rw [eq_iff_iff]; simp; omega)]; rfl
theorem mul_kf {z w : Int} (h1 : -9218868437227405312 ≤ z) (h2 : z ≤ 9218868437227405312) (h3 : -9218868437227405312 ≤ w) (h4 : w ≤ 9218868437227405312) (m : Int) :
    ∃ v, Tr.Is (s_Mul_t (kf z) (kf w) m) v ∧ Tr.Is (r6_Mul_t (kf z) (kf w) m) v ∧ (z ≠ 0 → w ≠ 0 → ∃ r, Wd v.1 ∧ kz v.1 = some r ∧ MulK m z w r) := by
  obtain ⟨v, a, b, c⟩ := mul_both (s := decide (z < 0)) (t := decide (w < 0)) (k := z.natAbs) (j := w.natAbs) (by omega) (by omega) m
  refine ⟨v, a, b, fun z0 w0 => ?_⟩
  rcases mulRK c (by omega) (by omega) with ⟨_, d⟩ | ⟨r, d, e⟩
  · omega
  · refine ⟨r, d.kz.1, d.kz.2, fun g => by omega, fun _ _ i => ?_, fun i1 i2 i3 i4 => ?_, d.rng⟩
    · rcases e with ⟨e1, e2, e3, e4⟩ | ⟨e1, e2, e3⟩
      · rw [e4, ky_sgn z0]
        have : (decide (w < 0) = false) = (0 < w) := by rw [eq_iff_iff]; simp only [decide_eq_false_iff_not]; omega
        simp only [this]
      · omega
    · rcases e with ⟨e1, e2, e3, e4⟩ | ⟨e1, e2, e3⟩
      · omega
      · exact e3
theorem mul1_kf {z w : Int} (h1 : -9218868437227405312 ≤ z) (h2 : z ≤ 9218868437227405312) (h3 : -9218868437227405312 ≤ w) (h4 : w ≤ 9218868437227405312) (m : Int) :
    ∃ x r, Tr.Is (sp_Mul1_t (kf z) (kf w) m) x ∧ Wd x ∧ kz x = some r ∧ MulK m z w r := by
  obtain ⟨v, a, b, c⟩ := mul_kf h1 h2 h3 h4 m
  have k0 : kz 0 = some 0 := kz_kf (z := 0) (by omega) (by omega)
  by_cases z0 : z = 0
  · exact ⟨0, 0, Tr.is_br_t ((zero_kf h1 h2).trans (dt z0)) (Tr.is_leaf rfl), zero_wd, k0, fun _ => rfl, fun g => by omega, fun _ _ _ _ => by rw [z0, zv_zero, Rat.zero_mul]; exact exk_zero m, by omega⟩
  by_cases w0 : w = 0
  · exact ⟨0, 0, Tr.is_br_f ((zero_kf h1 h2).trans (df z0)) (Tr.is_br_t ((zero_kf h3 h4).trans (dt w0)) (Tr.is_leaf rfl)), zero_wd, k0, fun _ => rfl, fun _ g => by omega, fun _ _ _ _ => by rw [w0, zv_zero, Rat.mul_zero]; exact exk_zero m, by omega⟩
  obtain ⟨r, d, e, f⟩ := c z0 w0
  have ev : s_Mul (kf z) (kf w) m = v := a.1
  exact ⟨v.1, r, Tr.is_br_f ((zero_kf h1 h2).trans (df z0)) (Tr.is_br_f ((zero_kf h3 h4).trans (df w0)) (Tr.is_ast a.2 (Tr.is_leaf (by rw [ev])))), d, e, f⟩
end Go.Fb
namespace Go.Fb
open Go.Ev
theorem rat_div_mono {a b c : Rat} (h : 0 < c) (g : a ≤ b) : a / c ≤ b / c := by
  rw [Rat.div_def, Rat.div_def]; exact Rat.mul_le_mul_of_nonneg_right g (Rat.le_of_lt (Rat.inv_pos.2 h))
theorem rat_div_nonneg {a b : Rat} (h : 0 ≤ a) (g : 0 < b) : 0 ≤ a / b := by
  rw [Rat.div_def]; exact Rat.mul_nonneg h (Rat.le_of_lt (Rat.inv_pos.2 g))
theorem rat_div_anti {a b c : Rat} (h : 0 < b) (g : b ≤ c) (ha : 0 ≤ a) : a / c ≤ a / b := by
  have hc : 0 < c := by grind
  refine Rat.not_lt.1 fun k => ?_
  rw [Rat.div_lt_iff h] at k
  have h2 := rat_div_nonneg ha hc
  have := Rat.mul_le_mul_of_nonneg_left g h2
  have e : a / c * c = a := by grind
  grind
theorem rat_div_neg (a b : Rat) : -a / b = -(a / b) := by rw [Rat.div_def, Rat.div_def, Rat.neg_mul]
structure DivK (m z w r : Int) : Prop where
  zero : z = 0 → r = 0
  small : w = 9218868437227405312 → -9218868437227405312 < z → z < 9218868437227405312 → r = 0
  inf : z ≠ 0 → (z = 9218868437227405312 ∨ z = -9218868437227405312 ∨ w = 0) → r = if 0 < z then 9218868437227405312 else -9218868437227405312
  fin : z ≠ 0 → -9218868437227405312 < z → z < 9218868437227405312 → 0 < w → w < 9218868437227405312 → ExK (zv z / zv w) m r
  rng : -9218868437227405312 ≤ r ∧ r ≤ 9218868437227405312
theorem DivK.pos {m z w r : Int} (h : DivK m z w r) (hz : 0 ≤ z) (h1 : z ≤ 9218868437227405312) (hw : 0 ≤ w) (h2 : w ≤ 9218868437227405312) : 0 ≤ r := by
  by_cases z0 : z = 0
  · rw [h.zero z0]; omega
  by_cases i : z = 9218868437227405312 ∨ w = 0
  · have := h.inf z0 (by omega); rw [if_pos (by omega)] at this; omega
  by_cases s : w = 9218868437227405312
  · rw [h.small s (by omega) (by omega)]; omega
  exact exk_nonneg (h.fin z0 (by omega) (by omega) (by omega) (by omega)) (rat_div_nonneg (zv_nonneg hz (by omega)) (zv_pos (by omega) (by omega)))
theorem DivK.npos {m z w r : Int} (h : DivK m z w r) (hz : z ≤ 0) (h1 : -9218868437227405312 ≤ z) (hw : 0 ≤ w) (h2 : w ≤ 9218868437227405312) : r ≤ 0 := by
  by_cases z0 : z = 0
  · rw [h.zero z0]; omega
  by_cases i : z = -9218868437227405312 ∨ w = 0
  · have := h.inf z0 (by omega); rw [if_neg (by omega)] at this; omega
  by_cases s : w = 9218868437227405312
  · rw [h.small s (by omega) (by omega)]; omega
  refine exk_nonpos (h.fin z0 (by omega) (by omega) (by omega) (by omega)) ?_
  have := rat_div_mono (zv_pos (z := w) (by omega) (by omega)) (zv_nonpos (z := z) hz (by omega))
  rwa [Rat.div_def 0, Rat.zero_mul] at this
theorem DivK.mono {m z z' w r r' : Int} (h : DivK m z w r) (g : DivK m z' w r') (hw : 0 ≤ w) (l : z ≤ z') (h1 : -9218868437227405312 ≤ z) (h2 : z' ≤ 9218868437227405312) (h3 : w ≤ 9218868437227405312) : r ≤ r' := by
  have R := h.rng; have R' := g.rng
  by_cases c : z ≤ 0 ∧ 0 ≤ z'
  · have := h.npos c.1 h1 hw h3; have := g.pos c.2 h2 hw h3; omega
  by_cases c1 : 0 < z
  · by_cases i : z' = 9218868437227405312 ∨ w = 0
    · have := g.inf (by omega) (by omega); rw [if_pos (by omega)] at this; omega
    by_cases s : w = 9218868437227405312
    · rw [h.small s (by omega) (by omega), g.small s (by omega) (by omega)]; exact Int.le_refl _
    exact exk_mono (rat_div_mono (zv_pos (by omega) (by omega)) (zv_le (by omega) (by omega) (by omega) (by omega) l)) (h.fin (by omega) (by omega) (by omega) (by omega) (by omega)) (g.fin (by omega) (by omega) (by omega) (by omega) (by omega))
  · by_cases i : z = -9218868437227405312 ∨ w = 0
    · have := h.inf (by omega) (by omega); rw [if_neg (by omega)] at this; omega
    by_cases s : w = 9218868437227405312
    · rw [h.small s (by omega) (by omega), g.small s (by omega) (by omega)]; exact Int.le_refl _
    exact exk_mono (rat_div_mono (zv_pos (by omega) (by omega)) (zv_le (by omega) (by omega) (by omega) (by omega) l)) (h.fin (by omega) (by omega) (by omega) (by omega) (by omega)) (g.fin (by omega) (by omega) (by omega) (by omega) (by omega))
theorem DivK.less {m z w w' r r' : Int} (h : DivK m z w r) (g : DivK m z w' r') (hw : 0 ≤ w) (l : w ≤ w') (h1 : -9218868437227405312 ≤ z) (h2 : z ≤ 9218868437227405312) (h3 : w' ≤ 9218868437227405312) : (0 ≤ z → r' ≤ r) ∧ (z ≤ 0 → r ≤ r') := by
  have R := h.rng; have R' := g.rng
  constructor
  · intro c
    by_cases z0 : z = 0
    · rw [h.zero z0, g.zero z0]; exact Int.le_refl _
    by_cases i : z = 9218868437227405312 ∨ w = 0
    · have := h.inf (by omega) (by omega); rw [if_pos (by omega)] at this; omega
    by_cases s : w' = 9218868437227405312
    · rw [g.small s (by omega) (by omega)]; exact h.pos c h2 hw (by omega)
    exact exk_mono (rat_div_anti (zv_pos (by omega) (by omega)) (zv_le (by omega) (by omega) (by omega) (by omega) l) (zv_nonneg c (by omega))) (g.fin z0 (by omega) (by omega) (by omega) (by omega)) (h.fin z0 (by omega) (by omega) (by omega) (by omega))
  · intro c
    by_cases z0 : z = 0
    · rw [h.zero z0, g.zero z0]; exact Int.le_refl _
    by_cases i : z = -9218868437227405312 ∨ w = 0
    · have := h.inf (by omega) (by omega); rw [if_neg (by omega)] at this; omega
    by_cases s : w' = 9218868437227405312
    · rw [g.small s (by omega) (by omega)]; exact h.npos c h1 hw (by omega)
    refine exk_mono ?_ (h.fin z0 (by omega) (by omega) (by omega) (by omega)) (g.fin z0 (by omega) (by omega) (by omega) (by omega))
    have := rat_div_anti (a := -zv z) (zv_pos (z := w) (by omega) (by omega)) (zv_le (w := w') (by omega) (by omega) (by omega) (by omega) l) (by have := zv_nonpos (z := z) c (by omega); grind)
    rw [rat_div_neg, rat_div_neg] at this
    grind
theorem DivK.order {z w d u : Int} (h : DivK 2 z w d) (g : DivK 1 z w u) (h1 : -9218868437227405312 ≤ z) (h2 : z ≤ 9218868437227405312) (h3 : 0 ≤ w) (h4 : w ≤ 9218868437227405312) : d ≤ u := by
  by_cases z0 : z = 0
  · rw [h.zero z0, g.zero z0]; exact Int.le_refl _
  by_cases i : z = 9218868437227405312 ∨ z = -9218868437227405312 ∨ w = 0
  · rw [h.inf z0 i, g.inf z0 i]; exact Int.le_refl _
  by_cases s : w = 9218868437227405312
  · rw [h.small s (by omega) (by omega), g.small s (by omega) (by omega)]; exact Int.le_refl _
  exact exk_order2 (h.fin z0 (by omega) (by omega) (by omega) (by omega)) (g.fin z0 (by omega) (by omega) (by omega) (by omega))
theorem DivK.down {z w r : Int} (h : DivK 2 z w r) (h1 : -9218868437227405312 ≤ z) (h2 : z ≤ 9218868437227405312) (h3 : 0 ≤ w) (h4 : w ≤ 9218868437227405312) (e : r = 9218868437227405312) : z = 9218868437227405312 ∨ (0 < z ∧ w = 0) := by
  by_cases z0 : z = 0
  · have := h.zero z0; omega
  by_cases i : z = 9218868437227405312 ∨ z = -9218868437227405312 ∨ w = 0
  · have := h.inf z0 i
    by_cases p : 0 < z
    · omega
    · rw [if_neg p] at this; omega
  by_cases s : w = 9218868437227405312
  · have := h.small s (by omega) (by omega); omega
  have := exk_down (h.fin z0 (by omega) (by omega) (by omega) (by omega)); omega
theorem DivK.up {z w r : Int} (h : DivK 1 z w r) (h1 : -9218868437227405312 ≤ z) (h2 : z ≤ 9218868437227405312) (h3 : 0 ≤ w) (h4 : w ≤ 9218868437227405312) (e : r = -9218868437227405312) : z = -9218868437227405312 ∨ (z < 0 ∧ w = 0) := by
  by_cases z0 : z = 0
  · have := h.zero z0; omega
  by_cases i : z = 9218868437227405312 ∨ z = -9218868437227405312 ∨ w = 0
  · have := h.inf z0 i
    by_cases p : 0 < z
    · rw [if_pos p] at this; omega
    · omega
  by_cases s : w = 9218868437227405312
  · have := h.small s (by omega) (by omega); omega
  have := exk_up (h.fin z0 (by omega) (by omega) (by omega) (by omega)); omega
end Go.Fb
namespace Go.Fb
open Go.Ev
def cl (L : Int) : Int := if L = 9218868437227405312 then 9218868437227405311 else L
def ch (H : Int) : Int := if H = -9218868437227405312 then -9218868437227405311 else H
def KI (d u : Int) : IV := some (cl d, ch u)
theorem cl_mono {x y : Int} (h : x ≤ y) (g : y ≤ 9218868437227405312) : cl x ≤ cl y := by unfold cl; split <;> split <;> omega
theorem ch_mono {x y : Int} (h : x ≤ y) (_g : -9218868437227405312 ≤ x) : ch x ≤ ch y := by unfold ch; split <;> split <;> omega
theorem GI.KI {d u : Int} (h : d ≤ u) (h1 : -9218868437227405312 ≤ d) (h2 : u ≤ 9218868437227405312) : GI (KI d u) := fun a b e => by
  cases e
  unfold cl ch
  split <;> split <;> omega
theorem outer_is {lo hi L H : Int} (h1 : Wd lo) (h2 : Wd hi) (k1 : kz lo = some L) (k2 : kz hi = some H) (h : L ≤ H) : sp_outer lo hi = enc (KI L H) := by
  suffices Tr.Is (sp_outer_t lo hi) (enc (KI L H)) from this.1
  have r1 := kz_rng h1 k1; have r2 := kz_rng h2 k2
  have i1 : (lo == sp_inf) = decide (L = 9218868437227405312) := by
    rw [sp_inf_val]
    rcases kz_cases h1 with ⟨e, _⟩ | ⟨s, k, g1, rfl, e⟩
    · rw [e] at k1; cases k1
    · rw [e] at k1; injection k1 with k1; subst k1; exact fl_inf g1
  have i2 : (hi == sp_ninf) = decide (H = -9218868437227405312) := by
    rw [sp_ninf_val]
    rcases kz_cases h2 with ⟨e, _⟩ | ⟨s, k, g1, rfl, e⟩
    · rw [e] at k2; cases k2
    · rw [e] at k2; injection k2 with k2; subst k2; exact fl_ninf g1
  by_cases c : L = 9218868437227405312
  · have ci := i1.trans (dt c)
    have el : lo = kf 9218868437227405312 := by rw [sp_inf_val] at ci; exact beq_iff_eq.1 ci
    have p := prev_kf (z := 9218868437227405312) (by omega) (by omega)
    refine Tr.is_br_t ci (Tr.is_leaf ?_)
    rw [el, Make_kz p.1 h2, p.2.1, k2]
    show enc (mk (9218868437227405312 - 1) H) = _
    rw [mk_of ⟨by omega, by omega, by omega, by omega, by omega⟩]
    unfold KI cl ch; rw [if_pos c, if_neg (by omega)]; rfl
  · refine Tr.is_br_f (i1.trans (df c)) ?_
    by_cases d : H = -9218868437227405312
    · have ci := i2.trans (dt d)
      have el : hi = kf (-9218868437227405312) := by rw [sp_ninf_val] at ci; exact beq_iff_eq.1 ci
      have p := next_kf (z := -9218868437227405312) (by omega) (by omega)
      refine Tr.is_br_t ci (Tr.is_leaf ?_)
      rw [el, Make_kz h1 p.1, p.2.1, k1]
      show enc (mk L (-9218868437227405312 + 1)) = _
      rw [mk_of ⟨by omega, by omega, by omega, by omega, by omega⟩]
      unfold KI cl ch; rw [if_pos d, if_neg c]; rfl
    · refine Tr.is_br_f (i2.trans (df d)) (Tr.is_leaf ?_)
      rw [Make_kz h1 h2, k1, k2]
      show enc (mk L H) = _
      rw [mk_of ⟨by omega, by omega, by omega, by omega, by omega⟩]
      unfold KI cl ch; rw [if_neg d, if_neg c]
theorem join_is {x y : SP} {X Y : IV} (hx : x = enc X) (hy : y = enc Y) (gx : GI X) (gy : GI Y) : sp_Join_s (id [[Cv.b x.empty, Cv.i x.lo, Cv.i x.hi], [Cv.b y.empty, Cv.i y.lo, Cv.i y.hi]]) = true ∧ sp_Join (id [[Cv.b x.empty, Cv.i x.lo, Cv.i x.hi], [Cv.b y.empty, Cv.i y.lo, Cv.i y.hi]]) = enc (joinI X Y) := by
  subst hx hy
  have h := Join2 (a := enc X) (b := enc Y) (enc_ws gx) (enc_ws gy)
  rw [nI_enc gx, nI_enc gy] at h
  exact h
def corn (f g : Int → Int → Int) (al ah bl bh : Int) : IV := joinI (joinI (joinI (KI (f al bl) (g al bl)) (KI (f al bh) (g al bh))) (KI (f ah bl) (g ah bl))) (KI (f ah bh) (g ah bh))
structure Box (f g : Int → Int → Int) (al ah bl bh : Int) : Prop where
  fx : ∀ z w, al ≤ z → z ≤ ah → bl ≤ w → w ≤ bh → f al w ≤ f z w ∨ f ah w ≤ f z w
  fy : ∀ z w, al ≤ z → z ≤ ah → bl ≤ w → w ≤ bh → f z bl ≤ f z w ∨ f z bh ≤ f z w
  gx : ∀ z w, al ≤ z → z ≤ ah → bl ≤ w → w ≤ bh → g z w ≤ g al w ∨ g z w ≤ g ah w
  gy : ∀ z w, al ≤ z → z ≤ ah → bl ≤ w → w ≤ bh → g z w ≤ g z bl ∨ g z w ≤ g z bh
  r : ∀ z w, al ≤ z → z ≤ ah → bl ≤ w → w ≤ bh → -9218868437227405312 ≤ f z w ∧ f z w ≤ g z w ∧ g z w ≤ 9218868437227405312
theorem corn_has {f g : Int → Int → Int} {al ah bl bh zc wc : Int} (hz : zc = al ∨ zc = ah) (hw : wc = bl ∨ wc = bh) : insI (KI (f zc wc) (g zc wc)) (corn f g al ah bl bh) = true := by
  unfold corn
  rcases hz with rfl | rfl <;> rcases hw with rfl | rfl
  · exact insI_trans (insI_trans (insI_join_l _ _) (insI_join_l _ _)) (insI_join_l _ _)
  · exact insI_trans (insI_trans (insI_join_r _ _) (insI_join_l _ _)) (insI_join_l _ _)
  · exact insI_trans (insI_join_r _ _) (insI_join_l _ _)
  · exact insI_join_r _ _
theorem Box.corn {f g : Int → Int → Int} {al ah bl bh : Int} (B : Box f g al ah bl bh) (ha : al ≤ ah) (_hb : bl ≤ bh) {z w : Int} (h1 : al ≤ z) (h2 : z ≤ ah) (h3 : bl ≤ w) (h4 : w ≤ bh) : insI (KI (f z w) (g z w)) (corn f g al ah bl bh) = true := by
  have lo : ∃ zc wc, (zc = al ∨ zc = ah) ∧ (wc = bl ∨ wc = bh) ∧ f zc wc ≤ f z w := by
    rcases B.fx z w h1 h2 h3 h4 with e | e
    · rcases B.fy al w (by omega) ha h3 h4 with d | d
      · exact ⟨al, bl, .inl rfl, .inl rfl, by omega⟩
      · exact ⟨al, bh, .inl rfl, .inr rfl, by omega⟩
    · rcases B.fy ah w ha (by omega) h3 h4 with d | d
      · exact ⟨ah, bl, .inr rfl, .inl rfl, by omega⟩
      · exact ⟨ah, bh, .inr rfl, .inr rfl, by omega⟩
  have hi : ∃ zc wc, (zc = al ∨ zc = ah) ∧ (wc = bl ∨ wc = bh) ∧ g z w ≤ g zc wc := by
    rcases B.gx z w h1 h2 h3 h4 with e | e
    · rcases B.gy al w (by omega) ha h3 h4 with d | d
      · exact ⟨al, bl, .inl rfl, .inl rfl, by omega⟩
      · exact ⟨al, bh, .inl rfl, .inr rfl, by omega⟩
    · rcases B.gy ah w ha (by omega) h3 h4 with d | d
      · exact ⟨ah, bl, .inr rfl, .inl rfl, by omega⟩
      · exact ⟨ah, bh, .inr rfl, .inr rfl, by omega⟩
  obtain ⟨z1, w1, c1, c2, c3⟩ := lo
  obtain ⟨z2, w2, d1, d2, d3⟩ := hi
  have i1 := corn_has (f := f) (g := g) c1 c2
  have i2 := corn_has (f := f) (g := g) d1 d2
  obtain ⟨l, h, e, p1, p2⟩ := insI_some i1
  rw [e] at i2 ⊢
  obtain ⟨l', h', e', q1, q2⟩ := insI_some i2
  cases e'
  have r := B.r z w h1 h2 h3 h4
  have r2 := B.r z w h1 h2 h3 h4
  have m1 := cl_mono c3 (by omega)
  have m2 := ch_mono d3 (by omega)
  exact insI_of (by omega) (by omega)
theorem GI.corn {f g : Int → Int → Int} {al ah bl bh : Int} (B : Box f g al ah bl bh) (h1 : al ≤ ah) (h2 : bl ≤ bh) : GI (corn f g al ah bl bh) := by
  have r1 := B.r al bl (by omega) (by omega) (by omega) (by omega)
  have r2 := B.r al bh (by omega) (by omega) (by omega) (by omega)
  have r3 := B.r ah bl (by omega) (by omega) (by omega) (by omega)
  have r4 := B.r ah bh (by omega) (by omega) (by omega) (by omega)
  exact GI.join (GI.join (GI.join (GI.KI (by omega) (by omega) (by omega)) (GI.KI (by omega) (by omega) (by omega))) (GI.KI (by omega) (by omega) (by omega))) (GI.KI (by omega) (by omega) (by omega))
def mulF (m z w : Int) : Int := (kz (sp_Mul1 (kf z) (kf w) m)).getD 0
theorem mulF_spec {z w : Int} (h1 : -9218868437227405312 ≤ z) (h2 : z ≤ 9218868437227405312) (h3 : -9218868437227405312 ≤ w) (h4 : w ≤ 9218868437227405312) (m : Int) : sp_Mul1_s (kf z) (kf w) m = true ∧ Wd (sp_Mul1 (kf z) (kf w) m) ∧ kz (sp_Mul1 (kf z) (kf w) m) = some (mulF m z w) ∧ MulK m z w (mulF m z w) := by
  obtain ⟨x, r, t, a, b, c⟩ := mul1_kf h1 h2 h3 h4 m
  have e : sp_Mul1 (kf z) (kf w) m = x := t.1
  unfold mulF; rw [e, b]; exact ⟨t.2, a, rfl, c⟩
theorem mul_box {al ah bl bh : Int} (h1 : -9218868437227405312 ≤ al) (h2 : ah ≤ 9218868437227405312) (h3 : -9218868437227405312 ≤ bl) (h4 : bh ≤ 9218868437227405312) : Box (mulF 2) (mulF 1) al ah bl bh where
  fx z w a b c d := by
    have k := fun x (p : al ≤ x) (q : x ≤ ah) => (mulF_spec (z := x) (w := w) (by omega) (by omega) (by omega) (by omega) 2).2.2.2
    by_cases s : 0 ≤ w
    · exact .inl ((k al (by omega) (by omega)).mono (k z a b) s a (by omega) (by omega) (by omega))
    · exact .inr ((k z a b).anti (k ah (by omega) (by omega)) (by omega) b (by omega) (by omega) (by omega))
  fy z w a b c d := by
    have k := fun x (p : bl ≤ x) (q : x ≤ bh) => (mulF_spec (z := z) (w := x) (by omega) (by omega) (by omega) (by omega) 2).2.2.2.symm
    by_cases s : 0 ≤ z
    · exact .inl ((k bl (by omega) (by omega)).mono (k w c d) s c (by omega) (by omega) (by omega))
    · exact .inr ((k w c d).anti (k bh (by omega) (by omega)) (by omega) d (by omega) (by omega) (by omega))
  gx z w a b c d := by
    have k := fun x (p : al ≤ x) (q : x ≤ ah) => (mulF_spec (z := x) (w := w) (by omega) (by omega) (by omega) (by omega) 1).2.2.2
    by_cases s : 0 ≤ w
    · exact .inr ((k z a b).mono (k ah (by omega) (by omega)) s b (by omega) (by omega) (by omega))
    · exact .inl ((k al (by omega) (by omega)).anti (k z a b) (by omega) a (by omega) (by omega) (by omega))
  gy z w a b c d := by
    have k := fun x (p : bl ≤ x) (q : x ≤ bh) => (mulF_spec (z := z) (w := x) (by omega) (by omega) (by omega) (by omega) 1).2.2.2.symm
    by_cases s : 0 ≤ z
    · exact .inr ((k w c d).mono (k bh (by omega) (by omega)) s d (by omega) (by omega) (by omega))
    · exact .inl ((k bl (by omega) (by omega)).anti (k w c d) (by omega) c (by omega) (by omega) (by omega))
  r z w a b c d := by
    have x := (mulF_spec (z := z) (w := w) (by omega) (by omega) (by omega) (by omega) 2).2.2.2
    have y := (mulF_spec (z := z) (w := w) (by omega) (by omega) (by omega) (by omega) 1).2.2.2
    have := x.order y (by omega) (by omega) (by omega) (by omega)
    have := x.rng; have := y.rng; omega
theorem cornersM_is {al ah bl bh : Int} (hA : GI (some (al, ah))) (hB : GI (some (bl, bh))) : sp_cornersM_s (enc (some (al, ah))) (enc (some (bl, bh))) () = true ∧ sp_cornersM (enc (some (al, ah))) (enc (some (bl, bh))) () = enc (corn (mulF 2) (mulF 1) al ah bl bh) := by
  suffices h : Tr.Is (sp_cornersM_t (enc (some (al, ah))) (enc (some (bl, bh))) ()) (enc (corn (mulF 2) (mulF 1) al ah bl bh)) from ⟨h.2, h.1⟩
  have p := hA _ _ rfl; have q := hB _ _ rfl
  have B : Box (mulF 2) (mulF 1) al ah bl bh := mul_box (by omega) (by omega) (by omega) (by omega)
  have s := fun z w m (a : al ≤ z) (b : z ≤ ah) (c : bl ≤ w) (d : w ≤ bh) => mulF_spec (z := z) (w := w) (by omega) (by omega) (by omega) (by omega) m
  have o : ∀ z w, al ≤ z → z ≤ ah → bl ≤ w → w ≤ bh → sp_outer (sp_Mul1 (kf z) (kf w) 2) (sp_Mul1 (kf z) (kf w) 1) = enc (KI (mulF 2 z w) (mulF 1 z w)) := fun z w a b c d =>
    outer_is (s z w 2 a b c d).2.1 (s z w 1 a b c d).2.1 (s z w 2 a b c d).2.2.1 (s z w 1 a b c d).2.2.1 (B.r z w a b c d).2.1
  have g : ∀ z w, al ≤ z → z ≤ ah → bl ≤ w → w ≤ bh → GI (KI (mulF 2 z w) (mulF 1 z w)) := fun z w a b c d => by
    have := B.r z w a b c d; exact GI.KI (by omega) (by omega) (by omega)
  have o1 := o al bl (by omega) (by omega) (by omega) (by omega)
  have o2 := o al bh (by omega) (by omega) (by omega) (by omega)
  have o3 := o ah bl (by omega) (by omega) (by omega) (by omega)
  have o4 := o ah bh (by omega) (by omega) (by omega) (by omega)
  have g1 := g al bl (by omega) (by omega) (by omega) (by omega)
  have g2 := g al bh (by omega) (by omega) (by omega) (by omega)
  have g3 := g ah bl (by omega) (by omega) (by omega) (by omega)
  have g4 := g ah bh (by omega) (by omega) (by omega) (by omega)
  unfold sp_cornersM_t sp_cornersM_T
  extract_lets t0 t1 t2 t3 t4 t5 t6 t7 t8 t9 t10
  have j1 := join_is (x := sp_none) (y := t3) (X := none) rfl o1 GI.nil g1
  have e5 : t5 = enc (KI (mulF 2 al bl) (mulF 1 al bl)) := j1.2
  have j2 := join_is (x := t5) (y := t1) e5 o2 g1 g2
  have j3 := join_is (x := t7) (y := t0) j2.2 o3 (GI.join g1 g2) g3
  have j4 := join_is (x := t9) (y := t2) j3.2 o4 (GI.join (GI.join g1 g2) g3) g4
  exact Tr.is_ast (s al bl 2 (by omega) (by omega) (by omega) (by omega)).1 (Tr.is_ast (s al bl 1 (by omega) (by omega) (by omega) (by omega)).1 (Tr.is_ast j1.1
    (Tr.is_ast (s al bh 2 (by omega) (by omega) (by omega) (by omega)).1 (Tr.is_ast (s al bh 1 (by omega) (by omega) (by omega) (by omega)).1 (Tr.is_ast j2.1
    (Tr.is_ast (s ah bl 2 (by omega) (by omega) (by omega) (by omega)).1 (Tr.is_ast (s ah bl 1 (by omega) (by omega) (by omega) (by omega)).1 (Tr.is_ast j3.1
    (Tr.is_ast (s ah bh 2 (by omega) (by omega) (by omega) (by omega)).1 (Tr.is_ast (s ah bh 1 (by omega) (by omega) (by omega) (by omega)).1 (Tr.is_ast j4.1 (Tr.is_leaf j4.2))))))))))))
end Go.Fb
namespace Go.Fb
open Go.Ev
def mulI : IV → IV → IV
  | some (al, ah), some (bl, bh) => corn (mulF 2) (mulF 1) al ah bl bh
  | _, _ => none
theorem Mul_is {a b : SP} {A B : IV} (hA : GI A) (hB : GI B) (ha : sp_norm a = enc A) (hb : sp_norm b = enc B) : sp_Mul_s a b = true ∧ sp_Mul a b = enc (mulI A B) := by
  suffices h : Tr.Is (sp_Mul_t a b) (enc (mulI A B)) from ⟨h.2, h.1⟩
  unfold sp_Mul_t sp_Mul_T; rw [ha, hb]
  match A, B, hA, hB with
  | none, _, _, _ => exact Tr.is_br_t rfl (Tr.is_leaf rfl)
  | some _, none, _, _ => exact Tr.is_br_f rfl (Tr.is_br_t rfl (Tr.is_leaf rfl))
  | some (al, ah), some (bl, bh), hA, hB =>
    have c := cornersM_is hA hB
    exact Tr.is_br_f rfl (Tr.is_br_f rfl (Tr.is_ast c.1 (Tr.is_leaf c.2)))
structure AddK (m z w r : Int) : Prop where
  infz : (z = 9218868437227405312 ∨ z = -9218868437227405312) → r = z
  infw : -9218868437227405312 < z → z < 9218868437227405312 → (w = 9218868437227405312 ∨ w = -9218868437227405312) → r = w
  fin : -9218868437227405312 < z → z < 9218868437227405312 → -9218868437227405312 < w → w < 9218868437227405312 → ExK (zv z + zv w) m r
  rng : -9218868437227405312 ≤ r ∧ r ≤ 9218868437227405312
theorem AddK.mono {m z w z' w' r r' : Int} (h : AddK m z w r) (g : AddK m z' w' r') (a : z ≤ z') (b : w ≤ w') (h1 : -9218868437227405312 ≤ z) (h2 : z' ≤ 9218868437227405312) (h3 : -9218868437227405312 ≤ w) (h4 : w' ≤ 9218868437227405312) : r ≤ r' := by
  have R := h.rng; have R' := g.rng
  by_cases c1 : z = -9218868437227405312
  · have := h.infz (.inr c1); omega
  by_cases c2 : z' = 9218868437227405312
  · have := g.infz (.inl c2); omega
  by_cases c3 : w = -9218868437227405312
  · have := h.infw (by omega) (by omega) (.inr c3); omega
  by_cases c4 : w' = 9218868437227405312
  · have := g.infw (by omega) (by omega) (.inl c4); omega
  refine exk_mono ?_ (h.fin (by omega) (by omega) (by omega) (by omega)) (g.fin (by omega) (by omega) (by omega) (by omega))
  have p := zv_le (z := z) (w := z') (by omega) (by omega) (by omega) (by omega) a
  have q := zv_le (z := w) (w := w') (by omega) (by omega) (by omega) (by omega) b
  grind
theorem add_kf {z w : Int} (h1 : -9218868437227405312 ≤ z) (h2 : z ≤ 9218868437227405312) (h3 : -9218868437227405312 ≤ w) (h4 : w ≤ 9218868437227405312) (hc : ¬ (z = 9218868437227405312 ∧ w = -9218868437227405312)) (hd : ¬ (z = -9218868437227405312 ∧ w = 9218868437227405312)) (m : Int) :
    ∃ v r, Tr.Is (s_Add_t (kf z) (kf w) m) v ∧ Tr.Is (r6_Add_t (kf z) (kf w) m) v ∧ Wd v.1 ∧ kz v.1 = some r ∧ AddK m z w r := by
  obtain ⟨v, a, b, c⟩ := add_both (s := decide (z < 0)) (t := decide (w < 0)) (k := z.natAbs) (j := w.natAbs) (by omega) (by omega) m
  rcases addRK c (by omega) (by omega) with d | ⟨r, d, e⟩
  · exfalso
    cases c with
    | nan h e => omega
    | bad h e =>
      obtain ⟨e1, e2, e3⟩ := h
      refine e3 ?_
      rw [decide_eq_decide]; omega
    | infa h e =>
      rw [e] at d
      have : fl (decide (z < 0)) 9218868437227405312 = fl false 9221120237041090560 := d
      have := (fl_inj (by omega) (by omega) this).2
      omega
    | infb h e =>
      rw [e] at d
      have : fl (decide (w < 0)) 9218868437227405312 = fl false 9221120237041090560 := d
      have := (fl_inj (by omega) (by omega) this).2
      omega
    | fin h w' =>
      have hk : ∃ q, RK v.1 q := by
        rcases w' with ⟨z0, e⟩ | ⟨z0, e⟩
        · rw [e]; split <;> exact ⟨_, _, 0, by omega, rfl, rfl⟩
        · obtain ⟨q, q1, _⟩ := exF_key z0 e; exact ⟨q, q1⟩
      obtain ⟨q, s, n, hn, e, _⟩ := hk
      rw [d] at e
      have : fl false 9221120237041090560 = fl s n := e
      have := (fl_inj (by omega) (by omega) this).2
      omega
  · refine ⟨v, r, a, b, d.kz.1, d.kz.2, fun g => ?_, fun g1 g2 g3 => ?_, fun g1 g2 g3 g4 => ?_, d.rng⟩
    · rcases e with ⟨e1, e2⟩ | ⟨e1, e2, e3⟩ | ⟨e1, e2, e3⟩
      · rw [e2, ky_kf]
      · omega
      · omega
    · rcases e with ⟨e1, e2⟩ | ⟨e1, e2, e3⟩ | ⟨e1, e2, e3⟩
      · omega
      · rw [e3, ky_kf]
      · omega
    · rcases e with ⟨e1, e2⟩ | ⟨e1, e2, e3⟩ | ⟨e1, e2, e3⟩
      · omega
      · omega
      · exact e3
def addF (m z w : Int) : Int := (kz (s_Add (kf z) (kf w) m).1).getD 0
theorem addF_spec {z w : Int} (h1 : -9218868437227405312 ≤ z) (h2 : z ≤ 9218868437227405312) (h3 : -9218868437227405312 ≤ w) (h4 : w ≤ 9218868437227405312) (hc : ¬ (z = 9218868437227405312 ∧ w = -9218868437227405312)) (hd : ¬ (z = -9218868437227405312 ∧ w = 9218868437227405312)) (m : Int) : s_Add_s (kf z) (kf w) m = true ∧ Wd (s_Add (kf z) (kf w) m).1 ∧ kz (s_Add (kf z) (kf w) m).1 = some (addF m z w) ∧ AddK m z w (addF m z w) := by
  obtain ⟨v, r, t, _, a, b, c⟩ := add_kf h1 h2 h3 h4 hc hd m
  have e : s_Add (kf z) (kf w) m = v := t.1
  unfold addF; rw [e, b]; exact ⟨t.2, a, rfl, c⟩
def addI : IV → IV → IV
  | some (al, ah), some (bl, bh) => mk (addF 2 al bl) (addF 1 ah bh)
  | _, _ => none
theorem Add_is {a b : SP} {A B : IV} (hA : GI A) (hB : GI B) (ha : sp_norm a = enc A) (hb : sp_norm b = enc B) : sp_Add_s a b = true ∧ sp_Add a b = enc (addI A B) := by
  suffices h : Tr.Is (sp_Add_t a b) (enc (addI A B)) from ⟨h.2, h.1⟩
  unfold sp_Add_t sp_Add_T; rw [ha, hb]
  match A, B, hA, hB with
  | none, _, _, _ => exact Tr.is_br_t rfl (Tr.is_leaf rfl)
  | some _, none, _, _ => exact Tr.is_br_f rfl (Tr.is_br_t rfl (Tr.is_leaf rfl))
  | some (al, ah), some (bl, bh), hA, hB =>
    have p := hA _ _ rfl; have q := hB _ _ rfl
    have x := addF_spec (z := al) (w := bl) (by omega) (by omega) (by omega) (by omega) (by omega) (by omega) 2
    have y := addF_spec (z := ah) (w := bh) (by omega) (by omega) (by omega) (by omega) (by omega) (by omega) 1
    refine Tr.is_br_f rfl (Tr.is_br_f rfl (Tr.is_ast x.1 (Tr.is_ast y.1 (Tr.is_leaf ?_))))
    show sp_Make (s_Add (kf al) (kf bl) 2).1 (s_Add (kf ah) (kf bh) 1).1 = _
    rw [Make_kz x.2.1 y.2.1, x.2.2.1, y.2.2.1]; rfl
end Go.Fb
namespace Go.Fb
open Go.Ev
theorem cut_xQ (S N D t : Nat) : (0 ≤ cut (xQ S N D) t ↔ D * t ≤ N * 2 ^ (S + 1075)) ∧ (0 < cut (xQ S N D) t ↔ D * t < N * 2 ^ (S + 1075)) := by
  unfold cut xQ
  dsimp only
  simp only [Bool.false_eq_true, if_false]
  constructor
  · split
    · exact ⟨fun g => absurd g (by decide), fun g => by omega⟩
    · exact ⟨fun _ => by omega, fun _ => by split <;> decide⟩
  · split
    · exact ⟨fun g => absurd g (by decide), fun g => by omega⟩
    · split
      · exact ⟨fun _ => by omega, fun _ => by decide⟩
      · exact ⟨fun g => absurd g (by decide), fun g => by omega⟩
theorem scale_cut (S k N D T : Nat) (_hT : T = 1074) : (D * pos S k ≤ N * 2 ^ (S + 1075) ↔ D * kvN k ≤ N * 2 ^ T) ∧ (D * pos S k < N * 2 ^ (S + 1075) ↔ D * kvN k < N * 2 ^ T) := by
  have e1 : D * pos S k = D * kvN k * 2 ^ (S + 1) := by unfold pos; rw [Nat.pow_succ]; ac_rfl
  have e2 : N * 2 ^ (S + 1075) = N * 2 ^ T * 2 ^ (S + 1) := by rw [show S + 1075 = T + (S + 1) by omega, Nat.pow_add, Nat.mul_assoc]
  rw [e1, e2]
  have p := Nat.two_pow_pos (S + 1)
  exact ⟨⟨fun h => Nat.le_of_mul_le_mul_right h p, fun h => Nat.mul_le_mul_right _ h⟩, ⟨fun h => Nat.lt_of_mul_lt_mul_right h, fun h => Nat.mul_lt_mul_of_pos_right h p⟩⟩
theorem cmp_fv {x : Rat} (hx : 0 < x) {k : Nat} (hk : k < 9218868437227405312) (S : Nat) : (0 ≤ cut (xV S x) (pos S k) ↔ fv false k ≤ x) ∧ (0 < cut (xV S x) (pos S k) ↔ fv false k < x) := by
  obtain ⟨T, hT, hfv⟩ := fvT
  have e : xV S x = xQ S x.num.natAbs x.den := rfl
  rw [e, (cut_xQ _ _ _ _).1, (cut_xQ _ _ _ _).2, (scale_cut S k _ _ T hT).1, (scale_cut S k _ _ T hT).2, hfv false k hk]
  have h1 : 0 ≤ x.num := Rat.num_nonneg.2 (Rat.le_of_lt hx)
  obtain ⟨n, hn⟩ := Int.eq_ofNat_of_zero_le h1
  have hq : x = rq false n x.den := by
    have := rq_self x
    rw [df (Rat.not_lt.2 (Rat.le_of_lt hx)), hn, Int.natAbs_natCast] at this
    exact this.symm
  rw [hn, Int.natAbs_natCast]
  have d0 : x.den ≠ 0 := x.den_nz
  have sc : rq false (kvN k) (2 ^ T) = rq false (kvN k * x.den) (2 ^ T * x.den) := (rq_scale false d0).symm
  have sx : rq false n x.den = rq false (n * 2 ^ T) (2 ^ T * x.den) := by rw [Nat.mul_comm (2 ^ T)]; exact (rq_scale false (two_nz T)).symm
  have dd : 2 ^ T * x.den ≠ 0 := Nat.mul_ne_zero (two_nz T) d0
  have lt1 : ∀ a b : Nat, rq false a (2 ^ T * x.den) < rq false b (2 ^ T * x.den) ↔ a < b := fun a b => by
    rw [rq_lt dd]; unfold sg; rw [if_neg (by simp), if_neg (by simp)]; omega
  generalize hD : x.den = D at *
  rw [hq, sc, sx]
  constructor
  · rw [← Rat.not_lt, lt1, Nat.not_lt, Nat.mul_comm D]
  · rw [lt1, Nat.mul_comm D]
theorem mag_down {x : Rat} (hx : 0 < x) {K : Nat} {a b : Bool} (s : Sit 3925 (xV 3925 x) K a b) : rk K a b 2 < 9218868437227405312 ∧ fv false (rk K a b 2) ≤ x := by
  have hk : rk K a b 2 = if 9218868437227405312 ≤ K then 9218868437227405311 else K := by rw [rk_of]; rfl
  have lt : rk K a b 2 < 9218868437227405312 := by rw [hk]; split <;> omega
  refine ⟨lt, ((cmp_fv hx lt 3925).1).1 (cut_mono (pos_mono ?_) s.1)⟩
  rw [hk]; split <;> omega
theorem mag_up {x : Rat} (hx : 0 < x) {K : Nat} {a b : Bool} (s : Sit 3925 (xV 3925 x) K a b) (h : rk K a b 1 < 9218868437227405312) : x ≤ fv false (rk K a b 1) := by
  have hk : rk K a b 1 = if 9218868437227405312 ≤ rkey K a b 1 then 9218868437227405312 else rkey K a b 1 := by rw [rk_of]; rfl
  have e : rk K a b 1 = if a || b then K + 1 else K := by
    rw [hk] at h ⊢
    split
    · rename_i c; rw [if_pos c] at h; omega
    · rfl
  refine Rat.not_lt.1 fun c => ?_
  have c := ((cmp_fv hx h 3925).2).2 c
  rw [e] at c
  by_cases g : (a || b) = true
  · rw [if_pos g] at c; have := s.2.1; omega
  · rw [if_neg g] at c
    obtain ⟨ga, gb⟩ := Bool.or_eq_false_iff.1 (eq_false_of_ne_true g)
    have := s.2.2.2
    rw [ga, gb, if_neg (by simp)] at this
    have := of_decide_eq_false this.symm
    omega
theorem zv_ky (s : Bool) {k : Nat} (_h : k < 9218868437227405312) : zv (ky s k) = fv s k := by
  unfold zv
  by_cases k0 : k = 0
  · subst k0; rw [show (ky s 0).natAbs = 0 by cases s <;> rfl, fv_zero, fv_zero]
  · cases s
    · have e : ky false k = (k : Int) := by unfold ky; simp
      rw [e, df (by omega), Int.natAbs_natCast]
    · have e : ky true k = -(k : Int) := by unfold ky; simp
      rw [e, dt (by omega), Int.natAbs_neg, Int.natAbs_natCast]
theorem ky_fin {s : Bool} {k : Nat} (h : -9218868437227405312 < ky s k) (g : ky s k < 9218868437227405312) : k < 9218868437227405312 := by
  cases s
  · unfold ky at g; simp at g; omega
  · unfold ky at h; simp at h; omega
theorem exk_le {x : Rat} {r : Int} (h : ExK x 2 r) (g : -9218868437227405312 < r) : zv r ≤ x := by
  have g' := exk_down h
  rcases h with ⟨h1, h2⟩ | ⟨h0, K, a, b, s, e⟩
  · rw [h1, h2, zv_zero]; exact Rat.le_refl
  · by_cases c : x < 0
    · rw [dt c] at e
      have w : wayOf true 2 = 1 := rfl
      rw [w] at e
      rw [e] at g g' ⊢
      have kf := ky_fin g g'
      rw [zv_ky _ kf]
      have s' : Sit 3925 (xV 3925 (-x)) K a b := by rw [xV_neg]; exact s
      have := mag_up (x := -x) (by grind) s' kf
      rw [show fv true (rk K a b 1) = fv (!false) (rk K a b 1) from rfl, fv_neg]
      grind
    · rw [df c] at e
      have w : wayOf false 2 = 2 := rfl
      rw [w] at e
      rw [e] at g g' ⊢
      have kf := ky_fin g g'
      rw [zv_ky _ kf]
      exact (mag_down (by grind) s).2
theorem exk_ge {x : Rat} {r : Int} (h : ExK x 1 r) (g : r < 9218868437227405312) : x ≤ zv r := by
  have g' := exk_up h
  rcases h with ⟨h1, h2⟩ | ⟨h0, K, a, b, s, e⟩
  · rw [h1, h2, zv_zero]; exact Rat.le_refl
  · by_cases c : x < 0
    · rw [dt c] at e
      have w : wayOf true 1 = 2 := rfl
      rw [w] at e
      rw [e] at g g' ⊢
      have kf := ky_fin g' g
      rw [zv_ky _ kf]
      have s' : Sit 3925 (xV 3925 (-x)) K a b := by rw [xV_neg]; exact s
      have := (mag_down (x := -x) (by grind) s').2
      rw [show fv true (rk K a b 2) = fv (!false) (rk K a b 2) from rfl, fv_neg]
      grind
    · rw [df c] at e
      have w : wayOf false 1 = 1 := rfl
      rw [w] at e
      rw [e] at g g' ⊢
      have kf := ky_fin g' g
      rw [zv_ky _ kf]
      exact mag_up (by grind) s kf
end Go.Fb
namespace Go.Fb
open Go.Ev
theorem MulK.unique {m z w r r' : Int} (h : MulK m z w r) (g : MulK m z w r') (h1 : -9218868437227405312 ≤ z) (h2 : z ≤ 9218868437227405312) (h3 : -9218868437227405312 ≤ w) (h4 : w ≤ 9218868437227405312) : r = r' := by
  by_cases c : 0 ≤ w
  · have := h.mono g c (Int.le_refl _) h1 h2 h4; have := g.mono h c (Int.le_refl _) h1 h2 h4; omega
  · have := h.anti g (by omega) (Int.le_refl _) h1 h2 h3; have := g.anti h (by omega) (Int.le_refl _) h1 h2 h3; omega
theorem DivK.unique {m z w r r' : Int} (h : DivK m z w r) (g : DivK m z w r') (h1 : -9218868437227405312 ≤ z) (h2 : z ≤ 9218868437227405312) (h3 : 0 ≤ w) (h4 : w ≤ 9218868437227405312) : r = r' := by
  have := h.mono g h3 (Int.le_refl _) h1 h2 h4; have := g.mono h h3 (Int.le_refl _) h1 h2 h4; omega
theorem joinI_min (l h l' h' : Int) : joinI (some (l, h)) (some (l', h')) = some (min l l', max h h') := by
  show some _ = _
  congr 2
  · split <;> omega
theorem KI_min {d u : Int} (h : d ≤ 9218868437227405312) (g : -9218868437227405312 ≤ u) : KI d u = some (min d 9218868437227405311, max u (-9218868437227405311)) := by
  unfold KI cl ch
  congr 2
  · split <;> omega
  · split <;> omega
end Go.Fb
namespace Go.Fb
open Go.Ev
theorem val_kz {v z : Int} (hv : Wd v) (hz : kz v = some z) (h1 : -9218868437227405312 < z) (h2 : z < 9218868437227405312) : p_Value_s v = true ∧ ∃ q, p_Value v = (q, true) ∧ RIs q (zv z) 300 := by
  rcases kz_cases hv with ⟨e, _⟩ | ⟨s, k, hk, rfl, e⟩
  · rw [e] at hz; cases hz
  · rw [e] at hz; injection hz with hz; subst hz
    have kf := ky_fin h1 h2
    rw [zv_ky s kf]
    exact value_spec kf
theorem val_inf {z : Int} (h : z = 9218868437227405312 ∨ z = -9218868437227405312) : p_Value_s (kf z) = true ∧ p_Value (kf z) = (⟨false, [], []⟩, false) := value_none (s := decide (z < 0)) (k := z.natAbs) (by omega) (by omega)
def InR (L H : Int) (X : Rat) : Prop := (L = -9218868437227405312 ∨ zv L ≤ X) ∧ (H = 9218868437227405312 ∨ X ≤ zv H)
instance (L H : Int) (X : Rat) : Decidable (InR L H X) := by unfold InR; infer_instance
theorem cmpQ_dec (x y : Rat) : decide (cmpQ x y ≤ 0) = decide (x ≤ y) := by
  rcases cmpQ_cases x y with ⟨e, h⟩ | ⟨e, h⟩ | ⟨e, h⟩
  · rw [e, dt (Rat.le_of_lt h)]; rfl
  · rw [e, dt (p := x ≤ y) (by rw [h]; exact Rat.le_refl)]; rfl
  · rw [e, df (p := x ≤ y) (Rat.not_le.2 h)]; rfl
theorem within_is {r : RR} {x : Rat} {k : Nat} (h : RIs r x k) (hk : k ≤ 40000) {l u : Int} (g : GI (some (l, u))) : Tr.Is (l16_within_t r (enc (some (l, u)))) (decide (InR l u x)) := by
  have p := g _ _ rfl
  have hm : k ≤ max k 300 := Nat.le_max_left _ _
  have hm2 : 300 ≤ max k 300 := Nat.le_max_right _ _
  have hm3 : max k 300 ≤ 40000 := Nat.max_le.2 ⟨hk, by omega⟩
  have up : ∀ q : RR × Bool, p_Value (kf u) = q → p_Value_s (kf u) = true ∧ ((u = 9218868437227405312 ∧ q.2 = false) ∨ (u ≠ 9218868437227405312 ∧ q.2 = true ∧ q_Cmp_s r q.1 = true ∧ q_Cmp r q.1 = cmpQ x (zv u))) := fun q hq => by
    by_cases c : u = 9218868437227405312
    · have v := val_inf (.inl c); rw [v.2] at hq; subst hq; exact ⟨v.1, .inl ⟨c, rfl⟩⟩
    · obtain ⟨v1, y, v2, v3⟩ := val_kz (v := kf u) (z := u) (kf_wd (by omega) (by omega)) (kz_kf (by omega) (by omega)) (by omega) (by omega)
      rw [v2] at hq; subst hq
      have e := qcmp_spec (h.le hm).RW (v3.le hm2).RW (Nat.le_trans (by omega) hm2) hm3
      rw [h.val, v3.val] at e
      exact ⟨v1, .inr ⟨c, rfl, e⟩⟩
  have lo : ∀ q : RR × Bool, p_Value (kf l) = q → p_Value_s (kf l) = true ∧ ((l = -9218868437227405312 ∧ q.2 = false) ∨ (l ≠ -9218868437227405312 ∧ q.2 = true ∧ q_Cmp_s q.1 r = true ∧ q_Cmp q.1 r = cmpQ (zv l) x)) := fun q hq => by
    by_cases c : l = -9218868437227405312
    · have v := val_inf (.inr c); rw [v.2] at hq; subst hq; exact ⟨v.1, .inl ⟨c, rfl⟩⟩
    · obtain ⟨v1, y, v2, v3⟩ := val_kz (v := kf l) (z := l) (kf_wd (by omega) (by omega)) (kz_kf (by omega) (by omega)) (by omega) (by omega)
      rw [v2] at hq; subst hq
      have e := qcmp_spec (v3.le hm2).RW (h.le hm).RW (Nat.le_trans (by omega) hm2) hm3
      rw [h.val, v3.val] at e
      exact ⟨v1, .inr ⟨c, rfl, e⟩⟩
  show Tr.Is (.br false (.leaf false) (.ast (p_Value_s (kf l)) (.ast (p_Value_s (kf u)) (.br (!(p_Value (kf l)).snd)
    (.br (!(p_Value (kf u)).snd) (.leaf true) (.ast (q_Cmp_s r (p_Value (kf u)).fst) (.leaf (decide (q_Cmp r (p_Value (kf u)).fst ≤ 0)))))
    (.ast (q_Cmp_s (p_Value (kf l)).fst r) (.br (decide (q_Cmp (p_Value (kf l)).fst r ≤ 0))
      (.br (!(p_Value (kf u)).snd) (.leaf true) (.ast (q_Cmp_s r (p_Value (kf u)).fst) (.leaf (decide (q_Cmp r (p_Value (kf u)).fst ≤ 0)))))
      (.leaf false))))))) _
  generalize hq1 : p_Value (kf l) = q1
  generalize hq2 : p_Value (kf u) = q2
  obtain ⟨s1, c1⟩ := lo q1 hq1
  obtain ⟨s2, c2⟩ := up q2 hq2
  have tail : Tr.Is (.br (!q2.snd) (.leaf true) (.ast (q_Cmp_s r q2.fst) (.leaf (decide (q_Cmp r q2.fst ≤ 0))))) (decide (u = 9218868437227405312 ∨ x ≤ zv u)) := by
    rcases c2 with ⟨e, d⟩ | ⟨e, d, f, i⟩
    · rw [dt (p := u = 9218868437227405312 ∨ x ≤ zv u) (.inl e)]; exact Tr.is_br_t (by rw [d]; rfl) (Tr.is_leaf rfl)
    · refine Tr.is_br_f (by rw [d]; rfl) (Tr.is_ast f (Tr.is_leaf ?_))
      rw [i, cmpQ_dec, decide_eq_decide]
      exact ⟨.inr, fun g => g.resolve_left e⟩
  refine Tr.is_br_f rfl (Tr.is_ast s1 (Tr.is_ast s2 ?_))
  rcases c1 with ⟨e, d⟩ | ⟨e, d, f, i⟩
  · refine Tr.is_br_t (by rw [d]; rfl) ?_
    have : decide (InR l u x) = decide (u = 9218868437227405312 ∨ x ≤ zv u) := by
      rw [decide_eq_decide]; unfold InR; exact ⟨fun g => g.2, fun g => ⟨.inl e, g⟩⟩
    rw [this]; exact tail
  · refine Tr.is_br_f (by rw [d]; rfl) (Tr.is_ast f ?_)
    rw [i, cmpQ_dec]
    by_cases b : zv l ≤ x
    · refine Tr.is_br_t (dt b) ?_
      have : decide (InR l u x) = decide (u = 9218868437227405312 ∨ x ≤ zv u) := by
        rw [decide_eq_decide]; unfold InR; exact ⟨fun g => g.2, fun g => ⟨.inr b, g⟩⟩
      rw [this]; exact tail
    · refine Tr.is_br_f (df b) (Tr.is_leaf ?_)
      rw [df]; unfold InR; rintro ⟨g | g, _⟩
      · exact e g
      · exact b g
def HasR (A : IV) (X : Rat) : Prop := ∃ l u, A = some (l, u) ∧ InR l u X
theorem HasR.sub {A B : IV} {X : Rat} (h : HasR A X) (hA : GI A) (hB : GI B) (i : insI A B = true) : HasR B X := by
  obtain ⟨l, u, rfl, h1, h2⟩ := h
  obtain ⟨l', u', rfl, i1, i2⟩ := insI_some i
  have p := hA _ _ rfl; have q := hB _ _ rfl
  refine ⟨l', u', rfl, ?_, ?_⟩
  · by_cases c : l' = -9218868437227405312
    · exact .inl c
    · right
      rcases h1 with e | e
      · omega
      · exact Rat.le_trans (zv_le (by omega) (by omega) (by omega) (by omega) i1) e
  · by_cases c : u' = 9218868437227405312
    · exact .inl c
    · right
      rcases h2 with e | e
      · omega
      · exact Rat.le_trans e (zv_le (by omega) (by omega) (by omega) (by omega) i2)
theorem within_has {r : RR} {x : Rat} {k : Nat} (h : RIs r x k) (hk : k ≤ 40000) {A : IV} (g : GI A) (hx : HasR A x) {s : SP} (hs : s = enc A) : l16_within_s r s = true ∧ l16_within r s = true := by
  subst hs
  obtain ⟨l, u, rfl, i⟩ := hx
  have t := within_is h hk g
  rw [dt i] at t
  exact ⟨t.2, t.1⟩
end Go.Fb
namespace Go.Fb
open Go.Ev
theorem exk_self {z : Int} (h1 : -9218868437227405312 < z) (h2 : z < 9218868437227405312) (m : Int) : ExK (zv z) m z := by
  by_cases z0 : z = 0
  · rw [z0, zv_zero]; exact exk_zero m
  · have hk : z.natAbs < 9218868437227405312 := by omega
    have h0 : z.natAbs ≠ 0 := by omega
    obtain ⟨y, y1, y2⟩ := exF_key (fv_nz (s := decide (z < 0)) hk h0).2.1 (exF_fv (s := decide (z < 0)) hk h0 m)
    have e := y1.kz.2
    rw [show kz (fl (decide (z < 0)) z.natAbs, (0 : Int)).1 = some z from kz_kf (by omega) (by omega)] at e
    injection e with e
    rw [e]; rw [e] at y2; exact y2
theorem exk_next {X : Rat} {d : Int} (h : ExK X 2 d) (g : d + 1 < 9218868437227405312) : X < zv (d + 1) := by
  have r := exk_rng h
  refine Rat.not_le.1 fun c => ?_
  have := exk_mono c (exk_self (by omega) g 2) h
  omega
theorem exk_prev {X : Rat} {u : Int} (h : ExK X 1 u) (g : -9218868437227405312 < u - 1) : zv (u - 1) < X := by
  have r := exk_rng h
  refine Rat.not_le.1 fun c => ?_
  have := exk_mono c h (exk_self g (by omega) 1)
  omega
theorem within_none {r : RR} {s : SP} (hs : s = enc none) : l16_within_s r s = true ∧ l16_within r s = false := by
  subst hs; exact ⟨rfl, rfl⟩
theorem tight_is {s : SP} {low high : RR} {x y : Rat} {L H : Int} {n : Nat} (hx : RIs low x n) (hy : RIs high y n) (hn : n ≤ 40000) (l : x ≤ y) (hL : ExK x 2 L) (hH : ExK y 1 H) (hs : s = enc (some (L, H))) : l16_tight_s s low high = true ∧ l16_tight s low high = true := by
  subst hs
  suffices h : Tr.Is (l16_tight_t (enc (some (L, H))) low high) true from ⟨h.2, h.1⟩
  have rL := exk_rng hL; have rH := exk_rng hH
  have dL := exk_down hL; have uH := exk_up hH
  have LH : L ≤ H := by
    obtain ⟨K1, hK⟩ : ∃ K1, ExK x 1 K1 := by
      by_cases c : x = 0
      · exact ⟨0, .inl ⟨c, rfl⟩⟩
      · rcases hL with ⟨e, _⟩ | ⟨_, K, a, b, s, _⟩
        · exact absurd e c
        · exact ⟨_, .inr ⟨c, K, a, b, s, rfl⟩⟩
    have := exk_order2 hL hK; have := exk_mono l hK hH; omega
  have g : GI (some (L, H)) := fun _ _ e => by cases e; omega
  have lo : L = -9218868437227405312 ∨ zv L ≤ x := by
    by_cases c : L = -9218868437227405312
    · exact .inl c
    · exact .inr (exk_le hL (by omega))
  have hi : H = 9218868437227405312 ∨ y ≤ zv H := by
    by_cases c : H = 9218868437227405312
    · exact .inl c
    · exact .inr (exk_ge hH (by omega))
  have w1 := within_has hx hn g ⟨L, H, rfl, lo, hi.imp id fun c => Rat.le_trans l c⟩ rfl
  have w2 := within_has hy hn g ⟨L, H, rfl, lo.imp id fun c => Rat.le_trans c l, hi⟩ rfl
  have nx := next_kf (z := L) (by omega) (by omega)
  have pv := prev_kf (z := H) (by omega) (by omega)
  have m1 : sp_Make (p_Next (kf L)) (kf H) = enc (mk (L + 1) H) := by rw [Make_kz nx.1 (kf_wd (by omega) (by omega)), nx.2.1, kz_kf (by omega) (by omega)]; rfl
  have m2 : sp_Make (kf L) (p_Prev (kf H)) = enc (mk L (H - 1)) := by rw [Make_kz (kf_wd (by omega) (by omega)) pv.1, pv.2.1, kz_kf (by omega) (by omega)]; rfl
  have w3 : l16_within_s low (sp_Make (p_Next (kf L)) (kf H)) = true ∧ l16_within low (sp_Make (p_Next (kf L)) (kf H)) = false := by
    rw [m1]
    by_cases c : L + 1 ≤ H ∧ L + 1 ≠ 9218868437227405312 ∧ H ≠ -9218868437227405312
    · have e : mk (L + 1) H = some (L + 1, H) := if_pos c
      rw [e]
      have g' : GI (some (L + 1, H)) := fun _ _ e => by cases e; omega
      have t := within_is hx hn g'
      rw [df (p := InR (L + 1) H x)] at t
      · exact ⟨t.2, t.1⟩
      · rintro ⟨e | e, _⟩
        · omega
        · exact absurd e (Rat.not_le.2 (exk_next hL (by omega)))
    · have e : mk (L + 1) H = none := if_neg c
      rw [e]; exact within_none rfl
  have w4 : l16_within_s high (sp_Make (kf L) (p_Prev (kf H))) = true ∧ l16_within high (sp_Make (kf L) (p_Prev (kf H))) = false := by
    rw [m2]
    by_cases c : L ≤ H - 1 ∧ L ≠ 9218868437227405312 ∧ H - 1 ≠ -9218868437227405312
    · have e : mk L (H - 1) = some (L, H - 1) := if_pos c
      rw [e]
      have g' : GI (some (L, H - 1)) := fun _ _ e => by cases e; omega
      have t := within_is hy hn g'
      rw [df (p := InR L (H - 1) y)] at t
      · exact ⟨t.2, t.1⟩
      · rintro ⟨_, e | e⟩
        · omega
        · exact absurd e (Rat.not_le.2 (exk_prev hH (by omega)))
    · have e : mk L (H - 1) = none := if_neg c
      rw [e]; exact within_none rfl
  exact Tr.is_ast w1.1 (Tr.is_br_f (by rw [w1.2]; rfl) (Tr.is_ast w2.1 (Tr.is_br_f (by rw [w2.2]; rfl) (Tr.is_ast w3.1 (Tr.is_br_t (by show (!l16_within low (sp_Make (p_Next (kf L)) (kf H))) = true; rw [w3.2]; rfl) (Tr.is_ast w4.1 (Tr.is_leaf (by show (!l16_within high (sp_Make (kf L) (p_Prev (kf H)))) = true; rw [w4.2]; rfl))))))))
def mnQ (x y : Rat) : Rat := if x < y then x else y
def mxQ (x y : Rat) : Rat := if y < x then x else y
theorem mnK {x y : Rat} {a b : Int} (h : ExK x 2 a) (g : ExK y 2 b) : ExK (mnQ x y) 2 (min a b) := by
  unfold mnQ
  by_cases c : x < y
  · rw [if_pos c, Int.min_eq_left (exk_mono (Rat.le_of_lt c) h g)]; exact h
  · rw [if_neg c, Int.min_eq_right (exk_mono (Rat.not_lt.1 c) g h)]; exact g
theorem mxK {x y : Rat} {a b : Int} (h : ExK x 1 a) (g : ExK y 1 b) : ExK (mxQ x y) 1 (max a b) := by
  unfold mxQ
  by_cases c : y < x
  · rw [if_pos c, Int.max_eq_left (exk_mono (Rat.le_of_lt c) g h)]; exact h
  · rw [if_neg c, Int.max_eq_right (exk_mono (Rat.not_lt.1 c) h g)]; exact g
def stepT (m low high : RR) (k : RR → RR → Tr Bool) : Tr Bool :=
  .ast (q_Cmp_s m low) (.br (decide (q_Cmp m low < 0)) (.ast (q_Cmp_s m high) (.br (decide (q_Cmp m high > 0)) (k m m) (k m high))) (.ast (q_Cmp_s m high) (.br (decide (q_Cmp m high > 0)) (k low m) (k low high))))
theorem cmpQ_ltd (x y : Rat) : decide (cmpQ x y < 0) = decide (x < y) := by
  rcases cmpQ_cases x y with ⟨e, h⟩ | ⟨e, h⟩ | ⟨e, h⟩
  · rw [e, dt h]; rfl
  · rw [e, df (p := x < y) (by rw [h]; exact Rat.lt_irrefl)]; rfl
  · rw [e, df (p := x < y) (Rat.not_lt.2 (Rat.le_of_lt h))]; rfl
theorem cmpQ_gtd (x y : Rat) : decide (cmpQ x y > 0) = decide (y < x) := by
  rcases cmpQ_cases x y with ⟨e, h⟩ | ⟨e, h⟩ | ⟨e, h⟩
  · rw [e, df (p := y < x) (Rat.not_lt.2 (Rat.le_of_lt h))]; rfl
  · rw [e, df (p := y < x) (by rw [h]; exact Rat.lt_irrefl)]; rfl
  · rw [e, dt h]; rfl
theorem stepT_is {m low high : RR} {xm xl xh : Rat} {n : Nat} (hm : RIs m xm n) (hl : RIs low xl n) (hh : RIs high xh n) (n1 : 1 ≤ n) (n2 : n ≤ 40000) {k : RR → RR → Tr Bool} (h : ∀ l u, RIs l (mnQ xm xl) n → RIs u (mxQ xm xh) n → Tr.Is (k l u) true) : Tr.Is (stepT m low high k) true := by
  have c1 := qcmp_spec hm.RW hl.RW n1 n2
  have c2 := qcmp_spec hm.RW hh.RW n1 n2
  rw [hm.val, hl.val] at c1; rw [hm.val, hh.val] at c2
  unfold stepT
  refine Tr.is_ast c1.1 ?_
  rw [c1.2, c2.2, cmpQ_ltd, cmpQ_gtd]
  unfold mnQ mxQ at h
  by_cases d1 : xm < xl <;> by_cases d2 : xh < xm
  · rw [if_pos d1, if_pos d2] at h; exact Tr.is_br_t (dt d1) (Tr.is_ast c2.1 (Tr.is_br_t (dt d2) (h _ _ hm hm)))
  · rw [if_pos d1, if_neg d2] at h; exact Tr.is_br_t (dt d1) (Tr.is_ast c2.1 (Tr.is_br_f (df d2) (h _ _ hm hh)))
  · rw [if_neg d1, if_pos d2] at h; exact Tr.is_br_f (df d1) (Tr.is_ast c2.1 (Tr.is_br_t (dt d2) (h _ _ hl hm)))
  · rw [if_neg d1, if_neg d2] at h; exact Tr.is_br_f (df d1) (Tr.is_ast c2.1 (Tr.is_br_f (df d2) (h _ _ hl hh)))
theorem mn_mx {a b c d : Rat} : mnQ a (mnQ b (mnQ c d)) ≤ mxQ a (mxQ b (mxQ c d)) := by
  have h1 : ∀ x y : Rat, mnQ x y ≤ x := fun x y => by
    unfold mnQ; split
    · exact Rat.le_refl
    · rename_i h; exact Rat.not_lt.1 h
  have h2 : ∀ x y : Rat, x ≤ mxQ x y := fun x y => by
    unfold mxQ; split
    · exact Rat.le_refl
    · rename_i h; exact Rat.not_lt.1 h
  exact Rat.le_trans (h1 _ _) (h2 _ _)
theorem SpanTight_both {a b : SP} (ha : WS a) (hb : WS b) : l_SpanTight a b = true ∧ l_SpanTight_s a b = true := by
  suffices h : Tr.Is (l_SpanTight_t a b) true from ⟨h.1, h.2⟩
  have gA := GI.nI ha; have gB := GI.nI hb
  have na := sp_norm_spec ha; have nb := sp_norm_spec hb
  have j1 := Join_spec (l := [a]) (by show 1 ≤ 1000000; omega) (fun s hs => by
    rcases List.mem_cons.1 hs with e | hs
    · subst e; exact ha
    · cases hs)
  have j2 := Join_spec (l := [b]) (by show 1 ≤ 1000000; omega) (fun s hs => by
    rcases List.mem_cons.1 hs with e | hs
    · subst e; exact hb
    · cases hs)
  have A := Add_is gA gB na nb
  have M := Mul_is gA gB na nb
  have e1 : sp_Join (id [jrow a]) = enc (nI a) := j1.2
  have e2 : sp_Join (id [jrow b]) = enc (nI b) := j2.2
  have s1 : sp_Join_s (id [jrow a]) = true := j1.1
  have s2 : sp_Join_s (id [jrow b]) = true := j2.1
  unfold l_SpanTight_t l_SpanTight_T
  change Tr.Is (.ast l16_works_s (.br (!l16_works) (.leaf false) (.ast (sp_Join_s (id [jrow a])) (.ast (sp_Join_s (id [jrow b])) (.br (sp_Join (id [jrow a])).empty (.leaf l16_works) (.br (sp_Join (id [jrow b])).empty (.leaf l16_works)
    (.br (!r4_Finite (sp_Join (id [jrow a])).lo) (.leaf l16_works) (.br (!r4_Finite (sp_Join (id [jrow a])).hi) (.leaf l16_works) (.br (!r4_Finite (sp_Join (id [jrow b])).lo) (.leaf l16_works) (.br (!r4_Finite (sp_Join (id [jrow b])).hi) (.leaf l16_works)
    (.ast (p_Value_s (sp_Join (id [jrow a])).lo) (.ast (p_Value_s (sp_Join (id [jrow a])).hi) (.ast (p_Value_s (sp_Join (id [jrow b])).lo) (.ast (p_Value_s (sp_Join (id [jrow b])).hi) (.ast (sp_Add_s a b)
    (.ast (q_Add_s (p_Value (sp_Join (id [jrow a])).lo).fst (p_Value (sp_Join (id [jrow b])).lo).fst) (.ast (q_Add_s (p_Value (sp_Join (id [jrow a])).hi).fst (p_Value (sp_Join (id [jrow b])).hi).fst)
    (.ast (l16_tight_s (sp_Add a b) (q_Add (p_Value (sp_Join (id [jrow a])).lo).fst (p_Value (sp_Join (id [jrow b])).lo).fst) (q_Add (p_Value (sp_Join (id [jrow a])).hi).fst (p_Value (sp_Join (id [jrow b])).hi).fst))
    (.ast (q_Mul_s (p_Value (sp_Join (id [jrow a])).lo).fst (p_Value (sp_Join (id [jrow b])).lo).fst) (.ast (q_Mul_s (p_Value (sp_Join (id [jrow a])).lo).fst (p_Value (sp_Join (id [jrow b])).hi).fst)
    (.ast (q_Mul_s (p_Value (sp_Join (id [jrow a])).hi).fst (p_Value (sp_Join (id [jrow b])).lo).fst) (.ast (q_Mul_s (p_Value (sp_Join (id [jrow a])).hi).fst (p_Value (sp_Join (id [jrow b])).hi).fst)
    (stepT (q_Mul (p_Value (sp_Join (id [jrow a])).lo).fst (p_Value (sp_Join (id [jrow b])).hi).fst) (q_Mul (p_Value (sp_Join (id [jrow a])).lo).fst (p_Value (sp_Join (id [jrow b])).lo).fst) (q_Mul (p_Value (sp_Join (id [jrow a])).lo).fst (p_Value (sp_Join (id [jrow b])).lo).fst)
      fun l1 u1 => stepT (q_Mul (p_Value (sp_Join (id [jrow a])).hi).fst (p_Value (sp_Join (id [jrow b])).lo).fst) l1 u1
      fun l2 u2 => stepT (q_Mul (p_Value (sp_Join (id [jrow a])).hi).fst (p_Value (sp_Join (id [jrow b])).hi).fst) l2 u2
      fun l3 u3 => .ast (sp_Mul_s a b) (.ast (l16_tight_s (sp_Mul a b) l3 u3) (.br l16_works (.br (l16_tight (sp_Add a b) (q_Add (p_Value (sp_Join (id [jrow a])).lo).fst (p_Value (sp_Join (id [jrow b])).lo).fst) (q_Add (p_Value (sp_Join (id [jrow a])).hi).fst (p_Value (sp_Join (id [jrow b])).hi).fst)) (.leaf (l16_tight (sp_Mul a b) l3 u3)) (.leaf false)) (.leaf false)))))))))))))))))))))))))) true
  rw [e1, e2]
  refine pre16 (Tr.is_ast s1 (Tr.is_ast s2 ?_))
  revert A M
  match nI a, nI b, gA, gB with
  | none, _, _, _ => exact fun _ _ => Tr.is_br_t rfl (Tr.is_leaf works16.1)
  | some _, none, _, _ => exact fun _ _ => Tr.is_br_f rfl (Tr.is_br_t rfl (Tr.is_leaf works16.1))
  | some (al, ah), some (bl, bh), gA, gB =>
    intro A M
    have p := gA _ _ rfl; have q := gB _ _ rfl
    refine Tr.is_br_f rfl (Tr.is_br_f rfl ?_)
    have fin := fun z (h1 : -9218868437227405312 ≤ z) (h2 : z ≤ 9218868437227405312) => (class_kf h1 h2).2
    show Tr.Is (.br (!r4_Finite (kf al)) _ (.br (!r4_Finite (kf ah)) _ (.br (!r4_Finite (kf bl)) _ (.br (!r4_Finite (kf bh)) _ _)))) true
    rw [fin al (by omega) (by omega), fin ah (by omega) (by omega), fin bl (by omega) (by omega), fin bh (by omega) (by omega)]
    by_cases c1 : al = -9218868437227405312
    · exact Tr.is_br_t (by rw [df (by omega)]; rfl) (Tr.is_leaf works16.1)
    refine Tr.is_br_f (by rw [dt (by omega)]; rfl) ?_
    by_cases c2 : ah = 9218868437227405312
    · exact Tr.is_br_t (by rw [df (by omega)]; rfl) (Tr.is_leaf works16.1)
    refine Tr.is_br_f (by rw [dt (by omega)]; rfl) ?_
    by_cases c3 : bl = -9218868437227405312
    · exact Tr.is_br_t (by rw [df (by omega)]; rfl) (Tr.is_leaf works16.1)
    refine Tr.is_br_f (by rw [dt (by omega)]; rfl) ?_
    by_cases c4 : bh = 9218868437227405312
    · exact Tr.is_br_t (by rw [df (by omega)]; rfl) (Tr.is_leaf works16.1)
    refine Tr.is_br_f (by rw [dt (by omega)]; rfl) ?_
    have val := fun z (h1 : -9218868437227405312 < z) (h2 : z < 9218868437227405312) => val_kz (v := kf z) (z := z) (kf_wd (by omega) (by omega)) (kz_kf (by omega) (by omega)) h1 h2
    obtain ⟨v1, x1, f1, r1⟩ := val al (by omega) (by omega)
    obtain ⟨v2, x2, f2, r2⟩ := val ah (by omega) (by omega)
    obtain ⟨v3, x3, f3, r3⟩ := val bl (by omega) (by omega)
    obtain ⟨v4, x4, f4, r4⟩ := val bh (by omega) (by omega)
    refine Tr.is_ast v1 (Tr.is_ast v2 (Tr.is_ast v3 (Tr.is_ast v4 (Tr.is_ast A.1 ?_))))
    show Tr.Is (.ast (q_Add_s (p_Value (kf al)).fst (p_Value (kf bl)).fst) (.ast (q_Add_s (p_Value (kf ah)).fst (p_Value (kf bh)).fst) (.ast (l16_tight_s (sp_Add a b) (q_Add (p_Value (kf al)).fst (p_Value (kf bl)).fst) (q_Add (p_Value (kf ah)).fst (p_Value (kf bh)).fst))
      (.ast (q_Mul_s (p_Value (kf al)).fst (p_Value (kf bl)).fst) (.ast (q_Mul_s (p_Value (kf al)).fst (p_Value (kf bh)).fst) (.ast (q_Mul_s (p_Value (kf ah)).fst (p_Value (kf bl)).fst) (.ast (q_Mul_s (p_Value (kf ah)).fst (p_Value (kf bh)).fst)
      (stepT (q_Mul (p_Value (kf al)).fst (p_Value (kf bh)).fst) (q_Mul (p_Value (kf al)).fst (p_Value (kf bl)).fst) (q_Mul (p_Value (kf al)).fst (p_Value (kf bl)).fst)
      fun l1 u1 => stepT (q_Mul (p_Value (kf ah)).fst (p_Value (kf bl)).fst) l1 u1
      fun l2 u2 => stepT (q_Mul (p_Value (kf ah)).fst (p_Value (kf bh)).fst) l2 u2
      fun l3 u3 => .ast (sp_Mul_s a b) (.ast (l16_tight_s (sp_Mul a b) l3 u3) (.br l16_works (.br (l16_tight (sp_Add a b) (q_Add (p_Value (kf al)).fst (p_Value (kf bl)).fst) (q_Add (p_Value (kf ah)).fst (p_Value (kf bh)).fst)) (.leaf (l16_tight (sp_Mul a b) l3 u3)) (.leaf false)) (.leaf false)))))))))))  true
    rw [f1, f2, f3, f4]
    have k1 : (1 : Nat) ≤ 300 := by omega
    have k2 : (300 : Nat) ≤ 40000 := by omega
    obtain ⟨aa1, ab1⟩ := qadd_spec r1.RW r3.RW k1 k2
    obtain ⟨aa2, ab2⟩ := qadd_spec r2.RW r4.RW k1 k2
    obtain ⟨m1, n1⟩ := qmul_spec r1.RW r3.RW k1 k2
    obtain ⟨m2, n2⟩ := qmul_spec r1.RW r4.RW k1 k2
    obtain ⟨m3, n3⟩ := qmul_spec r2.RW r3.RW k1 k2
    obtain ⟨m4, n4⟩ := qmul_spec r2.RW r4.RW k1 k2
    rw [r1.val, r3.val] at ab1 n1
    rw [r2.val, r4.val] at ab2 n4
    rw [r1.val, r4.val] at n2
    rw [r2.val, r3.val] at n3
    -- sums
    have y1 := (addF_spec (z := al) (w := bl) (by omega) (by omega) (by omega) (by omega) (by omega) (by omega) 2).2.2.2.fin (by omega) (by omega) (by omega) (by omega)
    have y2 := (addF_spec (z := ah) (w := bh) (by omega) (by omega) (by omega) (by omega) (by omega) (by omega) 1).2.2.2.fin (by omega) (by omega) (by omega) (by omega)
    have ord : zv al + zv bl ≤ zv ah + zv bh := by
      have u1 := zv_le (z := al) (w := ah) (by omega) (by omega) (by omega) (by omega) p.1
      have u2 := zv_le (z := bl) (w := bh) (by omega) (by omega) (by omega) (by omega) q.1
      grind
    have T1 := tight_is (s := sp_Add a b) ab1 ab2 (by omega) ord y1 y2 (by
      rw [A.2]
      show enc (mk (addF 2 al bl) (addF 1 ah bh)) = _
      have d1 := exk_down y1; have d2 := exk_up y2; have g1 := exk_rng y1; have g2 := exk_rng y2
      have y3 := (addF_spec (z := ah) (w := bh) (by omega) (by omega) (by omega) (by omega) (by omega) (by omega) 2).2.2.2.fin (by omega) (by omega) (by omega) (by omega)
      have o1 := exk_mono ord y1 y3; have o2 := exk_order2 y3 y2
      rw [mk_of ⟨by omega, by omega, by omega, by omega, by omega⟩])
    refine Tr.is_ast aa1 (Tr.is_ast aa2 (Tr.is_ast T1.1 (Tr.is_ast m1 (Tr.is_ast m2 (Tr.is_ast m3 (Tr.is_ast m4 ?_))))))
    -- products
    have ex : ∀ m z w, al ≤ z → z ≤ ah → bl ≤ w → w ≤ bh → ExK (zv z * zv w) m (mulF m z w) := fun m z w g1 g2 g3 g4 => (mulF_spec (z := z) (w := w) (by omega) (by omega) (by omega) (by omega) m).2.2.2.fin (by omega) (by omega) (by omega) (by omega)
    have l1 := Int.le_refl al; have l2 := Int.le_refl ah; have l3 := Int.le_refl bl; have l4 := Int.le_refl bh
    have D1 := ex 2 al bl l1 p.1 l3 q.1; have U1 := ex 1 al bl l1 p.1 l3 q.1
    have D2 := ex 2 al bh l1 p.1 q.1 l4; have U2 := ex 1 al bh l1 p.1 q.1 l4
    have D3 := ex 2 ah bl p.1 l2 l3 q.1; have U3 := ex 1 ah bl p.1 l2 l3 q.1
    have D4 := ex 2 ah bh p.1 l2 q.1 l4; have U4 := ex 1 ah bh p.1 l2 q.1 l4
    refine stepT_is n2 n1 n1 (by omega) (by omega) fun la ua i1 i2 => stepT_is n3 i1 i2 (by omega) (by omega) fun lb ub i3 i4 => stepT_is n4 i3 i4 (by omega) (by omega) fun lc uc i5 i6 => ?_
    have eL := mnK D4 (mnK D3 (mnK D2 D1))
    have eH := mxK U4 (mxK U3 (mxK U2 U1))
    have T2 := tight_is (s := sp_Mul a b) i5 i6 (by omega) mn_mx eL eH (by
      rw [M.2]
      show enc (corn (mulF 2) (mulF 1) al ah bl bh) = _
      have a1 := exk_down D1; have a2 := exk_down D2; have a3 := exk_down D3; have a4 := exk_down D4
      have b1 := exk_up U1; have b2 := exk_up U2; have b3 := exk_up U3; have b4 := exk_up U4
      unfold corn
      rw [KI_min (by omega) (by omega), KI_min (by omega) (by omega), KI_min (by omega) (by omega), KI_min (by omega) (by omega), joinI_min, joinI_min, joinI_min]
      congr 3
      · omega
      · omega)
    exact Tr.is_ast M.1 (Tr.is_ast T2.1 (Tr.is_br_t works16.1 (Tr.is_br_t T1.2 (Tr.is_leaf T2.2))))
end Go.Fb
