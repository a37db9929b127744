/- Spans: the laws hold, in plain Lean. Conditions: as each theorem states. -/
import Derived.Test.YtdkbeajkedffeaaGreatFl
import Derived.Test.YtdkbeajkedffeaaGreatFp
namespace Go.Fb
theorem works16 : l16_works = true ∧ l16_works_s = true := by decide +kernel
end Go.Fb
namespace Go.Fb
open Go.Ev
theorem pre16 {t : Tr Bool} (h : Tr.Is t true) : Tr.Is (.ast l16_works_s (.br (!l16_works) (.leaf false) t)) true :=
  Tr.is_ast works16.2 (Tr.is_br_f (by rw [works16.1]; rfl) h)
theorem sp_same {x y : SP} (h : x = y) : (x.empty == y.empty && (x.lo == y.lo && (x.hi == y.hi && true))) = true := by
  subst h; simp
end Go.Fb
namespace Go.Fb
open Go.Ev
def stepK (z : Int) (up strict : Bool) : Int := if strict = true ∧ z ≠ 9218868437227405312 ∧ z ≠ -9218868437227405312 then (if up then z + 1 else z - 1) else z
def sideI (A : IV) (z : Int) (up strict : Bool) : IV := if up then meetI A (mk (stepK z up strict) 9218868437227405312) else meetI A (mk (-9218868437227405312) (stepK z up strict))
theorem stepK_rng {z : Int} (h : -9218868437227405312 ≤ z) (g : z ≤ 9218868437227405312) (up strict : Bool) : -9218868437227405312 ≤ stepK z up strict ∧ stepK z up strict ≤ 9218868437227405312 := by
  unfold stepK; split
  · split <;> omega
  · omega
theorem GI.side {A : IV} (hA : GI A) {z : Int} (h : -9218868437227405312 ≤ z) (g : z ≤ 9218868437227405312) (up strict : Bool) : GI (sideI A z up strict) := by
  have := stepK_rng h g up strict
  unfold sideI; split
  · exact GI.meet hA (GI.mk (by omega) (by omega) (by omega) (by omega))
  · exact GI.meet hA (GI.mk (by omega) (by omega) (by omega) (by omega))
theorem next_kf {z : Int} (h : -9218868437227405312 ≤ z) (g : z < 9218868437227405312) : Wd (p_Next (kf z)) ∧ kz (p_Next (kf z)) = some (z + 1) ∧ r4_Next (kf z) = p_Next (kf z) := by
  unfold kf
  rw [next_spec (by omega), rnext_spec (by omega)]
  obtain ⟨t, j, e, hj, hk⟩ := ky_next (s := decide (z < 0)) (k := z.natAbs) (by omega) (by
    rintro ⟨h1, h2⟩; have := of_decide_eq_false h1; omega)
  rw [e]; exact ⟨fl_wd (by omega), by rw [kz_fl hj, hk, ky_kf], rfl⟩
theorem prev_kf {z : Int} (h : -9218868437227405312 < z) (g : z ≤ 9218868437227405312) : Wd (p_Prev (kf z)) ∧ kz (p_Prev (kf z)) = some (z - 1) ∧ r4_Prev (kf z) = p_Prev (kf z) := by
  unfold kf
  rw [prev_spec (by omega), rprev_spec (by omega)]
  obtain ⟨t, j, e, hj, hk⟩ := ky_prev (s := decide (z < 0)) (k := z.natAbs) (by omega) (by
    rintro ⟨h1, h2⟩; have := of_decide_eq_true h1; omega)
  rw [e]; exact ⟨fl_wd (by omega), by rw [kz_fl hj, hk, ky_kf], rfl⟩
theorem class_kf {z : Int} (h : -9218868437227405312 ≤ z) (g : z ≤ 9218868437227405312) : (p_Class (kf z) != 3) = decide (z ≠ 9218868437227405312 ∧ z ≠ -9218868437227405312) ∧ r4_Finite (kf z) = decide (z ≠ 9218868437227405312 ∧ z ≠ -9218868437227405312) := by
  unfold kf
  rw [class_ky (by omega), finite_spec (by omega)]
  constructor <;> rw [decide_eq_decide] <;> omega
theorem kp_inf : kz 9218868437227405312 = some 9218868437227405312 := by rw [pinf_kf]; exact kz_kf (by omega) (by omega)
theorem kn_inf : kz 18442240474082181120 = some (-9218868437227405312) := by rw [ninf_kf]; exact kz_kf (by omega) (by omega)
theorem wp_inf : Wd 9218868437227405312 := ⟨by omega, by omega⟩
theorem wn_inf : Wd 18442240474082181120 := ⟨by omega, by omega⟩
/-- without a point: at its ends -/
def withoutI (al ah f : Int) : IV := if al = f then (if ah = f then none else sideI (some (al, ah)) f true true) else if ah = f then sideI (some (al, ah)) f false true else some (al, ah)
theorem GI.without {al ah f : Int} (hA : GI (some (al, ah))) (h : -9218868437227405312 ≤ f) (g : f ≤ 9218868437227405312) : GI (withoutI al ah f) := by
  unfold withoutI; split
  · split
    · exact GI.nil
    · exact GI.side hA h g _ _
  · split
    · exact GI.side hA h g _ _
    · exact hA
/-- either is empty: both are -/
def bothI : IV → IV → IV × IV
  | some a, some b => (some a, some b)
  | _, _ => (none, none)
end Go.Fb
namespace Go.Fb
open Go.Ev
theorem hasI_some {A : IV} {x : Int} : hasI A (some x) = true ↔ ∃ l h, A = some (l, h) ∧ l ≤ x ∧ x ≤ h ∧ x ≠ 9218868437227405312 ∧ x ≠ -9218868437227405312 := by
  show (match mk x x with | none => false | some p => insI (some p) A) = true ↔ _
  unfold mk
  by_cases c : x ≤ x ∧ x ≠ 9218868437227405312 ∧ x ≠ -9218868437227405312
  · rw [if_pos c]
    constructor
    · intro h
      obtain ⟨l, u, e, h1, h2⟩ := insI_some h
      exact ⟨l, u, e, h1, h2, c.2⟩
    · rintro ⟨l, h, rfl, h1, h2, _⟩; exact insI_of h1 h2
  · rw [if_neg c]
    constructor
    · intro h; cases h
    · rintro ⟨l, h, rfl, h1, h2, h3, h4⟩; exact absurd ⟨Int.le_refl _, h3, h4⟩ c
theorem both_has {X Y : IV} {x y : Int} (h : hasI X (some x) = true) (g : hasI Y (some y) = true) : bothI X Y = (X, Y) := by
  obtain ⟨_, _, rfl, _⟩ := hasI_some.1 h
  obtain ⟨_, _, rfl, _⟩ := hasI_some.1 g
  rfl
theorem both_in {X Y A B : IV} (h : insI X A = true) (g : insI Y B = true) : insI (bothI X Y).1 A = true ∧ insI (bothI X Y).2 B = true := by
  match X, Y with
  | none, _ => exact ⟨rfl, rfl⟩
  | some _, none => exact ⟨rfl, rfl⟩
  | some _, some _ => exact ⟨h, g⟩
theorem both_good {X Y : IV} (h : GI X) (g : GI Y) : GI (bothI X Y).1 ∧ GI (bothI X Y).2 := by
  match X, Y with
  | none, _ => exact ⟨GI.nil, GI.nil⟩
  | some _, none => exact ⟨GI.nil, GI.nil⟩
  | some _, some _ => exact ⟨h, g⟩
structure TestOk (A B X Y : IV) (R : Int → Int → Prop) : Prop where
  g1 : GI X
  g2 : GI Y
  i1 : insI X A = true
  i2 : insI Y B = true
  k : ∀ x y, hasI A (some x) = true → hasI B (some y) = true → R x y → hasI X (some x) = true ∧ hasI Y (some y) = true
theorem TestOk.both {A B X Y : IV} {R : Int → Int → Prop} (h : TestOk A B X Y R) : TestOk A B (bothI X Y).1 (bothI X Y).2 R :=
  ⟨(both_good h.g1 h.g2).1, (both_good h.g1 h.g2).2, (both_in h.i1 h.i2).1, (both_in h.i1 h.i2).2, fun x y hx hy r => by
    have := h.k x y hx hy r; rw [both_has this.1 this.2]; exact this⟩
end Go.Fb
namespace Go.Fb
open Go.Ev
def zv (z : Int) : Rat := fv (decide (z < 0)) z.natAbs
theorem zv_zero : zv 0 = 0 := fv_zero _
theorem zv_neg (z : Int) : zv (-z) = -zv z := by
  by_cases h : z = 0
  · subst h; rw [Int.neg_zero, zv_zero]; rfl
  · unfold zv
    rw [Int.natAbs_neg, ← fv_neg]
    congr 1
    rw [Bool.eq_iff_iff]; simp only [decide_eq_true_eq, Bool.not_eq_true', decide_eq_false_iff_not]; omega
theorem zv_lt {z w : Int} (h : -9218868437227405312 < z) (g : z < 9218868437227405312) (h' : -9218868437227405312 < w) (g' : w < 9218868437227405312) : zv z < zv w ↔ z < w := by
  unfold zv; rw [fv_lt (by omega) (by omega), ky_kf, ky_kf]
theorem zv_le {z w : Int} (h : -9218868437227405312 < z) (g : z < 9218868437227405312) (h' : -9218868437227405312 < w) (g' : w < 9218868437227405312) (l : z ≤ w) : zv z ≤ zv w := by
  refine Rat.not_lt.1 fun c => ?_
  have := (zv_lt h' g' h g).1 c; omega
theorem zv_pos {z : Int} (h : 0 < z) (g : z < 9218868437227405312) : 0 < zv z := by rw [← zv_zero]; exact (zv_lt (by omega) (by omega) (by omega) (by omega)).2 h
theorem zv_nonneg {z : Int} (h : 0 ≤ z) (g : z < 9218868437227405312) : 0 ≤ zv z := by rw [← zv_zero]; exact zv_le (by omega) (by omega) (by omega) (by omega) h
theorem zv_nonpos {z : Int} (h : z ≤ 0) (g : -9218868437227405312 < z) : zv z ≤ 0 := by rw [← zv_zero]; exact zv_le (by omega) (by omega) (by omega) (by omega) h
theorem RK.kz {x z : Int} (h : RK x z) : Wd x ∧ kz x = some z := by
  obtain ⟨q, m, hm, rfl, rfl⟩ := h
  exact ⟨fl_wd (by omega), kz_fl hm⟩
theorem exk_rng {x : Rat} {m z : Int} (h : ExK x m z) : -9218868437227405312 ≤ z ∧ z ≤ 9218868437227405312 := by
  rcases h with ⟨_, h⟩ | ⟨_, K, a, b, _, h⟩
  · omega
  · rw [h, ← rk_eq (sm := false)]
    have := @rans_le K a b false (wayOf (decide (x < 0)) m)
    exact ky_rng this
theorem exk_zero (m : Int) : ExK 0 m 0 := .inl ⟨rfl, rfl⟩
theorem exk_nonneg {x : Rat} {m z : Int} (h : ExK x m z) (g : 0 ≤ x) : 0 ≤ z := exk_mono g (exk_zero m) h
theorem exk_nonpos {x : Rat} {m z : Int} (h : ExK x m z) (g : x ≤ 0) : z ≤ 0 := exk_mono g h (exk_zero m)
/-- rounded down no number is infinite, nor rounded up the negative infinity -/
theorem exk_down {x : Rat} {z : Int} (h : ExK x 2 z) : z < 9218868437227405312 := by
  rcases h with ⟨_, h⟩ | ⟨_, K, a, b, _, h⟩
  · omega
  · by_cases c : x < 0
    · rw [dt c] at h; unfold ky at h; rw [if_pos rfl] at h; omega
    · rw [df c] at h; unfold ky at h; rw [if_neg (by simp)] at h
      have e : rk K a b (wayOf false 2) ≤ 9218868437227405311 := by
        show (rans K a b false 2).1 ≤ _
        unfold rans
        split
        · rw [if_pos rfl]; omega
        · dsimp only; omega
      omega
theorem exk_up {x : Rat} {z : Int} (h : ExK x 1 z) : -9218868437227405312 < z := by
  rcases h with ⟨_, h⟩ | ⟨_, K, a, b, _, h⟩
  · omega
  · by_cases c : x < 0
    · rw [dt c] at h; unfold ky at h; rw [if_pos rfl] at h
      have e : rk K a b (wayOf true 1) ≤ 9218868437227405311 := by
        show (rans K a b false 2).1 ≤ _
        unfold rans
        split
        · rw [if_pos rfl]; omega
        · dsimp only; omega
      omega
    · rw [df c] at h; unfold ky at h; rw [if_neg (by simp)] at h; omega
theorem exk_order2 {x : Rat} {d u : Int} (a : ExK x 2 d) (c : ExK x 1 u) : d ≤ u := by
  have := exk_order a a c; omega
/-- the product of two keys; with a nought a nought -/
structure MulK (m z w r : Int) : Prop where
  zero : z = 0 ∨ w = 0 → r = 0
  inf : z ≠ 0 → w ≠ 0 → (z = 9218868437227405312 ∨ z = -9218868437227405312 ∨ w = 9218868437227405312 ∨ w = -9218868437227405312) → r = if (0 < z) = (0 < w) then 9218868437227405312 else -9218868437227405312
  fin : -9218868437227405312 < z → z < 9218868437227405312 → -9218868437227405312 < w → w < 9218868437227405312 → ExK (zv z * zv w) m r
  rng : -9218868437227405312 ≤ r ∧ r ≤ 9218868437227405312
theorem MulK.symm {m z w r : Int} (h : MulK m z w r) : MulK m w z r where
  zero g := h.zero g.symm
  inf a b c := by
    rw [h.inf b a (by omega)]
    by_cases p : 0 < z <;> by_cases q : 0 < w <;> simp [p, q]
  fin a b c d := by rw [Rat.mul_comm]; exact h.fin c d a b
  rng := h.rng
theorem MulK.neg {m z w r : Int} (h : MulK m z w r) : MulK m (-z) (-w) r where
  zero g := h.zero (by omega)
  inf a b c := by
    rw [h.inf (by omega) (by omega) (by omega)]
    have e : ((0 < z) = (0 < w)) = ((0 < -z) = (0 < -w)) := by
      rw [eq_iff_iff, eq_iff_iff, eq_iff_iff]; omega
    simp only [e]
  fin a b c d := by
    rw [zv_neg, zv_neg, show -zv z * -zv w = zv z * zv w by grind]
    exact h.fin (by omega) (by omega) (by omega) (by omega)
  rng := h.rng
theorem MulK.pos {m z w r : Int} (h : MulK m z w r) (hz : 0 < z) (hw : 0 < w) (h1 : z ≤ 9218868437227405312) (h2 : w ≤ 9218868437227405312) : 0 ≤ r := by
  by_cases c : z = 9218868437227405312 ∨ w = 9218868437227405312
  · have := h.inf (by omega) (by omega) (by omega)
    rw [if_pos (by rw [eq_iff_iff]; omega)] at this; omega
  · exact exk_nonneg (h.fin (by omega) (by omega) (by omega) (by omega)) (Rat.mul_nonneg (zv_nonneg (by omega) (by omega)) (zv_nonneg (by omega) (by omega)))
theorem MulK.npos {m z w r : Int} (h : MulK m z w r) (hz : z < 0) (hw : 0 < w) (h1 : -9218868437227405312 ≤ z) (h2 : w ≤ 9218868437227405312) : r ≤ 0 := by
  by_cases c : z = -9218868437227405312 ∨ w = 9218868437227405312
  · have := h.inf (by omega) (by omega) (by omega)
    rw [if_neg (by rw [eq_iff_iff]; omega)] at this; omega
  · refine exk_nonpos (h.fin (by omega) (by omega) (by omega) (by omega)) ?_
    have p := zv_nonpos (z := z) (by omega) (by omega)
    have q := zv_nonneg (z := w) (by omega) (by omega)
    have := Rat.mul_le_mul_of_nonneg_right p q
    rwa [Rat.zero_mul] at this
theorem MulK.mono {m z z' w r r' : Int} (h : MulK m z w r) (g : MulK m z' w r') (hw : 0 ≤ w) (l : z ≤ z') (h1 : -9218868437227405312 ≤ z) (h2 : z' ≤ 9218868437227405312) (h3 : w ≤ 9218868437227405312) : r ≤ r' := by
  have R := h.rng; have R' := g.rng
  by_cases w0 : w = 0
  · rw [h.zero (.inr w0), g.zero (.inr w0)]; exact Int.le_refl _
  have sl : z ≤ 0 → r ≤ 0 := fun c => by
    by_cases d : z = 0
    · rw [h.zero (.inl d)]; exact Int.le_refl _
    · exact h.npos (by omega) (by omega) h1 h3
  have sg : 0 ≤ z' → 0 ≤ r' := fun c => by
    by_cases d : z' = 0
    · rw [g.zero (.inl d)]; exact Int.le_refl _
    · exact g.pos (by omega) (by omega) h2 h3
  by_cases c : z ≤ 0 ∧ 0 ≤ z'
  · have := sl c.1; have := sg c.2; omega
  · by_cases c1 : 0 < z
    · by_cases i' : z' = 9218868437227405312 ∨ w = 9218868437227405312
      · have := g.inf (by omega) (by omega) (by omega)
        rw [if_pos (by rw [eq_iff_iff]; omega)] at this; omega
      · exact exk_mono (Rat.mul_le_mul_of_nonneg_right (zv_le (by omega) (by omega) (by omega) (by omega) l) (zv_nonneg (by omega) (by omega))) (h.fin (by omega) (by omega) (by omega) (by omega)) (g.fin (by omega) (by omega) (by omega) (by omega))
    · by_cases i' : z = -9218868437227405312 ∨ w = 9218868437227405312
      · have := h.inf (by omega) (by omega) (by omega)
        rw [if_neg (by rw [eq_iff_iff]; omega)] at this; omega
      · exact exk_mono (Rat.mul_le_mul_of_nonneg_right (zv_le (by omega) (by omega) (by omega) (by omega) l) (zv_nonneg (by omega) (by omega))) (h.fin (by omega) (by omega) (by omega) (by omega)) (g.fin (by omega) (by omega) (by omega) (by omega))
theorem MulK.anti {m z z' w r r' : Int} (h : MulK m z w r) (g : MulK m z' w r') (hw : w ≤ 0) (l : z ≤ z') (h1 : -9218868437227405312 ≤ z) (h2 : z' ≤ 9218868437227405312) (h3 : -9218868437227405312 ≤ w) : r' ≤ r :=
  MulK.mono g.neg h.neg (by omega) (by omega) (by omega) (by omega) (by omega)
theorem MulK.order {z w d u : Int} (h : MulK 2 z w d) (g : MulK 1 z w u) (h1 : -9218868437227405312 ≤ z) (h2 : z ≤ 9218868437227405312) (h3 : -9218868437227405312 ≤ w) (h4 : w ≤ 9218868437227405312) : d ≤ u := by
  by_cases c : z = 0 ∨ w = 0
  · rw [h.zero c, g.zero c]; exact Int.le_refl _
  · by_cases i : z = 9218868437227405312 ∨ z = -9218868437227405312 ∨ w = 9218868437227405312 ∨ w = -9218868437227405312
    · rw [h.inf (by omega) (by omega) i, g.inf (by omega) (by omega) i]; exact Int.le_refl _
    · exact exk_order2 (h.fin (by omega) (by omega) (by omega) (by omega)) (g.fin (by omega) (by omega) (by omega) (by omega))
theorem MulK.down {z w r : Int} (h : MulK 2 z w r) (h1 : -9218868437227405312 ≤ z) (h2 : z ≤ 9218868437227405312) (h3 : -9218868437227405312 ≤ w) (h4 : w ≤ 9218868437227405312) (e : r = 9218868437227405312) : (z = 9218868437227405312 ∧ 0 < w) ∨ (z = -9218868437227405312 ∧ w < 0) ∨ (w = 9218868437227405312 ∧ 0 < z) ∨ (w = -9218868437227405312 ∧ z < 0) := by
  by_cases c : z = 0 ∨ w = 0
  · have := h.zero c; omega
  · by_cases i : z = 9218868437227405312 ∨ z = -9218868437227405312 ∨ w = 9218868437227405312 ∨ w = -9218868437227405312
    · have := h.inf (by omega) (by omega) i
      by_cases p : (0 < z) = (0 < w)
      · rw [eq_iff_iff] at p; omega
      · rw [if_neg p] at this; omega
    · have := exk_down (h.fin (by omega) (by omega) (by omega) (by omega)); omega
theorem MulK.up {z w r : Int} (h : MulK 1 z w r) (h1 : -9218868437227405312 ≤ z) (h2 : z ≤ 9218868437227405312) (h3 : -9218868437227405312 ≤ w) (h4 : w ≤ 9218868437227405312) (e : r = -9218868437227405312) : (z = 9218868437227405312 ∧ w < 0) ∨ (z = -9218868437227405312 ∧ 0 < w) ∨ (w = 9218868437227405312 ∧ z < 0) ∨ (w = -9218868437227405312 ∧ 0 < z) := by
  by_cases c : z = 0 ∨ w = 0
  · have := h.zero c; omega
  · by_cases i : z = 9218868437227405312 ∨ z = -9218868437227405312 ∨ w = 9218868437227405312 ∨ w = -9218868437227405312
    · have := h.inf (by omega) (by omega) i
      by_cases p : (0 < z) = (0 < w)
      · rw [if_pos p] at this; omega
      · rw [eq_iff_iff] at p; omega
    · have := exk_up (h.fin (by omega) (by omega) (by omega) (by omega)); omega
theorem zero_kf {z : Int} (h : -9218868437227405312 ≤ z) (g : z ≤ 9218868437227405312) : sp_zero (kf z) = decide (z = 0) := by
  show (p_Class (fl _ _) == 0) = _
  rw [class_spec (by omega), cls0, decide_eq_decide]; omega
theorem ky_sgn {z : Int} (h0 : z ≠ 0) (b : Bool) : ky (decide (z < 0) != b) 9218868437227405312 = if (0 < z) = (b = false) then 9218868437227405312 else -9218868437227405312 := by
  by_cases h : z < 0
  · rw [dt h]; cases b
    · rw [if_neg (by rw [eq_iff_iff]; simp; omega)]; rfl
    · rw [if_pos (by rw [eq_iff_iff]; simp; omega)]; rfl
  · rw [df h]; cases b
    · rw [if_pos (by rw [eq_iff_iff]; simp; omega)]; rfl
    · rw [if_neg (by rw [eq_iff_iff]; simp; omega)]; rfl
/-- the program's product of keys, and the document's -/
theorem mul_kf {z w : Int} (h1 : -9218868437227405312 ≤ z) (h2 : z ≤ 9218868437227405312) (h3 : -9218868437227405312 ≤ w) (h4 : w ≤ 9218868437227405312) (m : Int) :
    ∃ v, Tr.Is (s_Mul_t (kf z) (kf w) m) v ∧ Tr.Is (r6_Mul_t (kf z) (kf w) m) v ∧ (z ≠ 0 → w ≠ 0 → ∃ r, Wd v.1 ∧ kz v.1 = some r ∧ MulK m z w r) := by
  obtain ⟨v, a, b, c⟩ := mul_both (s := decide (z < 0)) (t := decide (w < 0)) (k := z.natAbs) (j := w.natAbs) (by omega) (by omega) m
  refine ⟨v, a, b, fun z0 w0 => ?_⟩
  rcases mulRK c (by omega) (by omega) with ⟨_, d⟩ | ⟨r, d, e⟩
  · omega
  · refine ⟨r, d.kz.1, d.kz.2, fun g => by omega, fun _ _ i => ?_, fun i1 i2 i3 i4 => ?_, d.rng⟩
    · rcases e with ⟨e1, e2, e3, e4⟩ | ⟨e1, e2, e3⟩
      · rw [e4, ky_sgn z0]
        have : (decide (w < 0) = false) = (0 < w) := by rw [eq_iff_iff]; simp only [decide_eq_false_iff_not]; omega
        simp only [this]
      · omega
    · rcases e with ⟨e1, e2, e3, e4⟩ | ⟨e1, e2, e3⟩
      · omega
      · exact e3
theorem mul1_kf {z w : Int} (h1 : -9218868437227405312 ≤ z) (h2 : z ≤ 9218868437227405312) (h3 : -9218868437227405312 ≤ w) (h4 : w ≤ 9218868437227405312) (m : Int) :
    ∃ x r, Tr.Is (sp_Mul1_t (kf z) (kf w) m) x ∧ Wd x ∧ kz x = some r ∧ MulK m z w r := by
  obtain ⟨v, a, b, c⟩ := mul_kf h1 h2 h3 h4 m
  have k0 : kz 0 = some 0 := kz_kf (z := 0) (by omega) (by omega)
  by_cases z0 : z = 0
  · exact ⟨0, 0, Tr.is_br_t ((zero_kf h1 h2).trans (dt z0)) (Tr.is_leaf rfl), zero_wd, k0, fun _ => rfl, fun g => by omega, fun _ _ _ _ => by rw [z0, zv_zero, Rat.zero_mul]; exact exk_zero m, by omega⟩
  by_cases w0 : w = 0
  · exact ⟨0, 0, Tr.is_br_f ((zero_kf h1 h2).trans (df z0)) (Tr.is_br_t ((zero_kf h3 h4).trans (dt w0)) (Tr.is_leaf rfl)), zero_wd, k0, fun _ => rfl, fun _ g => by omega, fun _ _ _ _ => by rw [w0, zv_zero, Rat.mul_zero]; exact exk_zero m, by omega⟩
  obtain ⟨r, d, e, f⟩ := c z0 w0
  have ev : s_Mul (kf z) (kf w) m = v := a.1
  exact ⟨v.1, r, Tr.is_br_f ((zero_kf h1 h2).trans (df z0)) (Tr.is_br_f ((zero_kf h3 h4).trans (df w0)) (Tr.is_ast a.2 (Tr.is_leaf (by rw [ev])))), d, e, f⟩
end Go.Fb
namespace Go.Fb
open Go.Ev
theorem rat_div_mono {a b c : Rat} (h : 0 < c) (g : a ≤ b) : a / c ≤ b / c := by
  rw [Rat.div_def, Rat.div_def]; exact Rat.mul_le_mul_of_nonneg_right g (Rat.le_of_lt (Rat.inv_pos.2 h))
theorem rat_div_nonneg {a b : Rat} (h : 0 ≤ a) (g : 0 < b) : 0 ≤ a / b := by
  rw [Rat.div_def]; exact Rat.mul_nonneg h (Rat.le_of_lt (Rat.inv_pos.2 g))
theorem rat_div_anti {a b c : Rat} (h : 0 < b) (g : b ≤ c) (ha : 0 ≤ a) : a / c ≤ a / b := by
  have hc : 0 < c := by grind
  refine Rat.not_lt.1 fun k => ?_
  rw [Rat.div_lt_iff h] at k
  have h2 := rat_div_nonneg ha hc
  have := Rat.mul_le_mul_of_nonneg_left g h2
  have e : a / c * c = a := by grind
  grind
theorem rat_div_neg (a b : Rat) : -a / b = -(a / b) := by rw [Rat.div_def, Rat.div_def, Rat.neg_mul]
/-- the quotient of a key by one that is not negative -/
structure DivK (m z w r : Int) : Prop where
  zero : z = 0 → r = 0
  small : w = 9218868437227405312 → -9218868437227405312 < z → z < 9218868437227405312 → r = 0
  inf : z ≠ 0 → (z = 9218868437227405312 ∨ z = -9218868437227405312 ∨ w = 0) → r = if 0 < z then 9218868437227405312 else -9218868437227405312
  fin : z ≠ 0 → -9218868437227405312 < z → z < 9218868437227405312 → 0 < w → w < 9218868437227405312 → ExK (zv z / zv w) m r
  rng : -9218868437227405312 ≤ r ∧ r ≤ 9218868437227405312
theorem DivK.pos {m z w r : Int} (h : DivK m z w r) (hz : 0 ≤ z) (h1 : z ≤ 9218868437227405312) (hw : 0 ≤ w) (h2 : w ≤ 9218868437227405312) : 0 ≤ r := by
  by_cases z0 : z = 0
  · rw [h.zero z0]; omega
  by_cases i : z = 9218868437227405312 ∨ w = 0
  · have := h.inf z0 (by omega); rw [if_pos (by omega)] at this; omega
  by_cases s : w = 9218868437227405312
  · rw [h.small s (by omega) (by omega)]; omega
  exact exk_nonneg (h.fin z0 (by omega) (by omega) (by omega) (by omega)) (rat_div_nonneg (zv_nonneg hz (by omega)) (zv_pos (by omega) (by omega)))
theorem DivK.npos {m z w r : Int} (h : DivK m z w r) (hz : z ≤ 0) (h1 : -9218868437227405312 ≤ z) (hw : 0 ≤ w) (h2 : w ≤ 9218868437227405312) : r ≤ 0 := by
  by_cases z0 : z = 0
  · rw [h.zero z0]; omega
  by_cases i : z = -9218868437227405312 ∨ w = 0
  · have := h.inf z0 (by omega); rw [if_neg (by omega)] at this; omega
  by_cases s : w = 9218868437227405312
  · rw [h.small s (by omega) (by omega)]; omega
  refine exk_nonpos (h.fin z0 (by omega) (by omega) (by omega) (by omega)) ?_
  have := rat_div_mono (zv_pos (z := w) (by omega) (by omega)) (zv_nonpos (z := z) hz (by omega))
  rwa [Rat.div_def 0, Rat.zero_mul] at this
theorem DivK.mono {m z z' w r r' : Int} (h : DivK m z w r) (g : DivK m z' w r') (hw : 0 ≤ w) (l : z ≤ z') (h1 : -9218868437227405312 ≤ z) (h2 : z' ≤ 9218868437227405312) (h3 : w ≤ 9218868437227405312) : r ≤ r' := by
  have R := h.rng; have R' := g.rng
  by_cases c : z ≤ 0 ∧ 0 ≤ z'
  · have := h.npos c.1 h1 hw h3; have := g.pos c.2 h2 hw h3; omega
  by_cases c1 : 0 < z
  · by_cases i : z' = 9218868437227405312 ∨ w = 0
    · have := g.inf (by omega) (by omega); rw [if_pos (by omega)] at this; omega
    by_cases s : w = 9218868437227405312
    · rw [h.small s (by omega) (by omega), g.small s (by omega) (by omega)]; exact Int.le_refl _
    exact exk_mono (rat_div_mono (zv_pos (by omega) (by omega)) (zv_le (by omega) (by omega) (by omega) (by omega) l)) (h.fin (by omega) (by omega) (by omega) (by omega) (by omega)) (g.fin (by omega) (by omega) (by omega) (by omega) (by omega))
  · by_cases i : z = -9218868437227405312 ∨ w = 0
    · have := h.inf (by omega) (by omega); rw [if_neg (by omega)] at this; omega
    by_cases s : w = 9218868437227405312
    · rw [h.small s (by omega) (by omega), g.small s (by omega) (by omega)]; exact Int.le_refl _
    exact exk_mono (rat_div_mono (zv_pos (by omega) (by omega)) (zv_le (by omega) (by omega) (by omega) (by omega) l)) (h.fin (by omega) (by omega) (by omega) (by omega) (by omega)) (g.fin (by omega) (by omega) (by omega) (by omega) (by omega))
theorem DivK.less {m z w w' r r' : Int} (h : DivK m z w r) (g : DivK m z w' r') (hw : 0 ≤ w) (l : w ≤ w') (h1 : -9218868437227405312 ≤ z) (h2 : z ≤ 9218868437227405312) (h3 : w' ≤ 9218868437227405312) : (0 ≤ z → r' ≤ r) ∧ (z ≤ 0 → r ≤ r') := by
  have R := h.rng; have R' := g.rng
  constructor
  · intro c
    by_cases z0 : z = 0
    · rw [h.zero z0, g.zero z0]; exact Int.le_refl _
    by_cases i : z = 9218868437227405312 ∨ w = 0
    · have := h.inf (by omega) (by omega); rw [if_pos (by omega)] at this; omega
    by_cases s : w' = 9218868437227405312
    · rw [g.small s (by omega) (by omega)]; exact h.pos c h2 hw (by omega)
    exact exk_mono (rat_div_anti (zv_pos (by omega) (by omega)) (zv_le (by omega) (by omega) (by omega) (by omega) l) (zv_nonneg c (by omega))) (g.fin z0 (by omega) (by omega) (by omega) (by omega)) (h.fin z0 (by omega) (by omega) (by omega) (by omega))
  · intro c
    by_cases z0 : z = 0
    · rw [h.zero z0, g.zero z0]; exact Int.le_refl _
    by_cases i : z = -9218868437227405312 ∨ w = 0
    · have := h.inf (by omega) (by omega); rw [if_neg (by omega)] at this; omega
    by_cases s : w' = 9218868437227405312
    · rw [g.small s (by omega) (by omega)]; exact h.npos c h1 hw (by omega)
    refine exk_mono ?_ (h.fin z0 (by omega) (by omega) (by omega) (by omega)) (g.fin z0 (by omega) (by omega) (by omega) (by omega))
    have := rat_div_anti (a := -zv z) (zv_pos (z := w) (by omega) (by omega)) (zv_le (w := w') (by omega) (by omega) (by omega) (by omega) l) (by have := zv_nonpos (z := z) c (by omega); grind)
    rw [rat_div_neg, rat_div_neg] at this
    grind
theorem DivK.order {z w d u : Int} (h : DivK 2 z w d) (g : DivK 1 z w u) (h1 : -9218868437227405312 ≤ z) (h2 : z ≤ 9218868437227405312) (h3 : 0 ≤ w) (h4 : w ≤ 9218868437227405312) : d ≤ u := by
  by_cases z0 : z = 0
  · rw [h.zero z0, g.zero z0]; exact Int.le_refl _
  by_cases i : z = 9218868437227405312 ∨ z = -9218868437227405312 ∨ w = 0
  · rw [h.inf z0 i, g.inf z0 i]; exact Int.le_refl _
  by_cases s : w = 9218868437227405312
  · rw [h.small s (by omega) (by omega), g.small s (by omega) (by omega)]; exact Int.le_refl _
  exact exk_order2 (h.fin z0 (by omega) (by omega) (by omega) (by omega)) (g.fin z0 (by omega) (by omega) (by omega) (by omega))
theorem DivK.down {z w r : Int} (h : DivK 2 z w r) (h1 : -9218868437227405312 ≤ z) (h2 : z ≤ 9218868437227405312) (h3 : 0 ≤ w) (h4 : w ≤ 9218868437227405312) (e : r = 9218868437227405312) : z = 9218868437227405312 ∨ (0 < z ∧ w = 0) := by
  by_cases z0 : z = 0
  · have := h.zero z0; omega
  by_cases i : z = 9218868437227405312 ∨ z = -9218868437227405312 ∨ w = 0
  · have := h.inf z0 i
    by_cases p : 0 < z
    · omega
    · rw [if_neg p] at this; omega
  by_cases s : w = 9218868437227405312
  · have := h.small s (by omega) (by omega); omega
  have := exk_down (h.fin z0 (by omega) (by omega) (by omega) (by omega)); omega
theorem DivK.up {z w r : Int} (h : DivK 1 z w r) (h1 : -9218868437227405312 ≤ z) (h2 : z ≤ 9218868437227405312) (h3 : 0 ≤ w) (h4 : w ≤ 9218868437227405312) (e : r = -9218868437227405312) : z = -9218868437227405312 ∨ (z < 0 ∧ w = 0) := by
  by_cases z0 : z = 0
  · have := h.zero z0; omega
  by_cases i : z = 9218868437227405312 ∨ z = -9218868437227405312 ∨ w = 0
  · have := h.inf z0 i
    by_cases p : 0 < z
    · rw [if_pos p] at this; omega
    · omega
  by_cases s : w = 9218868437227405312
  · have := h.small s (by omega) (by omega); omega
  have := exk_up (h.fin z0 (by omega) (by omega) (by omega) (by omega)); omega
theorem sign_kf {z : Int} (h1 : -9218868437227405312 ≤ z) (h2 : z ≤ 9218868437227405312) : (shrI IntKind.u64 (kf z) 63 == 1) = decide (z < 0) := shr_sign (by omega)
theorem inf_rk {z : Int} (h0 : z ≠ 0) : p_Inf (decide (z < 0)) = kf (if 0 < z then 9218868437227405312 else -9218868437227405312) := by
  rw [inf_spec]
  by_cases h : 0 < z
  · rw [if_pos h, df (by omega)]; rfl
  · rw [if_neg h, dt (by omega)]; rfl
/-- the program's quotient of keys, and the document's -/
theorem div_kf {z w : Int} (z0 : z ≠ 0) (h1 : -9218868437227405312 < z) (h2 : z < 9218868437227405312) (h3 : 0 < w) (h4 : w < 9218868437227405312) (m : Int) :
    ∃ v r, Tr.Is (s_Div_t (kf z) (kf w) m) v ∧ Tr.Is (r6_Div_t (kf z) (kf w) m) v ∧ Wd v.1 ∧ kz v.1 = some r ∧ ExK (zv z / zv w) m r := by
  obtain ⟨v, a, b, c⟩ := div_both (s := decide (z < 0)) (t := decide (w < 0)) (k := z.natAbs) (j := w.natAbs) (by omega) (by omega) m
  cases c with
  | nan h e => omega
  | bad h e => omega
  | inf h e => omega
  | by0 h e => omega
  | zero h e => omega
  | fin h e =>
    have h1' := (fv_nz (s := decide (z < 0)) h.1 h.2.2.1).2.1
    have h2' := (fv_nz (s := decide (w < 0)) h.2.1 h.2.2.2).2.1
    obtain ⟨r, d, f⟩ := exF_key (div_nz h1' h2') e
    exact ⟨v, r, a, b, d.kz.1, d.kz.2, f⟩
theorem class3_kf {z : Int} (h1 : -9218868437227405312 ≤ z) (h2 : z ≤ 9218868437227405312) : (p_Class (kf z) == 3) = decide (z = 9218868437227405312 ∨ z = -9218868437227405312) := by
  have := (class_kf h1 h2).1
  rw [show (p_Class (kf z) == 3) = !(p_Class (kf z) != 3) by simp [bne]]
  rw [this, Bool.eq_iff_iff]; simp only [Bool.not_eq_true', decide_eq_false_iff_not, decide_eq_true_eq]; omega
theorem above1_kf {z w : Int} (h1 : -9218868437227405312 ≤ z) (h2 : z ≤ 9218868437227405312) (h3 : 0 ≤ w) (h4 : w ≤ 9218868437227405312) (m : Int) :
    ∃ x r, Tr.Is (sp_above1_t (kf z) (kf w) m) x ∧ Wd x ∧ kz x = some r ∧ DivK m z w r := by
  have k0 : kz 0 = some 0 := kz_kf (z := 0) (by omega) (by omega)
  have cz := zero_kf h1 h2
  have cw := zero_kf (z := w) (by omega) h4
  have iz := (class_kf h1 h2).1
  have iw := class3_kf (z := w) (by omega) h4
  by_cases z0 : z = 0
  · exact ⟨0, 0, Tr.is_br_t (cz.trans (dt z0)) (Tr.is_leaf rfl), zero_wd, k0, fun _ => rfl, fun _ _ _ => rfl, fun g => by omega, fun g => by omega, by omega⟩
  have I := inf_rk z0
  rw [← sign_kf h1 h2] at I
  have R : -9218868437227405312 ≤ (if 0 < z then 9218868437227405312 else -9218868437227405312 : Int) ∧ (if 0 < z then 9218868437227405312 else -9218868437227405312 : Int) ≤ 9218868437227405312 := by split <;> omega
  by_cases w1 : w = 9218868437227405312
  · by_cases zi : z = 9218868437227405312 ∨ z = -9218868437227405312
    · refine ⟨_, _, Tr.is_br_f (cz.trans (df z0)) (Tr.is_br_t (iw.trans (dt (by omega))) (Tr.is_br_f (iz.trans (df (by omega))) (Tr.is_br_t (iw.trans (dt (by omega))) (Tr.is_leaf I)))), kf_wd R.1 R.2, kz_kf R.1 R.2, fun g => by omega, fun g => by omega, fun _ _ => rfl, fun g => by omega, R⟩
    · exact ⟨0, 0, Tr.is_br_f (cz.trans (df z0)) (Tr.is_br_t (iw.trans (dt (by omega))) (Tr.is_br_t (iz.trans (dt (by omega))) (Tr.is_leaf rfl))), zero_wd, k0, fun _ => rfl, fun _ _ _ => rfl, fun _ g => by omega, fun g => by omega, by omega⟩
  have iwf := iw.trans (df (by omega))
  by_cases w0 : w = 0
  · exact ⟨_, _, Tr.is_br_f (cz.trans (df z0)) (Tr.is_br_f iwf (Tr.is_br_f iwf (Tr.is_br_t (cw.trans (dt w0)) (Tr.is_leaf I)))), kf_wd R.1 R.2, kz_kf R.1 R.2, fun g => by omega, fun g => by omega, fun _ _ => rfl, fun g => by omega, R⟩
  have cwf := cw.trans (df w0)
  by_cases zi : z = 9218868437227405312 ∨ z = -9218868437227405312
  · obtain ⟨v, a, b, c⟩ := div_both (s := decide (z < 0)) (t := decide (w < 0)) (k := z.natAbs) (j := w.natAbs) (by omega) (by omega) m
    have ev : s_Div (kf z) (kf w) m = v := a.1
    have e2 : v.1 = kf (if 0 < z then 9218868437227405312 else -9218868437227405312) := by
      cases c with
      | nan h e => omega
      | bad h e => omega
      | by0 h e => omega
      | zero h e => omega
      | fin h e => omega
      | inf h e =>
        rw [e, ← inf_rk z0, inf_spec, df (p := w < 0) (by omega), Bool.bne_false]
    exact ⟨_, _, Tr.is_br_f (cz.trans (df z0)) (Tr.is_br_f iwf (Tr.is_br_f iwf (Tr.is_br_f cwf (Tr.is_ast a.2 (Tr.is_leaf (by rw [ev, e2])))))), kf_wd R.1 R.2, kz_kf R.1 R.2, fun g => by omega, fun g => by omega, fun _ _ => rfl, fun g => by omega, R⟩
  · obtain ⟨v, r, a, b, c, d, e⟩ := div_kf (z := z) (w := w) z0 (by omega) (by omega) (by omega) (by omega) m
    have ev : s_Div (kf z) (kf w) m = v := a.1
    exact ⟨_, _, Tr.is_br_f (cz.trans (df z0)) (Tr.is_br_f iwf (Tr.is_br_f iwf (Tr.is_br_f cwf (Tr.is_ast a.2 (Tr.is_leaf (by rw [ev])))))), c, d, fun g => by omega, fun g => by omega, fun _ g => by omega, fun _ _ _ _ _ => e, exk_rng e⟩
end Go.Fb
namespace Go.Fb
open Go.Ev
def cl (L : Int) : Int := if L = 9218868437227405312 then 9218868437227405311 else L
def ch (H : Int) : Int := if H = -9218868437227405312 then -9218868437227405311 else H
def KI (d u : Int) : IV := some (cl d, ch u)
theorem cl_mono {x y : Int} (h : x ≤ y) (g : y ≤ 9218868437227405312) : cl x ≤ cl y := by unfold cl; split <;> split <;> omega
theorem ch_mono {x y : Int} (h : x ≤ y) (g : -9218868437227405312 ≤ x) : ch x ≤ ch y := by unfold ch; split <;> split <;> omega
theorem GI.KI {d u : Int} (h : d ≤ u) (h1 : -9218868437227405312 ≤ d) (h2 : u ≤ 9218868437227405312) : GI (KI d u) := fun a b e => by
  cases e
  unfold cl ch
  split <;> split <;> omega
theorem outer_is {lo hi L H : Int} (h1 : Wd lo) (h2 : Wd hi) (k1 : kz lo = some L) (k2 : kz hi = some H) (h : L ≤ H) : sp_outer lo hi = enc (KI L H) := by
  suffices Tr.Is (sp_outer_t lo hi) (enc (KI L H)) from this.1
  have r1 := kz_rng h1 k1; have r2 := kz_rng h2 k2
  have i1 : (lo == sp_inf) = decide (L = 9218868437227405312) := by
    rw [sp_inf_val]
    rcases kz_cases h1 with ⟨e, _⟩ | ⟨s, k, g1, rfl, e⟩
    · rw [e] at k1; cases k1
    · rw [e] at k1; injection k1 with k1; subst k1; exact fl_inf g1
  have i2 : (hi == sp_ninf) = decide (H = -9218868437227405312) := by
    rw [sp_ninf_val]
    rcases kz_cases h2 with ⟨e, _⟩ | ⟨s, k, g1, rfl, e⟩
    · rw [e] at k2; cases k2
    · rw [e] at k2; injection k2 with k2; subst k2; exact fl_ninf g1
  by_cases c : L = 9218868437227405312
  · have ci := i1.trans (dt c)
    have el : lo = kf 9218868437227405312 := by rw [sp_inf_val] at ci; exact beq_iff_eq.1 ci
    have p := prev_kf (z := 9218868437227405312) (by omega) (by omega)
    refine Tr.is_br_t ci (Tr.is_leaf ?_)
    rw [el, Make_kz p.1 h2, p.2.1, k2]
    show enc (mk (9218868437227405312 - 1) H) = _
    rw [mk_of ⟨by omega, by omega, by omega, by omega, by omega⟩]
    unfold KI cl ch; rw [if_pos c, if_neg (by omega)]; rfl
  · refine Tr.is_br_f (i1.trans (df c)) ?_
    by_cases d : H = -9218868437227405312
    · have ci := i2.trans (dt d)
      have el : hi = kf (-9218868437227405312) := by rw [sp_ninf_val] at ci; exact beq_iff_eq.1 ci
      have p := next_kf (z := -9218868437227405312) (by omega) (by omega)
      refine Tr.is_br_t ci (Tr.is_leaf ?_)
      rw [el, Make_kz h1 p.1, p.2.1, k1]
      show enc (mk L (-9218868437227405312 + 1)) = _
      rw [mk_of ⟨by omega, by omega, by omega, by omega, by omega⟩]
      unfold KI cl ch; rw [if_pos d, if_neg c]; rfl
    · refine Tr.is_br_f (i2.trans (df d)) (Tr.is_leaf ?_)
      rw [Make_kz h1 h2, k1, k2]
      show enc (mk L H) = _
      rw [mk_of ⟨by omega, by omega, by omega, by omega, by omega⟩]
      unfold KI cl ch; rw [if_neg d, if_neg c]
theorem join_is {x y : SP} {X Y : IV} (hx : x = enc X) (hy : y = enc Y) (gx : GI X) (gy : GI Y) : sp_Join_s (id [[Cv.b x.empty, Cv.i x.lo, Cv.i x.hi], [Cv.b y.empty, Cv.i y.lo, Cv.i y.hi]]) = true ∧ sp_Join (id [[Cv.b x.empty, Cv.i x.lo, Cv.i x.hi], [Cv.b y.empty, Cv.i y.lo, Cv.i y.hi]]) = enc (joinI X Y) := by
  subst hx hy
  have h := Join2 (a := enc X) (b := enc Y) (enc_ws gx) (enc_ws gy)
  rw [nI_enc gx, nI_enc gy] at h
  exact h
def corn (f g : Int → Int → Int) (al ah bl bh : Int) : IV := joinI (joinI (joinI (KI (f al bl) (g al bl)) (KI (f al bh) (g al bh))) (KI (f ah bl) (g ah bl))) (KI (f ah bh) (g ah bh))
/-- a function on a box is least, and greatest, at corners -/
structure Box (f g : Int → Int → Int) (al ah bl bh : Int) : Prop where
  fx : ∀ z w, al ≤ z → z ≤ ah → bl ≤ w → w ≤ bh → f al w ≤ f z w ∨ f ah w ≤ f z w
  fy : ∀ z w, al ≤ z → z ≤ ah → bl ≤ w → w ≤ bh → f z bl ≤ f z w ∨ f z bh ≤ f z w
  gx : ∀ z w, al ≤ z → z ≤ ah → bl ≤ w → w ≤ bh → g z w ≤ g al w ∨ g z w ≤ g ah w
  gy : ∀ z w, al ≤ z → z ≤ ah → bl ≤ w → w ≤ bh → g z w ≤ g z bl ∨ g z w ≤ g z bh
  r : ∀ z w, al ≤ z → z ≤ ah → bl ≤ w → w ≤ bh → -9218868437227405312 ≤ f z w ∧ f z w ≤ g z w ∧ g z w ≤ 9218868437227405312
theorem corn_has {f g : Int → Int → Int} {al ah bl bh zc wc : Int} (hz : zc = al ∨ zc = ah) (hw : wc = bl ∨ wc = bh) : insI (KI (f zc wc) (g zc wc)) (corn f g al ah bl bh) = true := by
  unfold corn
  rcases hz with rfl | rfl <;> rcases hw with rfl | rfl
  · exact insI_trans (insI_trans (insI_join_l _ _) (insI_join_l _ _)) (insI_join_l _ _)
  · exact insI_trans (insI_trans (insI_join_r _ _) (insI_join_l _ _)) (insI_join_l _ _)
  · exact insI_trans (insI_join_r _ _) (insI_join_l _ _)
  · exact insI_join_r _ _
theorem Box.corn {f g : Int → Int → Int} {al ah bl bh : Int} (B : Box f g al ah bl bh) (ha : al ≤ ah) (hb : bl ≤ bh) {z w : Int} (h1 : al ≤ z) (h2 : z ≤ ah) (h3 : bl ≤ w) (h4 : w ≤ bh) : insI (KI (f z w) (g z w)) (corn f g al ah bl bh) = true := by
  have lo : ∃ zc wc, (zc = al ∨ zc = ah) ∧ (wc = bl ∨ wc = bh) ∧ f zc wc ≤ f z w := by
    rcases B.fx z w h1 h2 h3 h4 with e | e
    · rcases B.fy al w (by omega) ha h3 h4 with d | d
      · exact ⟨al, bl, .inl rfl, .inl rfl, by omega⟩
      · exact ⟨al, bh, .inl rfl, .inr rfl, by omega⟩
    · rcases B.fy ah w ha (by omega) h3 h4 with d | d
      · exact ⟨ah, bl, .inr rfl, .inl rfl, by omega⟩
      · exact ⟨ah, bh, .inr rfl, .inr rfl, by omega⟩
  have hi : ∃ zc wc, (zc = al ∨ zc = ah) ∧ (wc = bl ∨ wc = bh) ∧ g z w ≤ g zc wc := by
    rcases B.gx z w h1 h2 h3 h4 with e | e
    · rcases B.gy al w (by omega) ha h3 h4 with d | d
      · exact ⟨al, bl, .inl rfl, .inl rfl, by omega⟩
      · exact ⟨al, bh, .inl rfl, .inr rfl, by omega⟩
    · rcases B.gy ah w ha (by omega) h3 h4 with d | d
      · exact ⟨ah, bl, .inr rfl, .inl rfl, by omega⟩
      · exact ⟨ah, bh, .inr rfl, .inr rfl, by omega⟩
  obtain ⟨z1, w1, c1, c2, c3⟩ := lo
  obtain ⟨z2, w2, d1, d2, d3⟩ := hi
  have i1 := corn_has (f := f) (g := g) c1 c2
  have i2 := corn_has (f := f) (g := g) d1 d2
  obtain ⟨l, h, e, p1, p2⟩ := insI_some i1
  rw [e] at i2 ⊢
  obtain ⟨l', h', e', q1, q2⟩ := insI_some i2
  cases e'
  have r := B.r z w h1 h2 h3 h4
  have r2 := B.r z w h1 h2 h3 h4
  have m1 := cl_mono c3 (by omega)
  have m2 := ch_mono d3 (by omega)
  exact insI_of (by omega) (by omega)
theorem GI.corn {f g : Int → Int → Int} {al ah bl bh : Int} (B : Box f g al ah bl bh) (h1 : al ≤ ah) (h2 : bl ≤ bh) : GI (corn f g al ah bl bh) := by
  have r1 := B.r al bl (by omega) (by omega) (by omega) (by omega)
  have r2 := B.r al bh (by omega) (by omega) (by omega) (by omega)
  have r3 := B.r ah bl (by omega) (by omega) (by omega) (by omega)
  have r4 := B.r ah bh (by omega) (by omega) (by omega) (by omega)
  exact GI.join (GI.join (GI.join (GI.KI (by omega) (by omega) (by omega)) (GI.KI (by omega) (by omega) (by omega))) (GI.KI (by omega) (by omega) (by omega))) (GI.KI (by omega) (by omega) (by omega))
def mulF (m z w : Int) : Int := (kz (sp_Mul1 (kf z) (kf w) m)).getD 0
theorem mulF_spec {z w : Int} (h1 : -9218868437227405312 ≤ z) (h2 : z ≤ 9218868437227405312) (h3 : -9218868437227405312 ≤ w) (h4 : w ≤ 9218868437227405312) (m : Int) : sp_Mul1_s (kf z) (kf w) m = true ∧ Wd (sp_Mul1 (kf z) (kf w) m) ∧ kz (sp_Mul1 (kf z) (kf w) m) = some (mulF m z w) ∧ MulK m z w (mulF m z w) := by
  obtain ⟨x, r, t, a, b, c⟩ := mul1_kf h1 h2 h3 h4 m
  have e : sp_Mul1 (kf z) (kf w) m = x := t.1
  unfold mulF; rw [e, b]; exact ⟨t.2, a, rfl, c⟩
def divF (m z w : Int) : Int := (kz (sp_above1 (kf z) (kf w) m)).getD 0
theorem divF_spec {z w : Int} (h1 : -9218868437227405312 ≤ z) (h2 : z ≤ 9218868437227405312) (h3 : 0 ≤ w) (h4 : w ≤ 9218868437227405312) (m : Int) : sp_above1_s (kf z) (kf w) m = true ∧ Wd (sp_above1 (kf z) (kf w) m) ∧ kz (sp_above1 (kf z) (kf w) m) = some (divF m z w) ∧ DivK m z w (divF m z w) := by
  obtain ⟨x, r, t, a, b, c⟩ := above1_kf h1 h2 h3 h4 m
  have e : sp_above1 (kf z) (kf w) m = x := t.1
  unfold divF; rw [e, b]; exact ⟨t.2, a, rfl, c⟩
theorem mul_box {al ah bl bh : Int} (h1 : -9218868437227405312 ≤ al) (h2 : ah ≤ 9218868437227405312) (h3 : -9218868437227405312 ≤ bl) (h4 : bh ≤ 9218868437227405312) : Box (mulF 2) (mulF 1) al ah bl bh where
  fx z w a b c d := by
    have k := fun x (p : al ≤ x) (q : x ≤ ah) => (mulF_spec (z := x) (w := w) (by omega) (by omega) (by omega) (by omega) 2).2.2.2
    by_cases s : 0 ≤ w
    · exact .inl ((k al (by omega) (by omega)).mono (k z a b) s a (by omega) (by omega) (by omega))
    · exact .inr ((k z a b).anti (k ah (by omega) (by omega)) (by omega) b (by omega) (by omega) (by omega))
  fy z w a b c d := by
    have k := fun x (p : bl ≤ x) (q : x ≤ bh) => (mulF_spec (z := z) (w := x) (by omega) (by omega) (by omega) (by omega) 2).2.2.2.symm
    by_cases s : 0 ≤ z
    · exact .inl ((k bl (by omega) (by omega)).mono (k w c d) s c (by omega) (by omega) (by omega))
    · exact .inr ((k w c d).anti (k bh (by omega) (by omega)) (by omega) d (by omega) (by omega) (by omega))
  gx z w a b c d := by
    have k := fun x (p : al ≤ x) (q : x ≤ ah) => (mulF_spec (z := x) (w := w) (by omega) (by omega) (by omega) (by omega) 1).2.2.2
    by_cases s : 0 ≤ w
    · exact .inr ((k z a b).mono (k ah (by omega) (by omega)) s b (by omega) (by omega) (by omega))
    · exact .inl ((k al (by omega) (by omega)).anti (k z a b) (by omega) a (by omega) (by omega) (by omega))
  gy z w a b c d := by
    have k := fun x (p : bl ≤ x) (q : x ≤ bh) => (mulF_spec (z := z) (w := x) (by omega) (by omega) (by omega) (by omega) 1).2.2.2.symm
    by_cases s : 0 ≤ z
    · exact .inr ((k w c d).mono (k bh (by omega) (by omega)) s d (by omega) (by omega) (by omega))
    · exact .inl ((k bl (by omega) (by omega)).anti (k w c d) (by omega) c (by omega) (by omega) (by omega))
  r z w a b c d := by
    have x := (mulF_spec (z := z) (w := w) (by omega) (by omega) (by omega) (by omega) 2).2.2.2
    have y := (mulF_spec (z := z) (w := w) (by omega) (by omega) (by omega) (by omega) 1).2.2.2
    have := x.order y (by omega) (by omega) (by omega) (by omega)
    have := x.rng; have := y.rng; omega
theorem div_box {al ah bl bh : Int} (h1 : -9218868437227405312 ≤ al) (h2 : ah ≤ 9218868437227405312) (h3 : 0 ≤ bl) (h4 : bh ≤ 9218868437227405312) : Box (divF 2) (divF 1) al ah bl bh where
  fx z w a b c d := by
    have k := fun x (p : al ≤ x) (q : x ≤ ah) => (divF_spec (z := x) (w := w) (by omega) (by omega) (by omega) (by omega) 2).2.2.2
    exact .inl ((k al (by omega) (by omega)).mono (k z a b) (by omega) a (by omega) (by omega) (by omega))
  fy z w a b c d := by
    have k := fun x (p : bl ≤ x) (q : x ≤ bh) => (divF_spec (z := z) (w := x) (by omega) (by omega) (by omega) (by omega) 2).2.2.2
    by_cases s : 0 ≤ z
    · exact .inr (((k w c d).less (k bh (by omega) (by omega)) (by omega) d (by omega) (by omega) (by omega)).1 s)
    · exact .inl (((k bl (by omega) (by omega)).less (k w c d) (by omega) c (by omega) (by omega) (by omega)).2 (by omega))
  gx z w a b c d := by
    have k := fun x (p : al ≤ x) (q : x ≤ ah) => (divF_spec (z := x) (w := w) (by omega) (by omega) (by omega) (by omega) 1).2.2.2
    exact .inr ((k z a b).mono (k ah (by omega) (by omega)) (by omega) b (by omega) (by omega) (by omega))
  gy z w a b c d := by
    have k := fun x (p : bl ≤ x) (q : x ≤ bh) => (divF_spec (z := z) (w := x) (by omega) (by omega) (by omega) (by omega) 1).2.2.2
    by_cases s : 0 ≤ z
    · exact .inl (((k bl (by omega) (by omega)).less (k w c d) (by omega) c (by omega) (by omega) (by omega)).1 s)
    · exact .inr (((k w c d).less (k bh (by omega) (by omega)) (by omega) d (by omega) (by omega) (by omega)).2 (by omega))
  r z w a b c d := by
    have x := (divF_spec (z := z) (w := w) (by omega) (by omega) (by omega) (by omega) 2).2.2.2
    have y := (divF_spec (z := z) (w := w) (by omega) (by omega) (by omega) (by omega) 1).2.2.2
    have := x.order y (by omega) (by omega) (by omega) (by omega)
    have := x.rng; have := y.rng; omega
theorem cornersM_is {al ah bl bh : Int} (hA : GI (some (al, ah))) (hB : GI (some (bl, bh))) : sp_cornersM_s (enc (some (al, ah))) (enc (some (bl, bh))) () = true ∧ sp_cornersM (enc (some (al, ah))) (enc (some (bl, bh))) () = enc (corn (mulF 2) (mulF 1) al ah bl bh) := by
  suffices h : Tr.Is (sp_cornersM_t (enc (some (al, ah))) (enc (some (bl, bh))) ()) (enc (corn (mulF 2) (mulF 1) al ah bl bh)) from ⟨h.2, h.1⟩
  have p := hA _ _ rfl; have q := hB _ _ rfl
  have B : Box (mulF 2) (mulF 1) al ah bl bh := mul_box (by omega) (by omega) (by omega) (by omega)
  have s := fun z w m (a : al ≤ z) (b : z ≤ ah) (c : bl ≤ w) (d : w ≤ bh) => mulF_spec (z := z) (w := w) (by omega) (by omega) (by omega) (by omega) m
  have o : ∀ z w, al ≤ z → z ≤ ah → bl ≤ w → w ≤ bh → sp_outer (sp_Mul1 (kf z) (kf w) 2) (sp_Mul1 (kf z) (kf w) 1) = enc (KI (mulF 2 z w) (mulF 1 z w)) := fun z w a b c d =>
    outer_is (s z w 2 a b c d).2.1 (s z w 1 a b c d).2.1 (s z w 2 a b c d).2.2.1 (s z w 1 a b c d).2.2.1 (B.r z w a b c d).2.1
  have g : ∀ z w, al ≤ z → z ≤ ah → bl ≤ w → w ≤ bh → GI (KI (mulF 2 z w) (mulF 1 z w)) := fun z w a b c d => by
    have := B.r z w a b c d; exact GI.KI (by omega) (by omega) (by omega)
  have o1 := o al bl (by omega) (by omega) (by omega) (by omega)
  have o2 := o al bh (by omega) (by omega) (by omega) (by omega)
  have o3 := o ah bl (by omega) (by omega) (by omega) (by omega)
  have o4 := o ah bh (by omega) (by omega) (by omega) (by omega)
  have g1 := g al bl (by omega) (by omega) (by omega) (by omega)
  have g2 := g al bh (by omega) (by omega) (by omega) (by omega)
  have g3 := g ah bl (by omega) (by omega) (by omega) (by omega)
  have g4 := g ah bh (by omega) (by omega) (by omega) (by omega)
  unfold sp_cornersM_t sp_cornersM_T
  extract_lets t0 t1 t2 t3 t4 t5 t6 t7 t8 t9 t10
  have j1 := join_is (x := sp_none) (y := t3) (X := none) rfl o1 GI.nil g1
  have e5 : t5 = enc (KI (mulF 2 al bl) (mulF 1 al bl)) := j1.2
  have j2 := join_is (x := t5) (y := t1) e5 o2 g1 g2
  have j3 := join_is (x := t7) (y := t0) j2.2 o3 (GI.join g1 g2) g3
  have j4 := join_is (x := t9) (y := t2) j3.2 o4 (GI.join (GI.join g1 g2) g3) g4
  exact Tr.is_ast (s al bl 2 (by omega) (by omega) (by omega) (by omega)).1 (Tr.is_ast (s al bl 1 (by omega) (by omega) (by omega) (by omega)).1 (Tr.is_ast j1.1
    (Tr.is_ast (s al bh 2 (by omega) (by omega) (by omega) (by omega)).1 (Tr.is_ast (s al bh 1 (by omega) (by omega) (by omega) (by omega)).1 (Tr.is_ast j2.1
    (Tr.is_ast (s ah bl 2 (by omega) (by omega) (by omega) (by omega)).1 (Tr.is_ast (s ah bl 1 (by omega) (by omega) (by omega) (by omega)).1 (Tr.is_ast j3.1
    (Tr.is_ast (s ah bh 2 (by omega) (by omega) (by omega) (by omega)).1 (Tr.is_ast (s ah bh 1 (by omega) (by omega) (by omega) (by omega)).1 (Tr.is_ast j4.1 (Tr.is_leaf j4.2))))))))))))
theorem cornersD_is {al ah bl bh : Int} (hA : GI (some (al, ah))) (hB : GI (some (bl, bh))) (h0 : 0 ≤ bl) : sp_cornersD_s (enc (some (al, ah))) (enc (some (bl, bh))) () = true ∧ sp_cornersD (enc (some (al, ah))) (enc (some (bl, bh))) () = enc (corn (divF 2) (divF 1) al ah bl bh) := by
  suffices h : Tr.Is (sp_cornersD_t (enc (some (al, ah))) (enc (some (bl, bh))) ()) (enc (corn (divF 2) (divF 1) al ah bl bh)) from ⟨h.2, h.1⟩
  have p := hA _ _ rfl; have q := hB _ _ rfl
  have B : Box (divF 2) (divF 1) al ah bl bh := div_box (by omega) (by omega) (by omega) (by omega)
  have s := fun z w m (a : al ≤ z) (b : z ≤ ah) (c : bl ≤ w) (d : w ≤ bh) => divF_spec (z := z) (w := w) (by omega) (by omega) (by omega) (by omega) m
  have o : ∀ z w, al ≤ z → z ≤ ah → bl ≤ w → w ≤ bh → sp_outer (sp_above1 (kf z) (kf w) 2) (sp_above1 (kf z) (kf w) 1) = enc (KI (divF 2 z w) (divF 1 z w)) := fun z w a b c d =>
    outer_is (s z w 2 a b c d).2.1 (s z w 1 a b c d).2.1 (s z w 2 a b c d).2.2.1 (s z w 1 a b c d).2.2.1 (B.r z w a b c d).2.1
  have g : ∀ z w, al ≤ z → z ≤ ah → bl ≤ w → w ≤ bh → GI (KI (divF 2 z w) (divF 1 z w)) := fun z w a b c d => by
    have := B.r z w a b c d; exact GI.KI (by omega) (by omega) (by omega)
  have o1 := o al bl (by omega) (by omega) (by omega) (by omega)
  have o2 := o al bh (by omega) (by omega) (by omega) (by omega)
  have o3 := o ah bl (by omega) (by omega) (by omega) (by omega)
  have o4 := o ah bh (by omega) (by omega) (by omega) (by omega)
  have g1 := g al bl (by omega) (by omega) (by omega) (by omega)
  have g2 := g al bh (by omega) (by omega) (by omega) (by omega)
  have g3 := g ah bl (by omega) (by omega) (by omega) (by omega)
  have g4 := g ah bh (by omega) (by omega) (by omega) (by omega)
  unfold sp_cornersD_t sp_cornersD_T
  extract_lets t0 t1 t2 t3 t4 t5 t6 t7 t8 t9 t10
  have j1 := join_is (x := sp_none) (y := t1) (X := none) rfl o1 GI.nil g1
  have e5 : t5 = enc (KI (divF 2 al bl) (divF 1 al bl)) := j1.2
  have j2 := join_is (x := t5) (y := t0) e5 o2 g1 g2
  have j3 := join_is (x := t7) (y := t3) j2.2 o3 (GI.join g1 g2) g3
  have j4 := join_is (x := t9) (y := t2) j3.2 o4 (GI.join (GI.join g1 g2) g3) g4
  exact Tr.is_ast (s al bl 2 (by omega) (by omega) (by omega) (by omega)).1 (Tr.is_ast (s al bl 1 (by omega) (by omega) (by omega) (by omega)).1 (Tr.is_ast j1.1
    (Tr.is_ast (s al bh 2 (by omega) (by omega) (by omega) (by omega)).1 (Tr.is_ast (s al bh 1 (by omega) (by omega) (by omega) (by omega)).1 (Tr.is_ast j2.1
    (Tr.is_ast (s ah bl 2 (by omega) (by omega) (by omega) (by omega)).1 (Tr.is_ast (s ah bl 1 (by omega) (by omega) (by omega) (by omega)).1 (Tr.is_ast j3.1
    (Tr.is_ast (s ah bh 2 (by omega) (by omega) (by omega) (by omega)).1 (Tr.is_ast (s ah bh 1 (by omega) (by omega) (by omega) (by omega)).1 (Tr.is_ast j4.1 (Tr.is_leaf j4.2))))))))))))
end Go.Fb
namespace Go.Fb
open Go.Ev
def mulI : IV → IV → IV
  | some (al, ah), some (bl, bh) => corn (mulF 2) (mulF 1) al ah bl bh
  | _, _ => none
theorem Mul_is {a b : SP} {A B : IV} (hA : GI A) (hB : GI B) (ha : sp_norm a = enc A) (hb : sp_norm b = enc B) : sp_Mul_s a b = true ∧ sp_Mul a b = enc (mulI A B) := by
  suffices h : Tr.Is (sp_Mul_t a b) (enc (mulI A B)) from ⟨h.2, h.1⟩
  unfold sp_Mul_t sp_Mul_T; rw [ha, hb]
  match A, B, hA, hB with
  | none, _, _, _ => exact Tr.is_br_t rfl (Tr.is_leaf rfl)
  | some _, none, _, _ => exact Tr.is_br_f rfl (Tr.is_br_t rfl (Tr.is_leaf rfl))
  | some (al, ah), some (bl, bh), hA, hB =>
    have c := cornersM_is hA hB
    exact Tr.is_br_f rfl (Tr.is_br_f rfl (Tr.is_ast c.1 (Tr.is_leaf c.2)))
/-- by what is not negative -/
def aboveI : IV → IV → IV
  | some (al, ah), some (bl, bh) => corn (divF 2) (divF 1) al ah bl bh
  | _, _ => none
def posI : IV → IV
  | some (l, h) => if 0 < h then some (if l ≤ 0 then 0 else l, h) else none
  | none => none
theorem posI_some (l h : Int) : posI (some (l, h)) = if 0 < h then some (if l ≤ 0 then 0 else l, h) else none := rfl
def divI (A B : IV) : IV := joinI (aboveI A (posI B)) (negI (aboveI A (posI (negI B))))
theorem posI_good {B : IV} (hB : GI B) : GI (posI B) := fun l h e => by
  match B with
  | none => cases e
  | some (l', h') =>
    have q := hB _ _ rfl
    rw [posI_some] at e; split at e
    · simp only [Option.some.injEq, Prod.mk.injEq] at e
      obtain ⟨e1, e2⟩ := e
      split at e1 <;> omega
    · cases e
theorem posI_lo {B : IV} {l h : Int} (e : posI B = some (l, h)) : 0 ≤ l ∧ 0 < h := by
  match B with
  | none => cases e
  | some (l', h') =>
    rw [posI_some] at e; split at e
    · simp only [Option.some.injEq, Prod.mk.injEq] at e
      obtain ⟨e1, e2⟩ := e
      split at e1 <;> omega
    · cases e
theorem aboveI_good {A B : IV} (hA : GI A) (hB : GI B) (h0 : ∀ l h, B = some (l, h) → 0 ≤ l) : GI (aboveI A B) := by
  match A, B, hA, hB with
  | none, _, _, _ => exact GI.nil
  | some _, none, _, _ => exact GI.nil
  | some (al, ah), some (bl, bh), hA, hB =>
    have p := hA _ _ rfl; have q := hB _ _ rfl; have := h0 _ _ rfl
    exact GI.corn (div_box (by omega) (by omega) (by omega) (by omega)) (by omega) (by omega)
theorem above_is {al ah : Int} {x : SP} {B : IV} (hA : GI (some (al, ah))) (hx : x = enc B) (hB : GI B) (h0 : ∀ l h, B = some (l, h) → 0 ≤ l) (hn : B ≠ none) : sp_above_s (enc (some (al, ah))) x = true ∧ sp_above (enc (some (al, ah))) x = enc (aboveI (some (al, ah)) B) := by
  subst hx
  match B, hB, h0, hn with
  | none, _, _, hn => exact absurd rfl hn
  | some (bl, bh), hB, h0, _ =>
    have c := cornersD_is hA hB (h0 _ _ rfl)
    exact ⟨(Tr.is_ast c.1 (Tr.is_leaf c.2) : Tr.Is (sp_above_t (enc (some (al, ah))) (enc (some (bl, bh)))) _).2, (Tr.is_ast c.1 (Tr.is_leaf c.2) : Tr.Is (sp_above_t (enc (some (al, ah))) (enc (some (bl, bh)))) _).1⟩
theorem mk0inf : sp_Make 0 sp_inf = enc (some (0, 9218868437227405312)) := by
  rw [sp_inf_val, Make_kz zero_wd wp_inf, kp_inf, show kz 0 = some 0 from kz_kf (z := 0) (by omega) (by omega)]; rfl
theorem mkninf0 : sp_Make sp_ninf 0 = enc (some (-9218868437227405312, 0)) := by
  rw [sp_ninf_val, Make_kz wn_inf zero_wd, kn_inf, show kz 0 = some 0 from kz_kf (z := 0) (by omega) (by omega)]; rfl
theorem gi_0inf : GI (some (0, 9218868437227405312)) := fun _ _ e => by cases e; omega
theorem gi_ninf0 : GI (some (-9218868437227405312, 0)) := fun _ _ e => by cases e; omega
theorem Div_is {a b : SP} {A B : IV} (hA : GI A) (hB : GI B) (ha : sp_norm a = enc A) (hb : sp_norm b = enc B) : sp_Div_s a b = true ∧ sp_Div a b = enc (divI A B) := by
  suffices h : Tr.Is (sp_Div_t a b) (enc (divI A B)) from ⟨h.2, h.1⟩
  unfold sp_Div_t sp_Div_T; rw [ha, hb]
  match A, B, hA, hB with
  | none, B, _, _ =>
    refine Tr.is_br_t rfl (Tr.is_leaf ?_)
    show enc none = enc (divI none B)
    unfold divI
    have e : ∀ X, aboveI none X = none := fun X => by cases X <;> rfl
    rw [e, e]; rfl
  | some _, none, _, _ => exact Tr.is_br_f rfl (Tr.is_br_t rfl (Tr.is_leaf rfl))
  | some (al, ah), some (bl, bh), hA, hB =>
    have p := hA _ _ rfl; have q := hB _ _ rfl
    refine Tr.is_br_f rfl (Tr.is_br_f rfl ?_)
    have c1 : (!sp_atMost (enc (some (bl, bh))).hi 0) = decide (0 < bh) := by
      show (!sp_atMost (kf bh) 0) = _
      rw [show sp_atMost (kf bh) 0 = decide (bh ≤ 0) by rw [← kf0]; exact atMost_kf (by omega) (by omega) (by omega) (by omega), Bool.eq_iff_iff]
      simp only [Bool.not_eq_true', decide_eq_false_iff_not, decide_eq_true_eq]; omega
    have c2 : (!sp_atMost 0 (enc (some (bl, bh))).lo) = decide (bl < 0) := by
      show (!sp_atMost 0 (kf bl)) = _
      rw [show sp_atMost 0 (kf bl) = decide (0 ≤ bl) by rw [← kf0]; exact atMost_kf (by omega) (by omega) (by omega) (by omega), Bool.eq_iff_iff]
      simp only [Bool.not_eq_true', decide_eq_false_iff_not, decide_eq_true_eq]; omega
    have m1 := Meet_is hB gi_0inf (norm_enc hB) (b := sp_Make 0 sp_inf) (by rw [mk0inf]; exact norm_enc gi_0inf)
    have m2 := Meet_is hB gi_ninf0 (norm_enc hB) (b := sp_Make sp_ninf 0) (by rw [mkninf0]; exact norm_enc gi_ninf0)
    have gP := posI_good hB
    have gN := posI_good (GI.neg hB)
    have e1 : 0 < bh → meetI (some (bl, bh)) (some (0, 9218868437227405312)) = posI (some (bl, bh)) := fun c => by
      show mk (if bl ≤ 0 then 0 else bl) (if 9218868437227405312 ≤ bh then 9218868437227405312 else bh) = if 0 < bh then some (if bl ≤ 0 then 0 else bl, bh) else none
      rw [if_pos c, show (if 9218868437227405312 ≤ bh then 9218868437227405312 else bh) = bh by split <;> omega]
      exact mk_of ⟨by split <;> omega, by split <;> omega, by split <;> omega, by omega, by omega⟩
    have e2 : bl < 0 → negI (meetI (some (bl, bh)) (some (-9218868437227405312, 0))) = posI (negI (some (bl, bh))) := fun c => by
      show negI (mk (if bl ≤ -9218868437227405312 then -9218868437227405312 else bl) (if 0 ≤ bh then 0 else bh)) = if 0 < -bl then some (if -bh ≤ 0 then 0 else -bh, -bl) else none
      rw [if_pos (show 0 < -bl by omega), show (if bl ≤ -9218868437227405312 then -9218868437227405312 else bl) = bl by split <;> omega]
      have em : mk bl (if 0 ≤ bh then 0 else bh) = some (bl, if 0 ≤ bh then 0 else bh) := mk_of ⟨by split <;> omega, by omega, by omega, by split <;> omega, by split <;> omega⟩
      rw [em]
      show some (-(if 0 ≤ bh then 0 else bh), -bl) = some (if -bh ≤ 0 then 0 else -bh, -bl)
      rw [show (-(if 0 ≤ bh then 0 else bh) : Int) = if -bh ≤ 0 then 0 else -bh by split <;> split <;> omega]
    have np : ¬ 0 < bh → posI (some (bl, bh)) = none := fun c => if_neg c
    have nn : ¬ bl < 0 → posI (negI (some (bl, bh))) = none := fun c => if_neg (by omega)
    have yp : 0 < bh → posI (some (bl, bh)) ≠ none := fun c => by
      show (if 0 < bh then some _ else none) ≠ none
      rw [if_pos c]; exact fun e => by cases e
    have yn : bl < 0 → posI (negI (some (bl, bh))) ≠ none := fun c => by
      show (if 0 < -bl then some _ else none) ≠ none
      rw [if_pos (by omega)]; exact fun e => by cases e
    have gM : GI (meetI (some (bl, bh)) (some (-9218868437227405312, 0))) := GI.meet hB gi_ninf0
    have n2 : sp_Neg (sp_Meet (enc (some (bl, bh))) (sp_Make sp_ninf 0)) = enc (negI (meetI (some (bl, bh)) (some (-9218868437227405312, 0)))) := by
      rw [m2.2]; exact Neg_is gM (norm_enc gM)
    have gaP := aboveI_good hA gP fun _ _ e => (posI_lo e).1
    have gaN := aboveI_good hA gN fun _ _ e => (posI_lo e).1
    unfold divI
    by_cases d1 : 0 < bh
    · refine Tr.is_br_t (c1.trans (dt d1)) (Tr.is_ast m1.1 ?_)
      rw [m1.2, e1 d1]
      have a1 := above_is hA rfl gP (fun _ _ e => (posI_lo e).1) (yp d1)
      refine Tr.is_ast a1.1 ?_
      by_cases d2 : bl < 0
      · refine Tr.is_br_t (c2.trans (dt d2)) (Tr.is_ast m2.1 ?_)
        rw [n2, e2 d2]
        have a2 := above_is hA rfl gN (fun _ _ e => (posI_lo e).1) (yn d2)
        refine Tr.is_ast a2.1 ?_
        have j := join_is (x := sp_above (enc (some (al, ah))) (enc (posI (some (bl, bh))))) (y := sp_Neg (sp_above (enc (some (al, ah))) (enc (posI (negI (some (bl, bh))))))) a1.2 (by rw [a2.2]; exact Neg_is gaN (norm_enc gaN)) gaP (GI.neg gaN)
        exact Tr.is_ast j.1 (Tr.is_leaf j.2)
      · refine Tr.is_br_f (c2.trans (df d2)) (Tr.is_leaf ?_)
        rw [a1.2, nn d2]
        show _ = enc (joinI (aboveI (some (al, ah)) (posI (some (bl, bh)))) none)
        cases aboveI (some (al, ah)) (posI (some (bl, bh))) <;> rfl
    · refine Tr.is_br_f (c1.trans (df d1)) ?_
      rw [np d1]
      by_cases d2 : bl < 0
      · refine Tr.is_br_t (c2.trans (dt d2)) (Tr.is_ast m2.1 ?_)
        rw [n2, e2 d2]
        have a2 := above_is hA rfl gN (fun _ _ e => (posI_lo e).1) (yn d2)
        refine Tr.is_ast a2.1 ?_
        have j := join_is (x := sp_none) (X := none) (y := sp_Neg (sp_above (enc (some (al, ah))) (enc (posI (negI (some (bl, bh))))))) rfl (by rw [a2.2]; exact Neg_is gaN (norm_enc gaN)) GI.nil (GI.neg gaN)
        exact Tr.is_ast j.1 (Tr.is_leaf j.2)
      · refine Tr.is_br_f (c2.trans (df d2)) (Tr.is_leaf ?_)
        rw [nn d2]; rfl
structure AddK (m z w r : Int) : Prop where
  infz : (z = 9218868437227405312 ∨ z = -9218868437227405312) → r = z
  infw : -9218868437227405312 < z → z < 9218868437227405312 → (w = 9218868437227405312 ∨ w = -9218868437227405312) → r = w
  fin : -9218868437227405312 < z → z < 9218868437227405312 → -9218868437227405312 < w → w < 9218868437227405312 → ExK (zv z + zv w) m r
  rng : -9218868437227405312 ≤ r ∧ r ≤ 9218868437227405312
theorem AddK.mono {m z w z' w' r r' : Int} (h : AddK m z w r) (g : AddK m z' w' r') (a : z ≤ z') (b : w ≤ w') (h1 : -9218868437227405312 ≤ z) (h2 : z' ≤ 9218868437227405312) (h3 : -9218868437227405312 ≤ w) (h4 : w' ≤ 9218868437227405312) : r ≤ r' := by
  have R := h.rng; have R' := g.rng
  by_cases c1 : z = -9218868437227405312
  · have := h.infz (.inr c1); omega
  by_cases c2 : z' = 9218868437227405312
  · have := g.infz (.inl c2); omega
  by_cases c3 : w = -9218868437227405312
  · have := h.infw (by omega) (by omega) (.inr c3); omega
  by_cases c4 : w' = 9218868437227405312
  · have := g.infw (by omega) (by omega) (.inl c4); omega
  refine exk_mono ?_ (h.fin (by omega) (by omega) (by omega) (by omega)) (g.fin (by omega) (by omega) (by omega) (by omega))
  have p := zv_le (z := z) (w := z') (by omega) (by omega) (by omega) (by omega) a
  have q := zv_le (z := w) (w := w') (by omega) (by omega) (by omega) (by omega) b
  grind
theorem add_kf {z w : Int} (h1 : -9218868437227405312 ≤ z) (h2 : z ≤ 9218868437227405312) (h3 : -9218868437227405312 ≤ w) (h4 : w ≤ 9218868437227405312) (hc : ¬ (z = 9218868437227405312 ∧ w = -9218868437227405312)) (hd : ¬ (z = -9218868437227405312 ∧ w = 9218868437227405312)) (m : Int) :
    ∃ v r, Tr.Is (s_Add_t (kf z) (kf w) m) v ∧ Tr.Is (r6_Add_t (kf z) (kf w) m) v ∧ Wd v.1 ∧ kz v.1 = some r ∧ AddK m z w r := by
  obtain ⟨v, a, b, c⟩ := add_both (s := decide (z < 0)) (t := decide (w < 0)) (k := z.natAbs) (j := w.natAbs) (by omega) (by omega) m
  rcases addRK c (by omega) (by omega) with d | ⟨r, d, e⟩
  · exfalso
    cases c with
    | nan h e => omega
    | bad h e =>
      obtain ⟨e1, e2, e3⟩ := h
      refine e3 ?_
      rw [decide_eq_decide]; omega
    | infa h e =>
      rw [e] at d
      have : fl (decide (z < 0)) 9218868437227405312 = fl false 9221120237041090560 := d
      have := (fl_inj (by omega) (by omega) this).2
      omega
    | infb h e =>
      rw [e] at d
      have : fl (decide (w < 0)) 9218868437227405312 = fl false 9221120237041090560 := d
      have := (fl_inj (by omega) (by omega) this).2
      omega
    | fin h w' =>
      have hk : ∃ q, RK v.1 q := by
        rcases w' with ⟨z0, e⟩ | ⟨z0, e⟩
        · rw [e]; split <;> exact ⟨_, _, 0, by omega, rfl, rfl⟩
        · obtain ⟨q, q1, _⟩ := exF_key z0 e; exact ⟨q, q1⟩
      obtain ⟨q, s, n, hn, e, _⟩ := hk
      rw [d] at e
      have : fl false 9221120237041090560 = fl s n := e
      have := (fl_inj (by omega) (by omega) this).2
      omega
  · refine ⟨v, r, a, b, d.kz.1, d.kz.2, fun g => ?_, fun g1 g2 g3 => ?_, fun g1 g2 g3 g4 => ?_, d.rng⟩
    · rcases e with ⟨e1, e2⟩ | ⟨e1, e2, e3⟩ | ⟨e1, e2, e3⟩
      · rw [e2, ky_kf]
      · omega
      · omega
    · rcases e with ⟨e1, e2⟩ | ⟨e1, e2, e3⟩ | ⟨e1, e2, e3⟩
      · omega
      · rw [e3, ky_kf]
      · omega
    · rcases e with ⟨e1, e2⟩ | ⟨e1, e2, e3⟩ | ⟨e1, e2, e3⟩
      · omega
      · omega
      · exact e3
def addF (m z w : Int) : Int := (kz (s_Add (kf z) (kf w) m).1).getD 0
theorem addF_spec {z w : Int} (h1 : -9218868437227405312 ≤ z) (h2 : z ≤ 9218868437227405312) (h3 : -9218868437227405312 ≤ w) (h4 : w ≤ 9218868437227405312) (hc : ¬ (z = 9218868437227405312 ∧ w = -9218868437227405312)) (hd : ¬ (z = -9218868437227405312 ∧ w = 9218868437227405312)) (m : Int) : s_Add_s (kf z) (kf w) m = true ∧ Wd (s_Add (kf z) (kf w) m).1 ∧ kz (s_Add (kf z) (kf w) m).1 = some (addF m z w) ∧ AddK m z w (addF m z w) := by
  obtain ⟨v, r, t, _, a, b, c⟩ := add_kf h1 h2 h3 h4 hc hd m
  have e : s_Add (kf z) (kf w) m = v := t.1
  unfold addF; rw [e, b]; exact ⟨t.2, a, rfl, c⟩
def addI : IV → IV → IV
  | some (al, ah), some (bl, bh) => mk (addF 2 al bl) (addF 1 ah bh)
  | _, _ => none
theorem Add_is {a b : SP} {A B : IV} (hA : GI A) (hB : GI B) (ha : sp_norm a = enc A) (hb : sp_norm b = enc B) : sp_Add_s a b = true ∧ sp_Add a b = enc (addI A B) := by
  suffices h : Tr.Is (sp_Add_t a b) (enc (addI A B)) from ⟨h.2, h.1⟩
  unfold sp_Add_t sp_Add_T; rw [ha, hb]
  match A, B, hA, hB with
  | none, _, _, _ => exact Tr.is_br_t rfl (Tr.is_leaf rfl)
  | some _, none, _, _ => exact Tr.is_br_f rfl (Tr.is_br_t rfl (Tr.is_leaf rfl))
  | some (al, ah), some (bl, bh), hA, hB =>
    have p := hA _ _ rfl; have q := hB _ _ rfl
    have x := addF_spec (z := al) (w := bl) (by omega) (by omega) (by omega) (by omega) (by omega) (by omega) 2
    have y := addF_spec (z := ah) (w := bh) (by omega) (by omega) (by omega) (by omega) (by omega) (by omega) 1
    refine Tr.is_br_f rfl (Tr.is_br_f rfl (Tr.is_ast x.1 (Tr.is_ast y.1 (Tr.is_leaf ?_))))
    show sp_Make (s_Add (kf al) (kf bl) 2).1 (s_Add (kf ah) (kf bh) 1).1 = _
    rw [Make_kz x.2.1 y.2.1, x.2.2.1, y.2.2.1]; rfl
theorem Sub_is {a b : SP} {A B : IV} (hA : GI A) (hB : GI B) (ha : sp_norm a = enc A) (hb : sp_norm b = enc B) : sp_Sub_s a b = true ∧ sp_Sub a b = enc (addI A (negI B)) := by
  have n := Neg_is hB hb
  have g := GI.neg hB
  have x := Add_is hA g ha (b := sp_Neg b) (by rw [n]; exact norm_enc g)
  exact ⟨(Tr.is_ast x.1 (Tr.is_leaf x.2) : Tr.Is (sp_Sub_t a b) _).2, (Tr.is_ast x.1 (Tr.is_leaf x.2) : Tr.Is (sp_Sub_t a b) _).1⟩
end Go.Fb
namespace Go.Fb
open Go.Ev
theorem add_same {z w : Int} (h1 : -9218868437227405312 ≤ z) (h2 : z ≤ 9218868437227405312) (h3 : -9218868437227405312 ≤ w) (h4 : w ≤ 9218868437227405312) (m : Int) : r6_Add_s (kf z) (kf w) m = true ∧ r6_Add (kf z) (kf w) m = s_Add (kf z) (kf w) m := by
  obtain ⟨v, a, b, c⟩ := add_both (s := decide (z < 0)) (t := decide (w < 0)) (k := z.natAbs) (j := w.natAbs) (by omega) (by omega) m
  have e1 : s_Add (kf z) (kf w) m = v := a.1
  have e2 : r6_Add (kf z) (kf w) m = v := b.1
  exact ⟨b.2, e2.trans e1.symm⟩
theorem rAdd_is {a b : SP} {A B : IV} (hA : GI A) (hB : GI B) (ha : r16_Norm a = enc A) (hb : r16_Norm b = enc B) : r16_Add_s a b = true ∧ r16_Add a b = enc (addI A B) := by
  suffices h : Tr.Is (r16_Add_t a b) (enc (addI A B)) from ⟨h.2, h.1⟩
  unfold r16_Add_t r16_Add_T; rw [ha, hb]
  match A, B, hA, hB with
  | none, _, _, _ => exact Tr.is_br_t rfl (Tr.is_leaf rfl)
  | some _, none, _, _ => exact Tr.is_br_f rfl (Tr.is_br_t rfl (Tr.is_leaf rfl))
  | some (al, ah), some (bl, bh), hA, hB =>
    have p := hA _ _ rfl; have q := hB _ _ rfl
    have x := addF_spec (z := al) (w := bl) (by omega) (by omega) (by omega) (by omega) (by omega) (by omega) 2
    have y := addF_spec (z := ah) (w := bh) (by omega) (by omega) (by omega) (by omega) (by omega) (by omega) 1
    have s1 := add_same (z := al) (w := bl) (by omega) (by omega) (by omega) (by omega) 2
    have s2 := add_same (z := ah) (w := bh) (by omega) (by omega) (by omega) (by omega) 1
    refine Tr.is_br_f rfl (Tr.is_br_f rfl (Tr.is_ast s1.1 (Tr.is_ast s2.1 (Tr.is_leaf ?_))))
    show r16_Make (r6_Add (kf al) (kf bl) 2).1 (r6_Add (kf ah) (kf bh) 1).1 = _
    rw [s1.2, s2.2, rMake_kz x.2.1 y.2.1, x.2.2.1, y.2.2.1]; rfl
theorem SpanSums_both {a b : SP} (ha : WS a) (hb : WS b) : l_SpanSums a b = true ∧ l_SpanSums_s a b = true := by
  suffices h : Tr.Is (l_SpanSums_t a b) true from ⟨h.1, h.2⟩
  have gA := GI.nI ha; have gB := GI.nI hb
  have na := sp_norm_spec ha; have nb := sp_norm_spec hb
  have ra := r16_Norm_spec ha; have rb := r16_Norm_spec hb
  have a1 := Add_is gA gB na nb; have a2 := rAdd_is gA gB ra rb
  have s1 := Sub_is gA gB na nb
  have n2 := rNeg_is gB rb
  have s2 := rAdd_is gA (GI.neg gB) ra (b := r16_Neg b) (by rw [n2]; exact Norm_enc (GI.neg gB))
  have b1 := Abs_ws ha
  unfold l_SpanSums_t l_SpanSums_T
  refine pre16 (Tr.is_br_t works16.1 (Tr.is_ast a1.1 (Tr.is_ast a2.1 (Tr.is_br_t (sp_same (a1.2.trans a2.2.symm)) (Tr.is_ast s1.1 (Tr.is_ast s2.1 (Tr.is_br_t (sp_same (s1.2.trans s2.2.symm)) (Tr.is_br_t (sp_same ((Neg_ws ha).trans (rNeg_is gA ra).symm)) (Tr.is_ast b1.1 (Tr.is_leaf (sp_same (b1.2.trans (rAbs_ws ha).symm)))))))))))) 
theorem MulK.unique {m z w r r' : Int} (h : MulK m z w r) (g : MulK m z w r') (h1 : -9218868437227405312 ≤ z) (h2 : z ≤ 9218868437227405312) (h3 : -9218868437227405312 ≤ w) (h4 : w ≤ 9218868437227405312) : r = r' := by
  by_cases c : 0 ≤ w
  · have := h.mono g c (Int.le_refl _) h1 h2 h4; have := g.mono h c (Int.le_refl _) h1 h2 h4; omega
  · have := h.anti g (by omega) (Int.le_refl _) h1 h2 h3; have := g.anti h (by omega) (Int.le_refl _) h1 h2 h3; omega
theorem DivK.unique {m z w r r' : Int} (h : DivK m z w r) (g : DivK m z w r') (h1 : -9218868437227405312 ≤ z) (h2 : z ≤ 9218868437227405312) (h3 : 0 ≤ w) (h4 : w ≤ 9218868437227405312) : r = r' := by
  have := h.mono g h3 (Int.le_refl _) h1 h2 h4; have := g.mono h h3 (Int.le_refl _) h1 h2 h4; omega
theorem rclass_kf {z : Int} (h1 : -9218868437227405312 ≤ z) (h2 : z ≤ 9218868437227405312) : (r4_Class (kf z) == 0) = decide (z = 0) ∧ (r4_Class (kf z) == 3) = decide (z = 9218868437227405312 ∨ z = -9218868437227405312) := by
  have e : r4_Class (kf z) = p_Class (kf z) := (rclass_spec (s := decide (z < 0)) (k := z.natAbs) (by omega)).trans (class_spec (s := decide (z < 0)) (k := z.natAbs) (by omega)).symm
  rw [e]; exact ⟨zero_kf h1 h2, class3_kf h1 h2⟩
theorem times_kf {z w : Int} (h1 : -9218868437227405312 ≤ z) (h2 : z ≤ 9218868437227405312) (h3 : -9218868437227405312 ≤ w) (h4 : w ≤ 9218868437227405312) (m : Int) :
    r16_times_s (kf z) (kf w) m = true ∧ Wd (r16_times (kf z) (kf w) m) ∧ kz (r16_times (kf z) (kf w) m) = some (mulF m z w) := by
  suffices h : ∃ x r, Tr.Is (r16_times_t (kf z) (kf w) m) x ∧ Wd x ∧ kz x = some r ∧ MulK m z w r by
    obtain ⟨x, r, t, a, b, c⟩ := h
    have e : r16_times (kf z) (kf w) m = x := t.1
    rw [e, b, c.unique (mulF_spec h1 h2 h3 h4 m).2.2.2 h1 h2 h3 h4]; exact ⟨t.2, a, rfl⟩
  obtain ⟨v, a, b, c⟩ := mul_kf h1 h2 h3 h4 m
  have k0 : kz 0 = some 0 := kz_kf (z := 0) (by omega) (by omega)
  have cz := (rclass_kf h1 h2).1
  have cw := (rclass_kf h3 h4).1
  by_cases z0 : z = 0
  · exact ⟨0, 0, Tr.is_br_t (cz.trans (dt z0)) (Tr.is_leaf rfl), zero_wd, k0, fun _ => rfl, fun g => by omega, fun _ _ _ _ => by rw [z0, zv_zero, Rat.zero_mul]; exact exk_zero m, by omega⟩
  by_cases w0 : w = 0
  · exact ⟨0, 0, Tr.is_br_f (cz.trans (df z0)) (Tr.is_br_t (cw.trans (dt w0)) (Tr.is_leaf rfl)), zero_wd, k0, fun _ => rfl, fun _ g => by omega, fun _ _ _ _ => by rw [w0, zv_zero, Rat.mul_zero]; exact exk_zero m, by omega⟩
  obtain ⟨r, d, e, f⟩ := c z0 w0
  have ev : r6_Mul (kf z) (kf w) m = v := b.1
  exact ⟨v.1, r, Tr.is_br_f (cz.trans (df z0)) (Tr.is_br_f (cw.trans (df w0)) (Tr.is_ast b.2 (Tr.is_leaf (by rw [ev])))), d, e, f⟩
theorem over_kf {z w : Int} (h1 : -9218868437227405312 ≤ z) (h2 : z ≤ 9218868437227405312) (h3 : 0 ≤ w) (h4 : w ≤ 9218868437227405312) (m : Int) :
    r16_over_s (kf z) (kf w) m = true ∧ Wd (r16_over (kf z) (kf w) m) ∧ kz (r16_over (kf z) (kf w) m) = some (divF m z w) := by
  suffices h : ∃ x r, Tr.Is (r16_over_t (kf z) (kf w) m) x ∧ Wd x ∧ kz x = some r ∧ DivK m z w r by
    obtain ⟨x, r, t, a, b, c⟩ := h
    have e : r16_over (kf z) (kf w) m = x := t.1
    rw [e, b, c.unique (divF_spec h1 h2 h3 h4 m).2.2.2 h1 h2 h3 h4]; exact ⟨t.2, a, rfl⟩
  have k0 : kz 0 = some 0 := kz_kf (z := 0) (by omega) (by omega)
  have cz := (rclass_kf h1 h2).1
  have iz := (rclass_kf h1 h2).2
  have sg := sign_kf h1 h2
  have cw : (kf w == 0) = decide (w = 0) := by rw [← kf0]; exact kf_eq (by omega) (by omega) (by omega) (by omega)
  have iw : (kf w == 9218868437227405312) = decide (w = 9218868437227405312) := by rw [pinf_kf]; exact kf_eq (by omega) (by omega) (by omega) (by omega)
  have R : -9218868437227405312 ≤ (if 0 < z then 9218868437227405312 else -9218868437227405312 : Int) ∧ (if 0 < z then 9218868437227405312 else -9218868437227405312 : Int) ≤ 9218868437227405312 := by split <;> omega
  -- both branches of the sign are alike
  have both : ∀ {x far : Int}, (z ≠ 0 → far = kf (if 0 < z then 9218868437227405312 else -9218868437227405312)) → Tr.Is (.br (r4_Class (kf z) == 0) (.leaf 0) (.br (r4_Class (kf z) == 3) (.leaf far) (.br (kf w == 0) (.leaf far) (.br (kf w == 9218868437227405312) (.leaf 0) (.ast (r6_Div_s (kf z) (kf w) m) (.leaf (r6_Div (kf z) (kf w) m).fst)))))) x →
      ∃ r, Wd x ∧ kz x = some r ∧ DivK m z w r := by
    intro x far hf t
    by_cases z0 : z = 0
    · have e : Tr.Is _ (0 : Int) := Tr.is_br_t (e := .br (r4_Class (kf z) == 3) (.leaf far) (.br (kf w == 0) (.leaf far) (.br (kf w == 9218868437227405312) (.leaf 0) (.ast (r6_Div_s (kf z) (kf w) m) (.leaf (r6_Div (kf z) (kf w) m).fst))))) (cz.trans (dt z0)) (Tr.is_leaf rfl)
      have : x = 0 := t.1.symm.trans e.1
      rw [this]; exact ⟨0, zero_wd, k0, fun _ => rfl, fun _ _ _ => rfl, fun g => by omega, fun g => by omega, by omega⟩
    have hf := hf z0
    have fin : ∀ {y : Int}, Tr.Is (.br (r4_Class (kf z) == 0) (.leaf 0) (.br (r4_Class (kf z) == 3) (.leaf far) (.br (kf w == 0) (.leaf far) (.br (kf w == 9218868437227405312) (.leaf 0) (.ast (r6_Div_s (kf z) (kf w) m) (.leaf (r6_Div (kf z) (kf w) m).fst)))))) y → x = y := fun e => t.1.symm.trans e.1
    by_cases zi : z = 9218868437227405312 ∨ z = -9218868437227405312
    · have := fin (Tr.is_br_f (cz.trans (df z0)) (Tr.is_br_t (iz.trans (dt zi)) (Tr.is_leaf hf)))
      rw [this]; exact ⟨_, kf_wd R.1 R.2, kz_kf R.1 R.2, fun g => by omega, fun g => by omega, fun _ _ => rfl, fun g => by omega, R⟩
    by_cases w0 : w = 0
    · have := fin (Tr.is_br_f (cz.trans (df z0)) (Tr.is_br_f (iz.trans (df zi)) (Tr.is_br_t (cw.trans (dt w0)) (Tr.is_leaf hf))))
      rw [this]; exact ⟨_, kf_wd R.1 R.2, kz_kf R.1 R.2, fun g => by omega, fun g => by omega, fun _ _ => rfl, fun g => by omega, R⟩
    by_cases w1 : w = 9218868437227405312
    · have := fin (Tr.is_br_f (cz.trans (df z0)) (Tr.is_br_f (iz.trans (df zi)) (Tr.is_br_f (cw.trans (df w0)) (Tr.is_br_t (iw.trans (dt w1)) (Tr.is_leaf rfl)))))
      rw [this]; exact ⟨0, zero_wd, k0, fun _ => rfl, fun _ _ _ => rfl, fun _ g => by omega, fun g => by omega, by omega⟩
    obtain ⟨v, r, a, b, c, d, e⟩ := div_kf (z := z) (w := w) z0 (by omega) (by omega) (by omega) (by omega) m
    have ev : r6_Div (kf z) (kf w) m = v := b.1
    have := fin (Tr.is_br_f (cz.trans (df z0)) (Tr.is_br_f (iz.trans (df zi)) (Tr.is_br_f (cw.trans (df w0)) (Tr.is_br_f (iw.trans (df w1)) (Tr.is_ast b.2 (Tr.is_leaf (by rw [ev])))))))
    rw [this]; exact ⟨r, c, d, fun g => by omega, fun g => by omega, fun _ g => by omega, fun _ _ _ _ _ => e, exk_rng e⟩
  have safe : ∀ far : Int, Tr.safe (.br (r4_Class (kf z) == 0) (.leaf 0) (.br (r4_Class (kf z) == 3) (.leaf far) (.br (kf w == 0) (.leaf far) (.br (kf w == 9218868437227405312) (.leaf 0) (.ast (r6_Div_s (kf z) (kf w) m) (.leaf (r6_Div (kf z) (kf w) m).fst)))))) = true := fun far => by
    have hs : r6_Div_s (kf z) (kf w) m = true := by
      obtain ⟨v, a, b, c⟩ := div_both (s := decide (z < 0)) (t := decide (w < 0)) (k := z.natAbs) (j := w.natAbs) (by omega) (by omega) m
      exact b.2
    cases r4_Class (kf z) == 0 <;> cases r4_Class (kf z) == 3 <;> cases kf w == 0 <;> cases kf w == 9218868437227405312 <;> simp [Tr.safe, hs]
  by_cases hz : z < 0
  · have t : Tr.Is _ _ := ⟨rfl, safe 18442240474082181120⟩
    obtain ⟨r, q⟩ := both (fun _ => by rw [if_neg (by omega)]; rfl) t
    exact ⟨_, r, Tr.is_br_t (sg.trans (dt hz)) t, q⟩
  · have t : Tr.Is _ _ := ⟨rfl, safe 9218868437227405312⟩
    obtain ⟨r, q⟩ := both (fun z0 => by rw [if_pos (by omega)]; rfl) t
    exact ⟨_, r, Tr.is_br_f (sg.trans (df hz)) t, q⟩
theorem lesser_kz {x y X Y : Int} (hx : Wd x) (hy : Wd y) (kx : kz x = some X) (ky : kz y = some Y) : Wd (r16_lesser x y) ∧ kz (r16_lesser x y) = some (min X Y) := by
  have l := le_kz hx hy
  rw [kx, ky] at l
  by_cases c : X ≤ Y
  · have : r16_lesser x y = x := (Tr.is_br_t (l.trans (dt c)) (Tr.is_leaf rfl) : Tr.Is (r16_lesser_t x y) x).1
    rw [this, Int.min_eq_left c]; exact ⟨hx, kx⟩
  · have : r16_lesser x y = y := (Tr.is_br_f (l.trans (df c)) (Tr.is_leaf rfl) : Tr.Is (r16_lesser_t x y) y).1
    rw [this, Int.min_eq_right (by omega)]; exact ⟨hy, ky⟩
theorem greater_kz {x y X Y : Int} (hx : Wd x) (hy : Wd y) (kx : kz x = some X) (ky : kz y = some Y) : Wd (r16_greater x y) ∧ kz (r16_greater x y) = some (max X Y) := by
  have l := le_kz hx hy
  rw [kx, ky] at l
  by_cases c : X ≤ Y
  · have : r16_greater x y = y := (Tr.is_br_t (l.trans (dt c)) (Tr.is_leaf rfl) : Tr.Is (r16_greater_t x y) y).1
    rw [this, Int.max_eq_right c]; exact ⟨hy, ky⟩
  · have : r16_greater x y = x := (Tr.is_br_f (l.trans (df c)) (Tr.is_leaf rfl) : Tr.Is (r16_greater_t x y) x).1
    rw [this, Int.max_eq_left (by omega)]; exact ⟨hx, kx⟩
theorem joinI_min (l h l' h' : Int) : joinI (some (l, h)) (some (l', h')) = some (min l l', max h h') := by
  show some _ = _
  congr 2
  · split <;> omega
theorem KI_min {d u : Int} (h : d ≤ 9218868437227405312) (g : -9218868437227405312 ≤ u) : KI d u = some (min d 9218868437227405311, max u (-9218868437227405311)) := by
  unfold KI cl ch
  congr 2
  · split <;> omega
  · split <;> omega
/-- the least and the greatest of what comes of four corners are the corners' span -/
theorem four {f1 f2 f3 f4 g1 g2 g3 g4 : Int} (p1 : -9218868437227405312 ≤ f1 ∧ f1 ≤ g1 ∧ g1 ≤ 9218868437227405312) (p2 : -9218868437227405312 ≤ f2 ∧ f2 ≤ g2 ∧ g2 ≤ 9218868437227405312) (p3 : -9218868437227405312 ≤ f3 ∧ f3 ≤ g3 ∧ g3 ≤ 9218868437227405312) (p4 : -9218868437227405312 ≤ f4 ∧ f4 ≤ g4 ∧ g4 ≤ 9218868437227405312)
    (hf : ¬ (f1 = 9218868437227405312 ∧ f2 = 9218868437227405312 ∧ f3 = 9218868437227405312 ∧ f4 = 9218868437227405312)) (hg : ¬ (g1 = -9218868437227405312 ∧ g2 = -9218868437227405312 ∧ g3 = -9218868437227405312 ∧ g4 = -9218868437227405312)) :
    mk (min (min (min (min 9218868437227405312 f1) f2) f3) f4) (max (max (max (max (-9218868437227405312) g1) g2) g3) g4) = joinI (joinI (joinI (KI f1 g1) (KI f2 g2)) (KI f3 g3)) (KI f4 g4) := by
  rw [KI_min (by omega) (by omega), KI_min (by omega) (by omega), KI_min (by omega) (by omega), KI_min (by omega) (by omega), joinI_min, joinI_min, joinI_min]
  rw [mk_of ⟨by omega, by omega, by omega, by omega, by omega⟩]
  congr 2
  · omega
  · omega
end Go.Fb
namespace Go.Fb
open Go.Ev
theorem rMul_is {a b : SP} {A B : IV} (hA : GI A) (hB : GI B) (ha : r16_Norm a = enc A) (hb : r16_Norm b = enc B) : r16_Mul_s a b = true ∧ r16_Mul a b = enc (mulI A B) := by
  suffices h : Tr.Is (r16_Mul_t a b) (enc (mulI A B)) from ⟨h.2, h.1⟩
  unfold r16_Mul_t r16_Mul_T; rw [ha, hb]
  match A, B, hA, hB with
  | none, _, _, _ => exact Tr.is_br_t rfl (Tr.is_leaf rfl)
  | some _, none, _, _ => exact Tr.is_br_f rfl (Tr.is_br_t rfl (Tr.is_leaf rfl))
  | some (al, ah), some (bl, bh), hA, hB =>
    have p := hA _ _ rfl; have q := hB _ _ rfl
    have t := fun z w m (a : al ≤ z) (b : z ≤ ah) (c : bl ≤ w) (d : w ≤ bh) => times_kf (z := z) (w := w) (by omega) (by omega) (by omega) (by omega) m
    have B : Box (mulF 2) (mulF 1) al ah bl bh := mul_box (by omega) (by omega) (by omega) (by omega)
    have s := fun z w m (a : al ≤ z) (b : z ≤ ah) (c : bl ≤ w) (d : w ≤ bh) => (mulF_spec (z := z) (w := w) (by omega) (by omega) (by omega) (by omega) m).2.2.2
    have l1 := Int.le_refl al; have l2 := Int.le_refl ah; have l3 := Int.le_refl bl; have l4 := Int.le_refl bh
    have d11 := t al bl 2 l1 p.1 l3 q.1; have u11 := t al bl 1 l1 p.1 l3 q.1
    have d12 := t al bh 2 l1 p.1 q.1 l4; have u12 := t al bh 1 l1 p.1 q.1 l4
    have d21 := t ah bl 2 p.1 l2 l3 q.1; have u21 := t ah bl 1 p.1 l2 l3 q.1
    have d22 := t ah bh 2 p.1 l2 q.1 l4; have u22 := t ah bh 1 p.1 l2 q.1 l4
    refine Tr.is_br_f rfl (Tr.is_br_f rfl (Tr.is_ast d11.1 (Tr.is_ast u11.1 (Tr.is_ast d12.1 (Tr.is_ast u12.1 (Tr.is_ast d21.1 (Tr.is_ast u21.1 (Tr.is_ast d22.1 (Tr.is_ast u22.1 (Tr.is_leaf ?_))))))))))
    have x1 := lesser_kz wp_inf d11.2.1 kp_inf d11.2.2
    have x2 := lesser_kz x1.1 d12.2.1 x1.2 d12.2.2
    have x3 := lesser_kz x2.1 d21.2.1 x2.2 d21.2.2
    have x4 := lesser_kz x3.1 d22.2.1 x3.2 d22.2.2
    have y1 := greater_kz wn_inf u11.2.1 kn_inf u11.2.2
    have y2 := greater_kz y1.1 u12.2.1 y1.2 u12.2.2
    have y3 := greater_kz y2.1 u21.2.1 y2.2 u21.2.2
    have y4 := greater_kz y3.1 u22.2.1 y3.2 u22.2.2
    refine (rMake_kz x4.1 y4.1).trans ?_
    rw [x4.2, y4.2]
    show enc (mk _ _) = enc (corn (mulF 2) (mulF 1) al ah bl bh)
    rw [four (B.r al bl l1 p.1 l3 q.1) (B.r al bh l1 p.1 q.1 l4) (B.r ah bl p.1 l2 l3 q.1) (B.r ah bh p.1 l2 q.1 l4) ?_ ?_]
    · rfl
    · rintro ⟨e1, e2, e3, e4⟩
      have f1 := (s al bl 2 l1 p.1 l3 q.1).down (by omega) (by omega) (by omega) (by omega) e1
      have f2 := (s al bh 2 l1 p.1 q.1 l4).down (by omega) (by omega) (by omega) (by omega) e2
      have f3 := (s ah bl 2 p.1 l2 l3 q.1).down (by omega) (by omega) (by omega) (by omega) e3
      have f4 := (s ah bh 2 p.1 l2 q.1 l4).down (by omega) (by omega) (by omega) (by omega) e4
      omega
    · rintro ⟨e1, e2, e3, e4⟩
      have f1 := (s al bl 1 l1 p.1 l3 q.1).up (by omega) (by omega) (by omega) (by omega) e1
      have f2 := (s al bh 1 l1 p.1 q.1 l4).up (by omega) (by omega) (by omega) (by omega) e2
      have f3 := (s ah bl 1 p.1 l2 l3 q.1).up (by omega) (by omega) (by omega) (by omega) e3
      have f4 := (s ah bh 1 p.1 l2 q.1 l4).up (by omega) (by omega) (by omega) (by omega) e4
      omega
theorem rabove_is {al ah bl bh : Int} (hA : GI (some (al, ah))) (h0 : 0 ≤ bl) (h1 : bl ≤ bh) (h2 : bh ≤ 9218868437227405312) (h3 : 0 < bh) : r16_above_s (enc (some (al, ah))) (kf bl) (kf bh) = true ∧ r16_above (enc (some (al, ah))) (kf bl) (kf bh) = enc (corn (divF 2) (divF 1) al ah bl bh) := by
  suffices h : Tr.Is (r16_above_t (enc (some (al, ah))) (kf bl) (kf bh)) (enc (corn (divF 2) (divF 1) al ah bl bh)) from ⟨h.2, h.1⟩
  have p := hA _ _ rfl
  have t := fun z w m (a : al ≤ z) (b : z ≤ ah) (c : bl ≤ w) (d : w ≤ bh) => over_kf (z := z) (w := w) (by omega) (by omega) (by omega) (by omega) m
  have B : Box (divF 2) (divF 1) al ah bl bh := div_box (by omega) (by omega) (by omega) (by omega)
  have s := fun z w m (a : al ≤ z) (b : z ≤ ah) (c : bl ≤ w) (d : w ≤ bh) => (divF_spec (z := z) (w := w) (by omega) (by omega) (by omega) (by omega) m).2.2.2
  have l1 := Int.le_refl al; have l2 := Int.le_refl ah; have l3 := Int.le_refl bl; have l4 := Int.le_refl bh
  have d11 := t al bl 2 l1 p.1 l3 h1; have u11 := t al bl 1 l1 p.1 l3 h1
  have d12 := t al bh 2 l1 p.1 h1 l4; have u12 := t al bh 1 l1 p.1 h1 l4
  have d21 := t ah bl 2 p.1 l2 l3 h1; have u21 := t ah bl 1 p.1 l2 l3 h1
  have d22 := t ah bh 2 p.1 l2 h1 l4; have u22 := t ah bh 1 p.1 l2 h1 l4
  refine Tr.is_ast d11.1 (Tr.is_ast u11.1 (Tr.is_ast d12.1 (Tr.is_ast u12.1 (Tr.is_ast d21.1 (Tr.is_ast u21.1 (Tr.is_ast d22.1 (Tr.is_ast u22.1 (Tr.is_leaf ?_))))))))
  have x1 := lesser_kz wp_inf d11.2.1 kp_inf d11.2.2
  have x2 := lesser_kz x1.1 d12.2.1 x1.2 d12.2.2
  have x3 := lesser_kz x2.1 d21.2.1 x2.2 d21.2.2
  have x4 := lesser_kz x3.1 d22.2.1 x3.2 d22.2.2
  have y1 := greater_kz wn_inf u11.2.1 kn_inf u11.2.2
  have y2 := greater_kz y1.1 u12.2.1 y1.2 u12.2.2
  have y3 := greater_kz y2.1 u21.2.1 y2.2 u21.2.2
  have y4 := greater_kz y3.1 u22.2.1 y3.2 u22.2.2
  refine (rMake_kz x4.1 y4.1).trans ?_
  rw [x4.2, y4.2]
  show enc (mk _ _) = enc (corn (divF 2) (divF 1) al ah bl bh)
  rw [four (B.r al bl l1 p.1 l3 h1) (B.r al bh l1 p.1 h1 l4) (B.r ah bl p.1 l2 l3 h1) (B.r ah bh p.1 l2 h1 l4) ?_ ?_]
  · rfl
  · rintro ⟨e1, e2, e3, e4⟩
    have f2 := (s al bh 2 l1 p.1 h1 l4).down (by omega) (by omega) (by omega) (by omega) e2
    omega
  · rintro ⟨e1, e2, e3, e4⟩
    have f4 := (s ah bh 1 p.1 l2 h1 l4).up (by omega) (by omega) (by omega) (by omega) e4
    omega
theorem minus_kf {z : Int} (h0 : z ≠ 0) (h : -9218868437227405312 ≤ z) (g : z ≤ 9218868437227405312) : r16_minus (kf z) = kf (-z) := by
  rw [(neg_kf h g).2.2]
  unfold kf
  rw [neg_fl (by omega), Int.natAbs_neg]
  congr 1
  rw [Bool.eq_iff_iff]; simp only [Bool.not_eq_true', decide_eq_false_iff_not, decide_eq_true_eq]; omega
theorem flip_kf {z : Int} (h : -9218868437227405312 ≤ z) (g : z ≤ 9218868437227405312) : r16_flip (kf z) = kf (-z) := by
  suffices hh : Tr.Is (r16_flip_t (kf z)) (kf (-z)) from hh.1
  have c := (rclass_kf h g).1
  by_cases z0 : z = 0
  · exact Tr.is_br_t (c.trans (dt z0)) (Tr.is_leaf (by rw [z0]; rfl))
  · exact Tr.is_br_f (c.trans (df z0)) (Tr.is_leaf (minus_kf z0 h g))
theorem rNeg_enc {A : IV} (hA : GI A) : r16_Neg (enc A) = enc (negI A) := rNeg_is hA (Norm_enc hA)
theorem rJoin_enc {A B : IV} (hA : GI A) (hB : GI B) : r16_Join (enc A) (enc B) = enc (joinI A B) := by
  have := rJoin_ws (enc_ws hA) (enc_ws hB); rwa [nI_enc hA, nI_enc hB] at this
theorem rDiv_is {a b : SP} {A B : IV} (hA : GI A) (hB : GI B) (ha : r16_Norm a = enc A) (hb : r16_Norm b = enc B) : r16_Div_s a b = true ∧ r16_Div a b = enc (divI A B) := by
  suffices h : Tr.Is (r16_Div_t a b) (enc (divI A B)) from ⟨h.2, h.1⟩
  unfold r16_Div_t r16_Div_T; rw [ha, hb]
  match A, B, hA, hB with
  | none, B, _, _ =>
    refine Tr.is_br_t rfl (Tr.is_leaf ?_)
    show enc none = enc (divI none B)
    unfold divI
    have e : ∀ X, aboveI none X = none := fun X => by cases X <;> rfl
    rw [e, e]; rfl
  | some _, none, _, _ => exact Tr.is_br_f rfl (Tr.is_br_t rfl (Tr.is_leaf rfl))
  | some (al, ah), some (bl, bh), hA, hB =>
    have p := hA _ _ rfl; have q := hB _ _ rfl
    refine Tr.is_br_f rfl (Tr.is_br_f rfl ?_)
    have le1 : r16_le (enc (some (bl, bh))).hi 0 = decide (bh ≤ 0) := by
      show r16_le (kf bh) 0 = _; rw [← kf0]; exact le_kf (by omega) (by omega) (by omega) (by omega)
    have le2 : r16_le (enc (some (bl, bh))).lo 0 = decide (bl ≤ 0) := by
      show r16_le (kf bl) 0 = _; rw [← kf0]; exact le_kf (by omega) (by omega) (by omega) (by omega)
    have le3 : r16_le 0 (enc (some (bl, bh))).lo = decide (0 ≤ bl) := by
      show r16_le 0 (kf bl) = _; rw [← kf0]; exact le_kf (by omega) (by omega) (by omega) (by omega)
    have le4 : r16_le 0 (enc (some (bl, bh))).hi = decide (0 ≤ bh) := by
      show r16_le 0 (kf bh) = _; rw [← kf0]; exact le_kf (by omega) (by omega) (by omega) (by omega)
    rw [le1, le2, le3, le4]
    have gaP := aboveI_good hA (posI_good hB) fun _ _ e => (posI_lo e).1
    have gaN := aboveI_good hA (posI_good (GI.neg hB)) fun _ _ e => (posI_lo e).1
    have eP : 0 < bh → aboveI (some (al, ah)) (posI (some (bl, bh))) = corn (divF 2) (divF 1) al ah (if bl ≤ 0 then 0 else bl) bh := fun c => by rw [posI_some, if_pos c]; rfl
    have eN : bl < 0 → aboveI (some (al, ah)) (posI (negI (some (bl, bh)))) = corn (divF 2) (divF 1) al ah (if -bh ≤ 0 then 0 else -bh) (-bl) := fun c => by
      show aboveI (some (al, ah)) (posI (some (-bh, -bl))) = _
      rw [posI_some, if_pos (show 0 < -bl by omega)]; rfl
    have nP : ¬ 0 < bh → posI (some (bl, bh)) = none := fun c => if_neg c
    have nN : ¬ bl < 0 → posI (negI (some (bl, bh))) = none := fun c => if_neg (by omega)
    have f0 : r16_flip 0 = kf 0 := by rw [← kf0]; exact flip_kf (z := 0) (by omega) (by omega)
    -- the part above nought
    have P1 : 0 < bh → bl ≤ 0 → r16_above_s (enc (some (al, ah))) 0 (enc (some (bl, bh))).hi = true ∧ r16_above (enc (some (al, ah))) 0 (enc (some (bl, bh))).hi = enc (aboveI (some (al, ah)) (posI (some (bl, bh)))) := fun c d => by
      rw [eP c, if_pos d]; exact rabove_is hA (Int.le_refl 0) (by omega) (by omega) c
    have P2 : 0 < bh → ¬ bl ≤ 0 → r16_above_s (enc (some (al, ah))) (enc (some (bl, bh))).lo (enc (some (bl, bh))).hi = true ∧ r16_above (enc (some (al, ah))) (enc (some (bl, bh))).lo (enc (some (bl, bh))).hi = enc (aboveI (some (al, ah)) (posI (some (bl, bh)))) := fun c d => by
      rw [eP c, if_neg d]; exact rabove_is hA (by omega) (by omega) (by omega) c
    -- the part below
    have mi : bl < 0 → r16_minus (enc (some (bl, bh))).lo = kf (-bl) := fun c => minus_kf (z := bl) (by omega) (by omega) (by omega)
    have fl' : r16_flip (enc (some (bl, bh))).hi = kf (-bh) := flip_kf (z := bh) (by omega) (by omega)
    have N1 : bl < 0 → 0 ≤ bh → r16_above_s (enc (some (al, ah))) (r16_flip 0) (r16_minus (enc (some (bl, bh))).lo) = true ∧ r16_above (enc (some (al, ah))) (r16_flip 0) (r16_minus (enc (some (bl, bh))).lo) = enc (aboveI (some (al, ah)) (posI (negI (some (bl, bh))))) := fun c d => by
      rw [eN c, if_pos (by omega), f0, mi c]; exact rabove_is hA (Int.le_refl 0) (by omega) (by omega) (by omega)
    have N2 : bl < 0 → ¬ 0 ≤ bh → r16_above_s (enc (some (al, ah))) (r16_flip (enc (some (bl, bh))).hi) (r16_minus (enc (some (bl, bh))).lo) = true ∧ r16_above (enc (some (al, ah))) (r16_flip (enc (some (bl, bh))).hi) (r16_minus (enc (some (bl, bh))).lo) = enc (aboveI (some (al, ah)) (posI (negI (some (bl, bh))))) := fun c d => by
      rw [eN c, if_neg (by omega), fl', mi c]; exact rabove_is hA (by omega) (by omega) (by omega) (by omega)
    have jn : ∀ {x y : SP}, x = enc (aboveI (some (al, ah)) (posI (some (bl, bh)))) → y = enc (aboveI (some (al, ah)) (posI (negI (some (bl, bh))))) → r16_Join x (r16_Neg y) = enc (divI (some (al, ah)) (some (bl, bh))) := fun hx hy => by
      rw [hx, hy, rNeg_enc gaN, rJoin_enc gaP (GI.neg gaN)]; rfl
    by_cases d1 : 0 < bh
    · refine Tr.is_br_t (by rw [df (by omega)]; rfl) ?_
      by_cases d0 : bl ≤ 0
      · refine Tr.is_br_t (dt d0) (Tr.is_ast (P1 d1 d0).1 ?_)
        by_cases d2 : bl < 0
        · exact Tr.is_br_t (by rw [df (by omega)]; rfl) (Tr.is_br_t (dt (by omega)) (Tr.is_ast (N1 d2 (by omega)).1 (Tr.is_leaf (jn (P1 d1 d0).2 (N1 d2 (by omega)).2))))
        · refine Tr.is_br_f (by rw [dt (by omega)]; rfl) (Tr.is_leaf ?_)
          rw [(P1 d1 d0).2]; unfold divI; rw [nN d2]
          show _ = enc (joinI (aboveI (some (al, ah)) (posI (some (bl, bh)))) none)
          cases aboveI (some (al, ah)) (posI (some (bl, bh))) <;> rfl
      · refine Tr.is_br_f (df d0) (Tr.is_ast (P2 d1 d0).1 (Tr.is_br_f (by rw [dt (by omega)]; rfl) (Tr.is_leaf ?_)))
        rw [(P2 d1 d0).2]; unfold divI; rw [nN (by omega)]
        show _ = enc (joinI (aboveI (some (al, ah)) (posI (some (bl, bh)))) none)
        cases aboveI (some (al, ah)) (posI (some (bl, bh))) <;> rfl
    · refine Tr.is_br_f (by rw [dt (by omega)]; rfl) ?_
      have e0 : SP.mk true 0 0 = enc (aboveI (some (al, ah)) (posI (some (bl, bh)))) := by rw [nP d1]; rfl
      by_cases d2 : bl < 0
      · refine Tr.is_br_t (by rw [df (by omega)]; rfl) ?_
        by_cases d3 : 0 ≤ bh
        · exact Tr.is_br_t (dt d3) (Tr.is_ast (N1 d2 d3).1 (Tr.is_leaf (jn e0 (N1 d2 d3).2)))
        · exact Tr.is_br_f (df d3) (Tr.is_ast (N2 d2 d3).1 (Tr.is_leaf (jn e0 (N2 d2 d3).2)))
      · refine Tr.is_br_f (by rw [dt (by omega)]; rfl) (Tr.is_leaf ?_)
        unfold divI; rw [nP d1, nN d2]; rfl
theorem SpanProducts_both {a b : SP} (ha : WS a) (hb : WS b) : l_SpanProducts a b = true ∧ l_SpanProducts_s a b = true := by
  suffices h : Tr.Is (l_SpanProducts_t a b) true from ⟨h.1, h.2⟩
  have gA := GI.nI ha; have gB := GI.nI hb
  have na := sp_norm_spec ha; have nb := sp_norm_spec hb
  have ra := r16_Norm_spec ha; have rb := r16_Norm_spec hb
  have p1 := Mul_is gA gB na nb; have p2 := rMul_is gA gB ra rb
  have q1 := Div_is gA gB na nb; have q2 := rDiv_is gA gB ra rb
  unfold l_SpanProducts_t l_SpanProducts_T
  exact pre16 (Tr.is_br_t works16.1 (Tr.is_ast p1.1 (Tr.is_ast p2.1 (Tr.is_br_t (sp_same (p1.2.trans p2.2.symm)) (Tr.is_ast q1.1 (Tr.is_ast q2.1 (Tr.is_leaf (sp_same (q1.2.trans q2.2.symm)))))))))
end Go.Fb
