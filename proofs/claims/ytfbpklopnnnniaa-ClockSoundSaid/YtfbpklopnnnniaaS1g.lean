/- Contracts and laws of functions of the program, on the way to the claim. Conditions: as each theorem states. -/
import Derived.Test.YtfbpklopnnnniaaS1f
namespace Go.Proofs.Ytfbpklopnnnniaa
open Go.Ev Go.Fb

/-! ### Products of ends -/
def tm (x y : Int) : Int := clip (x * y)
theorem abs_le_div {X Y : Int} (hY : 0 < Y) : X ≤ 1099511627776 / Y ↔ X * Y ≤ 1099511627776 := Int.le_ediv_iff_mul_le hY
theorem times_eq {x y : Int} (hx : Rg x) (hy : Rg y) : ints_times x y = tm x y := by
  unfold Rg at hx hy
  simp only [ints_times, ints_times_t, ints_times_T, Tr.val]
  by_cases h1 : x = 0
  · subst h1; simp [tm, clip]; omega
  by_cases h2 : y = 0
  · subst h2; simp [tm, clip]; omega
  have b1 : (x == 0) = false := beq_eq_false_iff_ne.2 h1
  have b2 : (y == 0) = false := beq_eq_false_iff_ne.2 h2
  rw [b1, b2, abs_small hx.1 hx.2, abs_small hy.1 hy.2]
  simp only [cond_false]
  have hY : 0 < max y (-y) := by omega
  have hq : Int.tdiv 1099511627776 (max y (-y)) = 1099511627776 / max y (-y) := Int.tdiv_eq_ediv_of_nonneg (by decide)
  have hq0 : 0 ≤ 1099511627776 / max y (-y) := Int.ediv_nonneg (by decide) (by omega)
  have hq1 : 1099511627776 / max y (-y) ≤ 1099511627776 := Int.ediv_le_self _ (by decide)
  rw [hq, w64 (by omega) (by omega)]
  have hab : max x (-x) * max y (-y) = x * y ∧ (0 < x ∧ 0 < y ∨ x < 0 ∧ y < 0) ∨ max x (-x) * max y (-y) = -(x * y) ∧ (0 < x ∧ y < 0 ∨ x < 0 ∧ 0 < y) := by
    rcases Int.lt_or_lt_of_ne h1 with hx0 | hx0 <;> rcases Int.lt_or_lt_of_ne h2 with hy0 | hy0
    · left
      rw [show max x (-x) = -x by omega, show max y (-y) = -y by omega, Int.neg_mul_neg]
      exact ⟨rfl, .inr ⟨hx0, hy0⟩⟩
    · right
      rw [show max x (-x) = -x by omega, show max y (-y) = y by omega, Int.neg_mul]
      exact ⟨rfl, .inr ⟨hx0, hy0⟩⟩
    · right
      rw [show max x (-x) = x by omega, show max y (-y) = -y by omega, Int.mul_neg]
      exact ⟨rfl, .inl ⟨hx0, hy0⟩⟩
    · left
      rw [show max x (-x) = x by omega, show max y (-y) = y by omega]
      exact ⟨rfl, .inl ⟨hx0, hy0⟩⟩
  have hpos : 0 < max x (-x) * max y (-y) := Int.mul_pos (by omega) hY
  have hdec : decide (max x (-x) ≤ 1099511627776 / max y (-y)) = decide (max x (-x) * max y (-y) ≤ 1099511627776) := by
    rw [decide_eq_decide]; exact abs_le_div hY
  rw [hdec]
  generalize max x (-x) * max y (-y) = p at *
  unfold tm clip
  generalize x * y = q at *
  by_cases hp : p ≤ 1099511627776
  · rw [decide_eq_true hp]
    simp only [cond_true]
    rw [w64 (by omega) (by omega)]
    omega
  · rw [decide_eq_false hp]
    simp only [cond_false]
    rcases hab with ⟨he, hs | hs⟩ | ⟨he, hs | hs⟩
    · rw [decide_eq_false (show ¬ x < 0 by omega), decide_eq_false (show ¬ y < 0 by omega)]
      simp only [beq_self_eq_true, Bool.not_true, cond_false]; omega
    · rw [decide_eq_true hs.1, decide_eq_true hs.2]
      simp only [beq_self_eq_true, Bool.not_true, cond_false]; omega
    · rw [decide_eq_false (show ¬ x < 0 by omega), decide_eq_true hs.2]
      show (-1099511627776 : Int) = _; omega
    · rw [decide_eq_true hs.1, decide_eq_false (show ¬ y < 0 by omega)]
      show (-1099511627776 : Int) = _; omega

/-! ### Hulls of lists -/
def mn (l : List Int) : Int := l.foldl min 1099511627776
def mx (l : List Int) : Int := l.foldl max (-1099511627776)
theorem foldl_min_le : ∀ (l : List Int) (a : Int), l.foldl min a ≤ a ∧ ∀ p ∈ l, l.foldl min a ≤ p
  | [], a => ⟨Int.le_refl _, fun p h => by cases h⟩
  | x :: l, a => by
    obtain ⟨h1, h2⟩ := foldl_min_le l (min a x)
    simp only [List.foldl_cons]
    refine ⟨by omega, fun p hp => ?_⟩
    rcases List.mem_cons.1 hp with rfl | hp
    · omega
    · exact h2 p hp
theorem le_foldl_min : ∀ (l : List Int) (a m : Int), m ≤ a → (∀ p ∈ l, m ≤ p) → m ≤ l.foldl min a
  | [], a, m, h, _ => h
  | x :: l, a, m, h, hl => by
    simp only [List.foldl_cons]
    exact le_foldl_min l _ _ (by have := hl x (by simp); omega) fun p hp => hl p (by simp [hp])
theorem le_foldl_max : ∀ (l : List Int) (a : Int), a ≤ l.foldl max a ∧ ∀ p ∈ l, p ≤ l.foldl max a
  | [], a => ⟨Int.le_refl _, fun p h => by cases h⟩
  | x :: l, a => by
    obtain ⟨h1, h2⟩ := le_foldl_max l (max a x)
    simp only [List.foldl_cons]
    refine ⟨by omega, fun p hp => ?_⟩
    rcases List.mem_cons.1 hp with rfl | hp
    · omega
    · exact h2 p hp
theorem foldl_max_le : ∀ (l : List Int) (a m : Int), a ≤ m → (∀ p ∈ l, p ≤ m) → l.foldl max a ≤ m
  | [], a, m, h, _ => h
  | x :: l, a, m, h, hl => by
    simp only [List.foldl_cons]
    exact foldl_max_le l _ _ (by have := hl x (by simp); omega) fun p hp => hl p (by simp [hp])
def hl (l : List Int) : I3 := ⟨false, min (clip (mn l)) 1099511627775, max (clip (mx l)) (-1099511627775)⟩
/-- between two of a list -/
def Bt (l : List Int) (v : Int) : Prop := (∃ p ∈ l, p ≤ v) ∧ ∃ q ∈ l, v ≤ q
theorem clip_mono {x y : Int} (h : x ≤ y) : clip x ≤ clip y := by unfold clip; omega
theorem mn_le {l l' : List Int} (h : ∀ v ∈ l, Bt l' v) : mn l' ≤ mn l := by
  refine le_foldl_min l _ _ (foldl_min_le l' _).1 fun v hv => ?_
  obtain ⟨⟨p, hp, hpv⟩, _⟩ := h v hv
  exact Int.le_trans ((foldl_min_le l' _).2 p hp) hpv
theorem mx_le {l l' : List Int} (h : ∀ v ∈ l, Bt l' v) : mx l ≤ mx l' := by
  refine foldl_max_le l _ _ (le_foldl_max l' _).1 fun v hv => ?_
  obtain ⟨_, q, hq, hvq⟩ := h v hv
  exact Int.le_trans hvq ((le_foldl_max l' _).2 q hq)
theorem hl_inside {l l' : List Int} (h : ∀ v ∈ l, Bt l' v) : inside (hl l) (hl l') = true := by
  have h1 := clip_mono (mn_le h)
  have h2 := clip_mono (mx_le h)
  show (false || (!false && (decide (min (clip (mn l')) 1099511627775 ≤ min (clip (mn l)) 1099511627775) && decide (max (clip (mx l)) (-1099511627775) ≤ max (clip (mx l')) (-1099511627775))))) = true
  rw [decide_eq_true (by omega), decide_eq_true (by omega)]
  rfl
theorem nm_hl {l : List Int} {v : Int} (hv : v ∈ l) : Nm (hl l) := by
  have h1 := (foldl_min_le l 1099511627776).2 v hv
  have h2 := (le_foldl_max l (-1099511627776)).2 v hv
  have h3 : mn l ≤ mx l := Int.le_trans h1 h2
  refine .inr ⟨rfl, ?_⟩
  simp only [hl, clip]
  omega
theorem hl_has {l : List Int} {n : Int} (h : Bt l (clip n)) : has (hl l) n = true := by
  obtain ⟨⟨p, hp, h1⟩, q, hq, h2⟩ := h
  have h3 := (foldl_min_le l 1099511627776).2 p hp
  have h4 := (le_foldl_max l (-1099511627776)).2 q hq
  have h5 : mn l ≤ clip n := Int.le_trans h3 h1
  have h6 : clip n ≤ mx l := Int.le_trans h2 h4
  have g1 : min (clip (mn l)) 1099511627775 = -1099511627776 ∨ min (clip (mn l)) 1099511627775 ≤ n := by unfold clip at *; omega
  have g2 : max (clip (mx l)) (-1099511627775) = 1099511627776 ∨ n ≤ max (clip (mx l)) (-1099511627775) := by unfold clip at *; omega
  unfold has hl
  simp only [Bool.not_false, Bool.true_and, Bool.and_eq_true, Bool.or_eq_true, beq_iff_eq, decide_eq_true_eq]
  exact ⟨g1, g2⟩
/-! ### Corners of products -/
theorem tm_comm (x y : Int) : tm x y = tm y x := by unfold tm; rw [Int.mul_comm]
theorem tm_btw {a b x : Int} (y : Int) (h1 : a ≤ x) (h2 : x ≤ b) : tm a y ≤ tm x y ∧ tm x y ≤ tm b y ∨ tm b y ≤ tm x y ∧ tm x y ≤ tm a y := by
  unfold tm
  rcases Int.le_total 0 y with hy | hy
  · exact .inl ⟨clip_mono (Int.mul_le_mul_of_nonneg_right h1 hy), clip_mono (Int.mul_le_mul_of_nonneg_right h2 hy)⟩
  · exact .inr ⟨clip_mono (Int.mul_le_mul_of_nonpos_right h2 hy), clip_mono (Int.mul_le_mul_of_nonpos_right h1 hy)⟩
def cm (a b c d : Int) : List Int := [tm a c, tm a d, tm b c, tm b d]
theorem cm_btw {a b c d x y : Int} (h1 : a ≤ x) (h2 : x ≤ b) (h3 : c ≤ y) (h4 : y ≤ d) : Bt (cm a b c d) (tm x y) := by
  have hx := tm_btw y h1 h2
  have ha := tm_btw a h3 h4
  have hb := tm_btw b h3 h4
  rw [tm_comm c a, tm_comm d a, tm_comm y a] at ha
  rw [tm_comm c b, tm_comm d b, tm_comm y b] at hb
  unfold Bt cm
  simp only [List.mem_cons, List.not_mem_nil, or_false, exists_eq_or_imp, exists_eq_left]
  omega
end Go.Proofs.Ytfbpklopnnnniaa
