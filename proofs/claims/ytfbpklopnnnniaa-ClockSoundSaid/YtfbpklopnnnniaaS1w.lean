/- Contracts and laws of functions of the program, on the way to the claim. Conditions: as each theorem states. -/
import Derived.Test.YtfbpklopnnnniaaS1v
import Derived.Test.YtfbpklopnnnniaaS1p
namespace Go.Proofs.Ytfbpklopnnnniaa
open Go.Ev Go.Fb

/-! ### Pairs -/
theorem has_add {x y : I3} (hx : Nm x) (hy : Nm y) {n m : Int} (h1 : has x n = true) (h2 : has y m = true) (h3 : -1099511627776 ≤ n + m) (h4 : n + m ≤ 1099511627776) : has (add x y) (n + m) = true := by
  rw [has_iff] at *
  obtain ⟨e1, a1, a2⟩ := h1
  obtain ⟨e2, b1, b2⟩ := h2
  unfold add
  rw [if_neg (by simp [e1, e2])]
  rcases hx with rfl | hx
  · cases e1
  rcases hy with rfl | hy
  · cases e2
  refine ⟨rfl, ?_, ?_⟩
  · unfold send clip
    (repeat' split) <;> simp only <;> omega
  · unfold send clip
    (repeat' split) <;> simp only <;> omega
theorem has_neg {x : I3} {n : Int} (h : has x n = true) : has (neg x) (-n) = true := by
  rw [has_iff] at *
  obtain ⟨e, a1, a2⟩ := h
  unfold neg
  rw [if_neg (by simp [e])]
  refine ⟨rfl, ?_, ?_⟩ <;> simp only <;> omega
theorem has_e {x : I3} (h : x.e = true) (n : Int) : has x n = false := by unfold has; rw [h]; rfl
theorem has_meet {x y : I3} (hx : Nm x) (hy : Nm y) (n : Int) : has (meet x y) n = (has x n && has y n) := by
  unfold meet
  by_cases h : x.e = true ∨ y.e = true
  · rw [if_pos h, has_e rfl]
    rcases h with h | h <;> rw [has_e h] <;> simp
  · rw [if_neg h]
    have h2 : x.e = false ∧ y.e = false := by simpa using h
    rcases hx with rfl | hx
    · cases h2.1
    rcases hy with rfl | hy
    · cases h2.2
    rw [Bool.eq_iff_iff, Bool.and_eq_true, has_iff, has_iff, has_iff]
    unfold nrm
    simp only [Bool.false_eq_true, false_or]
    split
    · simp only [Bool.true_eq_false, false_and, false_iff]
      omega
    · simp only [h2.1, h2.2, true_and]
      omega
theorem has_nn {x y : I3} (hx : Nm x) (hy : Nm y) (u t : Int) : (has (nn ⟨x, y⟩).d u && has (nn ⟨x, y⟩).p t) = (has x u && has y t) := by
  unfold nn
  rw [show nrm (CK.mk x y).d = x from nrm_nm hx, show nrm (CK.mk x y).p = y from nrm_nm hy]
  by_cases h : x.e = true ∨ y.e = true
  · rw [if_pos h, has_e rfl]
    rcases h with h | h <;> rw [has_e h] <;> simp
  · rw [if_neg h]
theorem chas_val (c : CK) {v k : Int} (hv : -1099511627776 ≤ v ∧ v ≤ 1099511627776) (hk : -1099511627776 ≤ k ∧ k ≤ 1099511627776) : clock_Has c v k = (has (nn c).d (v - k) && has (nn c).p (v + k)) := by
  simp only [clock_Has, clock_Has_t, clock_Has_T, Tr.val, cn_eq, has_eq, nrm_d, nrm_p, imin_eq, imax_eq]
  rw [decide_eq_false (by omega), decide_eq_false (by omega), w64 (by omega) (by omega), w64 (by omega) (by omega)]
  cases has (nn c).d (v - k) <;> rfl
theorem nnnn (c : CK) : nn (nn c) = nn c := by
  have e0 : nn (nn c) = if (nrm (nn c).d).e ∨ (nrm (nn c).p).e then ⟨⟨true, 0, 0⟩, ⟨true, 0, 0⟩⟩ else ⟨nrm (nn c).d, nrm (nn c).p⟩ := rfl
  rw [e0, nrm_d, nrm_p]
  by_cases h : (nrm c.d).e = true ∨ (nrm c.p).e = true
  · have e : nn c = ⟨⟨true, 0, 0⟩, ⟨true, 0, 0⟩⟩ := if_pos h
    rw [e]; rfl
  · have e : nn c = ⟨nrm c.d, nrm c.p⟩ := if_neg h
    rw [e]; exact if_neg h
theorem nm_cBy {f : I3 → I3 → I3} (hf : ∀ x y, Nm x → Nm y → Nm (f x y)) (a b : CK) (u t : Int) : (has (nn (cBy f a b)).d u && has (nn (cBy f a b)).p t) = (has (f (nn a).d (nn b).d) u && has (f (nn a).p (nn b).p) t) := by
  have h1 := hf _ _ (nm_nn a).1 (nm_nn b).1
  have h2 := hf _ _ (nm_nn a).2 (nm_nn b).2
  unfold cBy
  rw [nnnn]
  exact has_nn h1 h2 u t
theorem has_pt (n : Int) : has (pt n) n = true := by
  rw [has_iff]; exact ⟨rfl, .inr (Int.le_refl _), .inr (Int.le_refl _)⟩
theorem nm_pt {n : Int} (h : -1099511627776 < n ∧ n < 1099511627776) : Nm (pt n) := .inr ⟨rfl, by simp only [pt]; omega⟩
section
variable {a b : CK} {n m : Int} (hn : -34359738368 ≤ n ∧ n ≤ 34359738368) (hm : -34359738368 ≤ m ∧ m ≤ 34359738368)
include hn hm
theorem p_tick (h1 : has (nn a).d (n - m) = true) (h2 : has (nn a).p (n + m) = true) : clock_Has (clock_Tick a) n (m + 1) = true := by
  have k1 := nm_add (nm_nn a).1 (nm_pt (n := -1) (by decide))
  have k2 := nm_add (nm_nn a).2 (nm_pt (n := 1) (by decide))
  rw [chas_val _ (by omega) (by omega), (tick_eq _).1]
  unfold cTick
  rw [nnnn, has_nn k1 k2, show n - (m + 1) = (n - m) + -1 by omega, show n + (m + 1) = (n + m) + 1 by omega,
    has_add (nm_nn a).1 (nm_pt (by decide)) h1 (has_pt _) (by omega) (by omega), has_add (nm_nn a).2 (nm_pt (by decide)) h2 (has_pt _) (by omega) (by omega)]
  rfl
theorem p_move {d : Int} (hd : -34359738368 ≤ d ∧ d ≤ 34359738368) (h1 : has (nn a).d (n - m) = true) (h2 : has (nn a).p (n + m) = true) : clock_Has (clock_Move a (ints_Point d)) (n + d) m = true := by
  have hp : -1099511627776 < d ∧ d < 1099511627776 := by omega
  have k1 := nm_add (nm_nn a).1 (nm_pt hp)
  have k2 := nm_add (nm_nn a).2 (nm_pt hp)
  have e : nrm (ints_Point d) = pt d := by rw [point_val hp]; exact nrm_pt hp
  rw [chas_val _ (by omega) (by omega), (move_eq _ _).1]
  unfold cMove
  rw [nnnn, e, has_nn k1 k2, show n + d - m = (n - m) + d by omega, show n + d + m = (n + m) + d by omega,
    has_add (nm_nn a).1 (nm_pt hp) h1 (has_pt _) (by omega) (by omega), has_add (nm_nn a).2 (nm_pt hp) h2 (has_pt _) (by omega) (by omega)]
  rfl
theorem p_join_l (h1 : has (nn a).d (n - m) = true) (h2 : has (nn a).p (n + m) = true) : clock_Has (clock_Join a b) n m = true := by
  rw [chas_val _ (by omega) (by omega), (cjoin_eq _ _).1, nm_cBy (fun _ _ => nm_join),
    has_inside h1 join_l (nm_nn a).1 (nm_join (nm_nn a).1 (nm_nn b).1), has_inside h2 join_l (nm_nn a).2 (nm_join (nm_nn a).2 (nm_nn b).2)]
  rfl
theorem p_join_r (h1 : has (nn a).d (n - m) = true) (h2 : has (nn a).p (n + m) = true) : clock_Has (clock_Join b a) n m = true := by
  rw [chas_val _ (by omega) (by omega), (cjoin_eq _ _).1, nm_cBy (fun _ _ => nm_join),
    has_inside h1 join_r (nm_nn a).1 (nm_join (nm_nn b).1 (nm_nn a).1), has_inside h2 join_r (nm_nn a).2 (nm_join (nm_nn b).2 (nm_nn a).2)]
  rfl
theorem p_widen_l {l : List Int} (hl : l.length < 4611686018427387904) (h1 : has (nn a).d (n - m) = true) (h2 : has (nn a).p (n + m) = true) : clock_Has (clock_Widen a b l) n m = true := by
  have w1 := nm_wd (nm_nn a).1 (nm_nn b).1 l
  have w2 := nm_wd (nm_nn a).2 (nm_nn b).2 l
  rw [chas_val _ (by omega) (by omega), (bothW_eq hl _ _).1, nm_cBy (fun x y hx hy => (nm_wd hx hy l).1),
    has_inside h1 (inside_trans join_l w1.2) (nm_nn a).1 w1.1, has_inside h2 (inside_trans join_l w2.2) (nm_nn a).2 w2.1]
  rfl
theorem p_widen_r {l : List Int} (hl : l.length < 4611686018427387904) (h1 : has (nn a).d (n - m) = true) (h2 : has (nn a).p (n + m) = true) : clock_Has (clock_Widen b a l) n m = true := by
  have w1 := nm_wd (nm_nn b).1 (nm_nn a).1 l
  have w2 := nm_wd (nm_nn b).2 (nm_nn a).2 l
  rw [chas_val _ (by omega) (by omega), (bothW_eq hl _ _).1, nm_cBy (fun x y hx hy => (nm_wd hx hy l).1),
    has_inside h1 (inside_trans join_r w1.2) (nm_nn a).1 w1.1, has_inside h2 (inside_trans join_r w2.2) (nm_nn a).2 w2.1]
  rfl
theorem p_meet (h1 : has (nn a).d (n - m) = true) (h2 : has (nn a).p (n + m) = true) : clock_Has (clock_Meet a b) n m = clock_Has b n m := by
  rw [chas_val _ (by omega) (by omega), chas_val _ (by omega) (by omega), (cmeet_eq _ _).1, nm_cBy (fun x y _ _ => nm_meet x y), has_meet (nm_nn a).1 (nm_nn b).1, has_meet (nm_nn a).2 (nm_nn b).2, h1, h2]
  simp
theorem p_of {v k : I3} (h1 : has (nrm v) n = true) (h2 : has (nrm k) m = true) : clock_Has (clock_Of v k) n m = true := by
  have k1 := nm_add (nm_nrm v) (nm_neg (nm_nrm k))
  have k2 := nm_add (nm_nrm v) (nm_nrm k)
  rw [chas_val _ (by omega) (by omega), (of_eq _ _).1]
  unfold cOf
  rw [nnnn, has_nn k1 k2, show n - m = n + -m by omega, has_add (nm_nrm v) (nm_neg (nm_nrm k)) h1 (has_neg h2) (by omega) (by omega), has_add (nm_nrm v) (nm_nrm k) h1 h2 (by omega) (by omega)]
  rfl
end
theorem p_red {a : CK} {n m : Int} (hn : -34359738368 ≤ n ∧ n ≤ 34359738368) {v k : I3} (h1 : has (nn a).d (n - m) = true) (h2 : has (nn a).p (n + m) = true) (h3 : has (nrm v) n = true) (h4 : has (nrm k) m = true) : ints_Has (clock_Reduce v a k) n = true := by
  have e1 := has_add (nm_nn a).1 (nm_nrm k) h1 h4 (by omega) (by omega)
  have e2 := has_add (nm_nn a).2 (nm_neg (nm_nrm k)) h2 (has_neg h4) (by omega) (by omega)
  rw [show n - m + m = n by omega] at e1
  rw [show n + m + -m = n by omega] at e2
  rw [has_eq, (reduce_eq _ _ _).1, cRed, nrm_meet, has_meet (nm_meet _ _) (nm_add (nm_nn a).2 (nm_neg (nm_nrm k))), has_meet (nm_nrm v) (nm_add (nm_nn a).1 (nm_nrm k)), h3, e1, e2]
  rfl
theorem ClockSound_both (a b : CK) (v k : I3) (n m d : Int) (l : List Int) : l21_ClockSound a b v k n m d l = true ∧ l21_ClockSound_s a b v k n m d l = true := by
  simp only [l21_ClockSound, l21_ClockSound_s, l21_ClockSound_t, l21_ClockSound_T, Tr.val, Tr.safe, works21]
  by_cases g1 : (l.length : Int) > 200
  · rw [decide_eq_true g1]; exact ⟨rfl, rfl⟩
  by_cases g2 : n < -34359738368
  · rw [decide_eq_false g1, decide_eq_true g2]; exact ⟨rfl, rfl⟩
  by_cases g3 : n > 34359738368
  · rw [decide_eq_false g1, decide_eq_false g2, decide_eq_true g3]; exact ⟨rfl, rfl⟩
  by_cases g4 : m < -34359738368
  · rw [decide_eq_false g1, decide_eq_false g2, decide_eq_false g3, decide_eq_true g4]; exact ⟨rfl, rfl⟩
  by_cases g5 : m > 34359738368
  · rw [decide_eq_false g1, decide_eq_false g2, decide_eq_false g3, decide_eq_false g4, decide_eq_true g5]; exact ⟨rfl, rfl⟩
  by_cases g6 : d < -34359738368
  · rw [decide_eq_false g1, decide_eq_false g2, decide_eq_false g3, decide_eq_false g4, decide_eq_false g5, decide_eq_true g6]; exact ⟨rfl, rfl⟩
  by_cases g7 : d > 34359738368
  · rw [decide_eq_false g1, decide_eq_false g2, decide_eq_false g3, decide_eq_false g4, decide_eq_false g5, decide_eq_false g6, decide_eq_true g7]; exact ⟨rfl, rfl⟩
  rw [decide_eq_false g1, decide_eq_false g2, decide_eq_false g3, decide_eq_false g4, decide_eq_false g5, decide_eq_false g6, decide_eq_false g7]
  cases hh : clock_Has a n m
  · exact ⟨rfl, rfl⟩
  have hn : -34359738368 ≤ n ∧ n ≤ 34359738368 := by omega
  have hm : -34359738368 ≤ m ∧ m ≤ 34359738368 := by omega
  have hl : l.length < 4611686018427387904 := by omega
  rw [chas_val _ (by omega) (by omega), Bool.and_eq_true] at hh
  obtain ⟨h1, h2⟩ := hh
  have q1 := p_tick hn hm h1 h2
  have q2 := p_move hn hm (d := d) (by omega) h1 h2
  have q3 := p_join_l (b := b) hn hm h1 h2
  have q4 := p_join_r (b := b) hn hm h1 h2
  have q5 := p_widen_l (b := b) hn hm hl h1 h2
  have q6 := p_widen_r (b := b) hn hm hl h1 h2
  have q7 := p_meet (b := b) hn hm h1 h2
  rw [w64 (n := m + 1) (by omega) (by omega), w64 (n := n + d) (by omega) (by omega)]
  simp only [q1, q2, q3, q4, q5, q6, q7, (bothW_eq hl _ _).2, beq_self_eq_true]
  cases r1 : ints_Has v n
  · exact ⟨rfl, rfl⟩
  cases r2 : ints_Has k m
  · exact ⟨rfl, rfl⟩
  rw [has_eq] at r1 r2
  have t1 := p_red hn h1 h2 r1 r2
  have t2 := p_of hn hm r1 r2
  have t3 : clock_Has (clock_Tight a v k) n m = true := by
    have : clock_Tight a v k = clock_Meet a (clock_Of v k) := rfl
    rw [this, p_meet hn hm h1 h2, t2]
  simp only [t1, t2, t3]
  exact ⟨rfl, rfl⟩
end Go.Proofs.Ytfbpklopnnnniaa
