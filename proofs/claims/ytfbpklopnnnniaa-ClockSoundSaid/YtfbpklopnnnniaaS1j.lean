/- Contracts and laws of functions of the program, on the way to the claim. Conditions: as each theorem states. -/
import Derived.Test.YtfbpklopnnnniaaS1i
namespace Go.Proofs.Ytfbpklopnnnniaa
open Go.Ev Go.Fb

/-- an integer of an interval that is near -/
def Of (x : I3) (n : Int) : Prop := has x n = true ∧ -2147483648 < n ∧ n < 2147483648
theorem Of.inE {x : I3} {n : Int} (h : Of x n) : InE x n ∧ (x.lo = -1099511627776 ∨ x.lo ≤ n) ∧ (x.hi = 1099511627776 ∨ n ≤ x.hi) := by
  obtain ⟨h, h1, h2⟩ := h
  obtain ⟨h3, h4, h5⟩ := has_iff.1 h
  exact ⟨⟨h3, by omega, by omega⟩, h4, h5⟩
theorem of_add {x y : I3} (hx : Nm x) (hy : Nm y) {n m : Int} (h1 : Of x n) (h2 : Of y m) : has (add x y) (n + m) = true := by
  obtain ⟨⟨e1, _, _⟩, a1, a2⟩ := h1.inE
  obtain ⟨⟨e2, _, _⟩, b1, b2⟩ := h2.inE
  have n1 := h1.2
  have n2 := h2.2
  unfold add
  rw [if_neg (by simp [e1, e2]), has_iff]
  rcases hx with rfl | hx
  · cases e1
  rcases hy with rfl | hy
  · cases e2
  refine ⟨rfl, ?_, ?_⟩
  · unfold send clip
    (repeat' split) <;> simp only <;> omega
  · unfold send clip
    (repeat' split) <;> simp only <;> omega
theorem of_neg {x : I3} {n : Int} (h : Of x n) : Of (neg x) (-n) := by
  obtain ⟨⟨e, _, _⟩, a1, a2⟩ := h.inE
  have n1 := h.2
  unfold neg Of
  rw [if_neg (by simp [e]), has_iff]
  refine ⟨⟨rfl, ?_, ?_⟩, ?_, ?_⟩ <;> (try simp only) <;> omega
theorem mul_bd {n m B : Int} (h1 : -B ≤ n) (h2 : n ≤ B) (h3 : -B ≤ m) (h4 : m ≤ B) : -(B * B) ≤ n * m ∧ n * m ≤ B * B := by
  have hB : 0 ≤ B := by omega
  have k : ∀ {p q : Int}, 0 ≤ p → p ≤ B → 0 ≤ q → q ≤ B → 0 ≤ p * q ∧ p * q ≤ B * B := fun hp hp' hq hq' =>
    ⟨Int.mul_nonneg hp hq, Int.mul_le_mul hp' hq' hq hB⟩
  rcases Int.le_total 0 n with hn | hn <;> rcases Int.le_total 0 m with hm | hm
  · have := k hn h2 hm h4; omega
  · have := k hn h2 (q := -m) (by omega) (by omega)
    rw [Int.mul_neg] at this; omega
  · have := k (p := -n) (by omega) (by omega) hm h4
    rw [Int.neg_mul] at this; omega
  · have := k (p := -n) (q := -m) (by omega) (by omega) (by omega) (by omega)
    rw [Int.neg_mul_neg] at this; omega
theorem of_mul {x y : I3} {n m : Int} (h1 : Of x n) (h2 : Of y m) : has (ml x y) (n * m) = true := by
  obtain ⟨⟨e1, _, _⟩, _⟩ := h1.inE
  obtain ⟨⟨e2, _, _⟩, _⟩ := h2.inE
  unfold ml
  rw [if_neg (by simp [e1, e2])]
  exact hl_has (cm_btw (by assumption) (by assumption) (by assumption) (by assumption))
theorem of_div {x y : I3} (hx : Nm x) (hy : Nm y) {n m : Int} (h1 : Of x n) (h2 : Of y m) (h0 : m ≠ 0) : has (dv x y) (n.tdiv m) = true := by
  have i1 := h1.inE.1
  have i2 := h2.inE.1
  unfold dv
  rw [if_neg (by simp [i1.1, i2.1])]
  obtain ⟨c, hc, _⟩ := ends_btw hy i2 h0
  rw [if_neg (List.ne_nil_of_mem hc)]
  refine hl_has ?_
  have n1 := h1.2
  have n2 := h2.2
  have hr : Rg n := by unfold Rg; omega
  have e : ov n m = clip (n.tdiv m) := by
    rw [clip_rg (tdiv_rg m hr)]
    unfold ov
    rw [if_neg (by omega), if_neg (by omega)]
  rw [← e]
  exact dl_btw hx hy i1 i2 h0
theorem has_inside {x X : I3} {n : Int} (h : has x n = true) (hi : inside x X = true) (hx : Nm x) (hX : Nm X) : has X n = true := by
  rw [has_iff] at *
  rw [inside_iff] at hi
  rcases hi with hi | hi
  · rw [hi] at h; cases h.1
  rcases hx with rfl | hx
  · cases h.1
  rcases hX with rfl | hX
  · cases hi.2.1
  refine ⟨hi.2.1, ?_, ?_⟩ <;> omega
theorem of_pos {x : I3} (hx : Nm x) {n : Int} (h : Of x n) (h0 : 0 ≤ n) : has (meet x pos) n = true := by
  obtain ⟨⟨e, h3, h4⟩, a1, a2⟩ := h.inE
  have n1 := h.2
  unfold meet pos
  rw [if_neg (by simp [e]), has_iff]
  rcases hx with rfl | hx
  · cases e
  unfold nrm
  simp only [Bool.false_eq_true, false_or]
  rw [if_neg (by omega)]
  refine ⟨rfl, ?_, ?_⟩ <;> simp only <;> omega
theorem of_abs {x : I3} (hx : Nm x) {n : Int} (h : Of x n) (h0 : 0 ≤ n) : has (ab x) n = true :=
  has_inside (of_pos hx h h0) join_l (nm_meet _ _) nm_ab
theorem of_abs' {x : I3} (hx : Nm x) {n : Int} (h : Of x n) (h0 : n < 0) : has (ab x) (-n) = true :=
  has_inside (of_pos (nm_neg hx) (of_neg h) (by omega)) join_r (nm_meet _ _) nm_ab
theorem IntsSound_both (a b : I3) (n m : Int) : l17_IntsSound a b n m = true ∧ l17_IntsSound_s a b n m = true := by
  have s1 := of_spec (s := a) (n := n)
  have s2 := of_spec (s := b) (n := m)
  have na := nm_nrm a
  have nb := nm_nrm b
  simp only [l17_IntsSound, l17_IntsSound_s, l17_IntsSound_t, l17_IntsSound_T, Tr.val, Tr.safe, works17, has_eq, add_eq, sub_eq, mul_eq, div_eq, abs_eq, neg_eq]
  generalize l17_of a n = p at *
  generalize l17_of b m = q at *
  obtain ⟨u, pu⟩ := p
  obtain ⟨v, qv⟩ := q
  cases pu
  · exact ⟨rfl, rfl⟩
  cases qv
  · exact ⟨rfl, rfl⟩
  have h1 : Of (nrm a) u := s1 rfl
  have h2 : Of (nrm b) v := s2 rfl
  simp only
  generalize nrm a = x at *
  generalize nrm b = y at *
  have b1 := h1.2
  have b2 := h2.2
  have hm := mul_bd (n := u) (m := v) (B := 2147483648) (by omega) (by omega) (by omega) (by omega)
  have ht := tdiv_rg (x := u) v (by unfold Rg; omega)
  unfold Rg at ht
  rw [w64 (n := u + v) (by omega) (by omega), w64 (n := u - v) (by omega) (by omega), w64 (n := 0 - u) (by omega) (by omega), w64 (n := u * v) (by omega) (by omega), w64 (n := u.tdiv v) (by omega) (by omega)]
  rw [nrm_nm (nm_add na nb), nrm_nm (nm_add na (nm_neg nb)), nrm_nm nm_ml, nrm_nm nm_dv, nrm_nm nm_ab, nrm_nm (nm_neg na)]
  have k1 := of_add na nb h1 h2
  have k2 := of_add na (nm_neg nb) h1 (of_neg h2)
  rw [← Int.sub_eq_add_neg] at k2
  have k3 := of_mul h1 h2
  have k4 := (of_neg h1).1
  rw [Int.zero_sub, k1, k2, k3, k4]
  by_cases hu : u < 0
  · rw [of_abs' na h1 hu, decide_eq_true hu]
    by_cases hv : v = 0
    · subst hv; exact ⟨rfl, rfl⟩
    · rw [of_div na nb h1 h2 hv, beq_eq_false_iff_ne.2 hv]; exact ⟨rfl, rfl⟩
  · rw [of_abs na h1 (by omega), decide_eq_false hu]
    by_cases hv : v = 0
    · subst hv; exact ⟨rfl, rfl⟩
    · rw [of_div na nb h1 h2 hv, beq_eq_false_iff_ne.2 hv]; exact ⟨rfl, rfl⟩
end Go.Proofs.Ytfbpklopnnnniaa
