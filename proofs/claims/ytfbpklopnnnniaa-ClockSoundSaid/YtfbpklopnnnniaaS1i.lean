/- Contracts and laws of functions of the program, on the way to the claim. Conditions: as each theorem states. -/
import Derived.Test.YtfbpklopnnnniaaS1h
namespace Go.Proofs.Ytfbpklopnnnniaa
open Go.Ev Go.Fb

theorem inside_iff {x y : I3} : inside x y = true ↔ x.e = true ∨ x.e = false ∧ y.e = false ∧ y.lo ≤ x.lo ∧ x.hi ≤ y.hi := by
  unfold inside
  cases x.e <;> cases y.e <;> simp
theorem nm_join {x y : I3} (hx : Nm x) (hy : Nm y) : Nm (join x y) := by
  unfold join
  rcases hx with rfl | hx
  · exact hy
  · rw [hx.1]
    rcases hy with rfl | hy
    · exact .inr hx
    · rw [hy.1]
      refine .inr ⟨rfl, ?_⟩
      simp only [Bool.false_eq_true, if_false]
      omega
theorem join_l {x y : I3} : inside x (join x y) = true := by
  rw [inside_iff]
  unfold join
  cases hx : x.e
  · right
    cases hy : y.e
    · refine ⟨rfl, rfl, ?_, ?_⟩ <;> simp only [Bool.false_eq_true, if_false] <;> omega
    · simp [hx]
  · exact .inl rfl
theorem join_r {x y : I3} : inside y (join x y) = true := by
  rw [inside_iff]
  unfold join
  cases hy : y.e
  · right
    cases hx : x.e
    · refine ⟨rfl, rfl, ?_, ?_⟩ <;> simp only [Bool.false_eq_true, if_false] <;> omega
    · simp [hy]
  · exact .inl rfl
theorem nm_meet (x y : I3) : Nm (meet x y) := by
  unfold meet
  split
  · exact .inl rfl
  · exact nm_nrm _
theorem meet_in {x y : I3} (hx : Nm x) (hy : Nm y) : inside (meet x y) x = true ∧ inside (meet x y) y = true := by
  rw [inside_iff, inside_iff]
  unfold meet
  by_cases h : x.e ∨ y.e
  · rw [if_pos h]; exact ⟨.inl rfl, .inl rfl⟩
  · rw [if_neg h]
    unfold nrm
    split
    · exact ⟨.inl rfl, .inl rfl⟩
    · rename_i h1
      have h2 : x.e = false ∧ y.e = false := by simpa using h
      rcases hx with rfl | hx
      · cases h2.1
      rcases hy with rfl | hy
      · cases h2.2
      refine ⟨.inr ⟨rfl, h2.1, ?_, ?_⟩, .inr ⟨rfl, h2.2, ?_, ?_⟩⟩ <;> simp only <;> omega
theorem nm_add {x y : I3} (hx : Nm x) (hy : Nm y) : Nm (add x y) := by
  have h1 := send_rg hx.rg.1 hy.rg.1
  have h2 := send_rg hx.rg.2 hy.rg.2
  unfold add
  split
  · exact .inl rfl
  · rename_i h
    have h3 : x.e = false ∧ y.e = false := by simpa using h
    rcases hx with rfl | hx
    · cases h3.1
    rcases hy with rfl | hy
    · cases h3.2
    refine .inr ⟨rfl, ?_⟩
    have h4 : send x.lo y.lo ≤ send x.hi y.hi := by
      unfold send clip
      (repeat' split) <;> omega
    unfold Rg at h1 h2
    simp only
    omega
theorem add_mono {x y X Y : I3} (hx : Nm x) (hy : Nm y) (hX : Nm X) (hY : Nm Y) (h1 : inside x X = true) (h2 : inside y Y = true) : inside (add x y) (add X Y) = true := by
  rw [inside_iff] at *
  unfold add
  rcases h1 with h1 | h1
  · rw [if_pos (.inl h1)]; exact .inl rfl
  rcases h2 with h2 | h2
  · rw [if_pos (.inr h2)]; exact .inl rfl
  rw [if_neg (show ¬ (x.e = true ∨ y.e = true) by simp [h1.1, h2.1]), if_neg (show ¬ (X.e = true ∨ Y.e = true) by simp [h1.2.1, h2.2.1])]
  rcases hx with rfl | hx
  · cases h1.1
  rcases hy with rfl | hy
  · cases h2.1
  rcases hX with rfl | hX
  · cases h1.2.1
  rcases hY with rfl | hY
  · cases h2.2.1
  refine .inr ⟨rfl, rfl, ?_, ?_⟩
  · have : send X.lo Y.lo ≤ send x.lo y.lo := by
      unfold send clip
      (repeat' split) <;> omega
    simp only; omega
  · have : send x.hi y.hi ≤ send X.hi Y.hi := by
      unfold send clip
      (repeat' split) <;> omega
    simp only; omega
theorem neg_mono {x X : I3} (h : inside x X = true) : inside (neg x) (neg X) = true := by
  rw [inside_iff] at *
  unfold neg
  rcases h with h | h
  · rw [if_pos h]; exact .inl rfl
  · rw [if_neg (by simp [h.1]), if_neg (by simp [h.2.1])]
    refine .inr ⟨rfl, rfl, ?_, ?_⟩ <;> simp only <;> omega
theorem nm_ml {x y : I3} : Nm (ml x y) := by
  unfold ml
  split
  · exact .inl rfl
  · exact nm_hl (v := tm x.lo y.lo) (by simp [cm])
theorem Nm.le {x : I3} (h : Nm x) : x.lo ≤ x.hi := by
  rcases h with rfl | h
  · exact Int.le_refl _
  · omega
theorem ml_mono {x y X Y : I3} (hx : Nm x) (hy : Nm y) (h1 : inside x X = true) (h2 : inside y Y = true) : inside (ml x y) (ml X Y) = true := by
  rw [inside_iff] at h1 h2
  unfold ml
  rcases h1 with h1 | h1
  · rw [if_pos (.inl h1)]; exact rfl
  rcases h2 with h2 | h2
  · rw [if_pos (.inr h2)]; exact rfl
  rw [if_neg (show ¬ (x.e = true ∨ y.e = true) by simp [h1.1, h2.1]), if_neg (show ¬ (X.e = true ∨ Y.e = true) by simp [h1.2.1, h2.2.1])]
  have l1 := hx.le
  have l2 := hy.le
  refine hl_inside fun v hv => ?_
  unfold cm at hv
  simp only [List.mem_cons, List.not_mem_nil, or_false] at hv
  rcases hv with rfl | rfl | rfl | rfl <;> refine cm_btw ?_ ?_ ?_ ?_ <;> omega
theorem nm_dv {x y : I3} : Nm (dv x y) := by
  unfold dv
  split
  · exact .inl rfl
  split
  · exact .inl rfl
  · rename_i h
    obtain ⟨e, he⟩ := List.exists_mem_of_ne_nil _ h
    exact nm_hl (v := ov x.lo e) (by unfold dl; exact List.mem_append_left _ (List.mem_map_of_mem he))
theorem dv_mono {x y X Y : I3} (hx : Nm x) (hy : Nm y) (hX : Nm X) (hY : Nm Y) (h1 : inside x X = true) (h2 : inside y Y = true) : inside (dv x y) (dv X Y) = true := by
  rw [inside_iff] at h1 h2
  unfold dv
  rcases h1 with h1 | h1
  · rw [if_pos (.inl h1)]; exact rfl
  rcases h2 with h2 | h2
  · rw [if_pos (.inr h2)]; exact rfl
  rw [if_neg (show ¬ (x.e = true ∨ y.e = true) by simp [h1.1, h2.1]), if_neg (show ¬ (X.e = true ∨ Y.e = true) by simp [h1.2.1, h2.2.1])]
  have l1 := hx.le
  have key : ∀ e ∈ ends y, InE Y e ∧ e ≠ 0 := fun e he => by
    obtain ⟨k1, k2, _⟩ := ends_in hy he
    unfold InE at *
    exact ⟨⟨h2.2.1, by omega, by omega⟩, k2⟩
  by_cases h3 : ends y = []
  · rw [if_pos h3]; exact rfl
  rw [if_neg h3]
  obtain ⟨e, he⟩ := List.exists_mem_of_ne_nil _ h3
  obtain ⟨c, hc, _⟩ := ends_btw hY (key e he).1 (key e he).2
  rw [if_neg (List.ne_nil_of_mem hc)]
  refine hl_inside fun v hv => ?_
  unfold dl at hv
  rcases List.mem_append.1 hv with hv | hv <;> obtain ⟨e, he, rfl⟩ := List.mem_map.1 hv
  · exact dl_btw hX hY ⟨h1.2.1, by omega, by omega⟩ (key e he).1 (key e he).2
  · exact dl_btw hX hY ⟨h1.2.1, by omega, by omega⟩ (key e he).1 (key e he).2
theorem meet_mono {x X p : I3} (hx : Nm x) (hX : Nm X) (h : inside x X = true) (hp : p = ⟨false, 0, 1099511627776⟩) : inside (meet x p) (meet X p) = true := by
  subst hp
  rw [inside_iff] at *
  unfold meet
  rcases h with h | h
  · rw [if_pos (.inl h)]; exact .inl rfl
  rw [if_neg (by simp [h.1]), if_neg (by simp [h.2.1])]
  rcases hx with rfl | hx
  · cases h.1
  rcases hX with rfl | hX
  · cases h.2.1
  unfold nrm
  simp only [Bool.false_eq_true, false_or]
  split
  · exact .inl rfl
  · rw [if_neg (by omega)]
    refine .inr ⟨rfl, rfl, ?_, ?_⟩ <;> simp only <;> omega
theorem join_mono {x y X Y : I3} (h1 : inside x X = true) (h2 : inside y Y = true) : inside (join x y) (join X Y) = true := by
  rw [inside_iff] at *
  unfold join
  rcases h1 with h1 | h1 <;> rcases h2 with h2 | h2
  · rw [if_pos h1]; exact .inl h2
  · rw [if_pos h1]
    cases hX : X.e
    · rw [h2.2.1]
      refine .inr ⟨h2.1, rfl, ?_, ?_⟩ <;> simp only [Bool.false_eq_true, if_false] <;> omega
    · rw [if_pos rfl]
      exact .inr h2
  · rw [if_neg (by simp [h1.1]), if_pos h2, if_neg (by simp [h1.2.1])]
    cases hY : Y.e
    · refine .inr ⟨h1.1, rfl, ?_, ?_⟩ <;> simp only [Bool.false_eq_true, if_false] <;> omega
    · rw [if_pos rfl]
      exact .inr h1
  · rw [if_neg (by simp [h1.1]), if_neg (by simp [h2.1]), if_neg (by simp [h1.2.1]), if_neg (by simp [h2.2.1])]
    refine .inr ⟨rfl, rfl, ?_, ?_⟩ <;> simp only <;> omega
def pos : I3 := ⟨false, 0, 1099511627776⟩
def ab (x : I3) : I3 := join (meet x pos) (meet (neg x) pos)
theorem nm_pos : Nm pos := .inr (by decide)
theorem abs_eq (a : I3) : ints_Abs a = ab (nrm a) := by
  have e : nrm ⟨false, 0, 1099511627776⟩ = pos := nrm_nm nm_pos
  have e' : nrm pos = pos := nrm_nm nm_pos
  simp only [ints_Abs, ints_Abs_t, ints_Abs_T, Tr.val, make_eq, e, e', meet_eq, neg_eq, join2_eq, nrm_nm (nm_neg (nm_nrm a)), nrm_nm (nm_meet _ _), ab]
theorem nm_ab {x : I3} : Nm (ab x) := nm_join (nm_meet _ _) (nm_meet _ _)
theorem ab_mono {x X : I3} (hx : Nm x) (hX : Nm X) (h : inside x X = true) : inside (ab x) (ab X) = true :=
  join_mono (meet_mono hx hX h rfl) (meet_mono (nm_neg hx) (nm_neg hX) (neg_mono h) rfl)
theorem IntsOrder_true (a b c d : I3) : l17_IntsOrder a b c d = true := by
  have na := nm_nrm a
  have nb := nm_nrm b
  have nc := nm_nrm c
  have nd := nm_nrm d
  have nj := nm_join na nc
  have nk := nm_join nb nd
  have ij := join_l (x := nrm a) (y := nrm c)
  have ik := join_l (x := nrm b) (y := nrm d)
  obtain ⟨im1, im2⟩ := meet_in na nc
  simp only [l17_IntsOrder, l17_IntsOrder_t, l17_IntsOrder_T, Tr.val, works17, inside_eq, join2_eq, meet_eq, add_eq, sub_eq, mul_eq, div_eq, abs_eq, neg_eq, nrm_nm nj, nrm_nm nk, nrm_nm (nm_meet _ _)]
  generalize nrm a = x at *
  generalize nrm b = y at *
  generalize nrm c = z at *
  generalize nrm d = u at *
  rw [nrm_nm (nm_add na nb), nrm_nm (nm_add nj nk), nrm_nm (nm_add na (nm_neg nb)), nrm_nm (nm_add nj (nm_neg nk)), nrm_nm nm_ml, nrm_nm nm_ml, nrm_nm nm_dv, nrm_nm nm_dv, nrm_nm nm_ab, nrm_nm nm_ab, nrm_nm (nm_neg na), nrm_nm (nm_neg nj)]
  rw [ij, im1, im2, add_mono na nb nj nk ij ik, add_mono na (nm_neg nb) nj (nm_neg nk) ij (neg_mono ik), ml_mono na nb ij ik, dv_mono na nb nj nk ij ik, ab_mono na nj ij, neg_mono ij]
  rfl
/-! ### What is of both -/
theorem of_spec {s : I3} {n : Int} (h : (l17_of s n).2 = true) : has (nrm s) (l17_of s n).1 = true ∧ -2147483648 < (l17_of s n).1 ∧ (l17_of s n).1 < 2147483648 := by
  revert h
  simp only [l17_of, l17_of_t, l17_of_T, Tr.val, has_eq]
  cases h1 : has (nrm s) n <;> cases h2 : has (nrm s) s.lo <;> cases h3 : has (nrm s) s.hi <;>
   by_cases h4 : n > -2147483648 <;> by_cases h5 : n < 2147483648 <;> by_cases h6 : s.lo > -2147483648 <;> by_cases h7 : s.lo < 2147483648 <;>
   by_cases h8 : s.hi > -2147483648 <;> by_cases h9 : s.hi < 2147483648 <;> simp [h1, h2, h3, h4, h5, h6, h7, h8, h9] <;> omega
end Go.Proofs.Ytfbpklopnnnniaa
