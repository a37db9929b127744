/- Contracts and laws of functions of the program, on the way to the claim. Conditions: as each theorem states. -/
import Derived.Test.YtfbpklopnnnniaaS1n
namespace Go.Proofs.Ytfbpklopnnnniaa
open Go.Ev Go.Fb

/-! ### Clocks -/
def nn (c : CK) : CK := if (nrm c.d).e ∨ (nrm c.p).e then ⟨⟨true, 0, 0⟩, ⟨true, 0, 0⟩⟩ else ⟨nrm c.d, nrm c.p⟩
theorem works21 : l21_works = true := by kernel_rfl
theorem nm_nn (c : CK) : Nm (nn c).d ∧ Nm (nn c).p := by
  unfold nn
  split
  · exact ⟨.inl rfl, .inl rfl⟩
  · exact ⟨nm_nrm _, nm_nrm _⟩
theorem cn_eq (c : CK) : clock_norm c = nn c := by
  simp only [clock_norm, clock_norm_t, clock_norm_T, Tr.val, join1_eq, nn]
  cases (nrm c.d).e <;> cases (nrm c.p).e <;> simp
theorem rn_eq (c : CK) : ref21_Norm c = nn c := by
  simp only [ref21_Norm, ref21_Norm_t, ref21_Norm_T, Tr.val, rnorm_eq, nn]
  cases (nrm c.d).e <;> cases (nrm c.p).e <;> simp
theorem end_eq {x y : Int} (hx : Rg x) (hy : Rg y) : ref21_end x y = send x y := by
  unfold Rg at hx hy
  simp only [ref21_end, ref21_end_t, ref21_end_T, Tr.val, send, clip, imax_eq, imin_eq, Bool.cond_decide]
  rw [w64 (by omega) (by omega)]
  (repeat' split) <;> omega
theorem radd_eq (a b : I3) : ref21_Add a b = add (nrm a) (nrm b) := by
  have ha := (nm_nrm a).rg
  have hb := (nm_nrm b).rg
  simp only [ref21_Add, ref21_Add_t, ref21_Add_T, Tr.val, rnorm_eq, add, end_eq ha.1 hb.1, end_eq ha.2 hb.2, imax_eq, imin_eq]
  cases (nrm a).e <;> cases (nrm b).e <;> simp
theorem rneg_eq (a : I3) : ref21_Neg a = neg (nrm a) := by
  have hr := (nm_nrm a).rg
  unfold Rg at hr
  simp only [ref21_Neg, ref21_Neg_t, ref21_Neg_T, Tr.val, rnorm_eq]
  rw [w64 (by omega) (by omega), w64 (by omega) (by omega), Int.zero_sub, Int.zero_sub]
  unfold neg
  cases h : (nrm a).e
  · simp
  · simp [nrm_e h]
theorem nrm_d (c : CK) : nrm (nn c).d = (nn c).d := nrm_nm (nm_nn c).1
theorem nrm_p (c : CK) : nrm (nn c).p = (nn c).p := nrm_nm (nm_nn c).2
theorem l_of (c : CK) : l21_of c = c := rfl
theorem is_self (c : CK) : l21_is c c = true := by
  simp [l21_is, l21_is_t, l21_is_T, Tr.val]
theorem nrm_neg (a : I3) : nrm (neg (nrm a)) = neg (nrm a) := nrm_nm (nm_neg (nm_nrm a))
theorem nrm_add (a b : I3) : nrm (add (nrm a) (nrm b)) = add (nrm a) (nrm b) := nrm_nm (nm_add (nm_nrm a) (nm_nrm b))
theorem nrm_nrm (a : I3) : nrm (nrm a) = nrm a := nrm_nm (nm_nrm a)
def cOf (v k : I3) : CK := nn ⟨add (nrm v) (neg (nrm k)), add (nrm v) (nrm k)⟩
def cBy (f : I3 → I3 → I3) (a b : CK) : CK := nn ⟨f (nn a).d (nn b).d, f (nn a).p (nn b).p⟩
theorem of_eq (v k : I3) : clock_Of v k = cOf v k ∧ ref21_Of v k = cOf v k := by
  simp only [clock_Of, clock_Of_t, clock_Of_T, ref21_Of, ref21_Of_t, ref21_Of_T, Tr.val, cn_eq, rn_eq, sub_eq, add_eq, radd_eq, rneg_eq, nrm_neg, cOf, and_self]
theorem bothA_eq (a b : CK) : clock_bothA a b () = cBy add a b := by
  simp only [clock_bothA, clock_bothA_t, clock_bothA_T, Tr.val, cn_eq, add_eq, nrm_d, nrm_p, cBy]
theorem bothM_eq (a b : CK) : clock_bothM a b () = cBy meet a b := by
  simp only [clock_bothM, clock_bothM_t, clock_bothM_T, Tr.val, cn_eq, meet_eq, nrm_d, nrm_p, cBy]
theorem bothJ_eq (a b : CK) : clock_bothJ a b () = cBy join a b := by
  simp only [clock_bothJ, clock_bothJ_t, clock_bothJ_T, clock_JoinF, clock_JoinF_t, clock_JoinF_T, Tr.val, cn_eq, join2_eq, nrm_d, nrm_p, cBy]
theorem bothW_eq {l : List Int} (hn : l.length < 4611686018427387904) (a b : CK) : clock_Widen a b l = cBy (fun x y => wd x y l) a b ∧ clock_Widen_s a b l = true := by
  simp only [clock_Widen, clock_Widen_s, clock_Widen_t, clock_Widen_T, clock_bothW, clock_bothW_s, clock_bothW_t, clock_bothW_T, clock_WidenF, clock_WidenF_s, clock_WidenF_t, clock_WidenF_T, Tr.val, Tr.safe, cn_eq, (widen_eq hn _ _).1, (widen_eq hn _ _).2, nrm_d, nrm_p, cBy, Bool.and_self, and_self]
theorem rWiden_eq {l : List Int} (hn : l.length < 4611686018427387904) (a b : CK) : ref21_Widen a b l = cBy (fun x y => wd x y l) a b ∧ ref21_Widen_s a b l = true := by
  simp only [ref21_Widen, ref21_Widen_s, ref21_Widen_t, ref21_Widen_T, Tr.val, Tr.safe, rn_eq, (rwiden_eq hn _ _).1, (rwiden_eq hn _ _).2, nrm_d, nrm_p, cBy, Bool.and_self, and_self]
theorem cmeet_eq (a b : CK) : clock_Meet a b = cBy meet a b ∧ ref21_Meet a b = cBy meet a b := by
  simp only [clock_Meet, clock_Meet_t, clock_Meet_T, ref21_Meet, ref21_Meet_t, ref21_Meet_T, Tr.val, bothM_eq, rn_eq, rmeet_eq, nrm_d, nrm_p, cBy, and_self]
theorem cjoin_eq (a b : CK) : clock_Join a b = cBy join a b ∧ ref21_Join a b = cBy join a b := by
  simp only [clock_Join, clock_Join_t, clock_Join_T, ref21_Join, ref21_Join_t, ref21_Join_T, Tr.val, bothJ_eq, rn_eq, rjoin_eq, nrm_d, nrm_p, cBy, and_self]
def cMove (c : CK) (v : I3) : CK := nn ⟨add (nn c).d (nrm v), add (nn c).p (nrm v)⟩
theorem add_e {x y : I3} (h : x.e = true ∨ y.e = true) : add x y = ⟨true, 0, 0⟩ := by unfold add; rw [if_pos h]
theorem nn_e1 {x y : I3} (h : x.e = true) : nn ⟨x, y⟩ = ⟨⟨true, 0, 0⟩, ⟨true, 0, 0⟩⟩ := by
  unfold nn
  rw [if_pos]
  left
  simp [nrm, h]
theorem nn_vv (v : I3) : nn ⟨v, v⟩ = ⟨nrm v, nrm v⟩ := by
  unfold nn
  cases h : (nrm v).e
  · simp
  · simp [nrm_e h]
theorem move_eq (c : CK) (v : I3) : clock_Move c v = cMove c v ∧ ref21_Move c v = cMove c v := by
  simp only [clock_Move, clock_Move_t, clock_Move_T, ref21_Move, ref21_Move_t, ref21_Move_T, Tr.val, bothA_eq, rn_eq, radd_eq, nrm_d, nrm_p, cBy, cMove, nn_vv, and_self]
def pt (n : Int) : I3 := ⟨false, n, n⟩
theorem nrm_pt {n : Int} (h : -1099511627776 < n ∧ n < 1099511627776) : nrm (pt n) = pt n := nrm_nm (.inr ⟨rfl, by simp only [pt]; omega⟩)
def cTick (c : CK) : CK := nn ⟨add (nn c).d (pt (-1)), add (nn c).p (pt 1)⟩
theorem tick_eq (c : CK) : clock_Tick c = cTick c ∧ ref21_Tick c = cTick c := by
  have h1 : nrm ⟨false, -1, -1⟩ = pt (-1) := nrm_pt (n := -1) (by decide)
  have h2 : nrm ⟨false, 1, 1⟩ = pt 1 := nrm_pt (n := 1) (by decide)
  have h3 : nn ⟨pt (-1), pt 1⟩ = ⟨pt (-1), pt 1⟩ := rfl
  simp only [clock_Tick, clock_Tick_t, clock_Tick_T, ref21_Tick, ref21_Tick_t, ref21_Tick_T, Tr.val, bothA_eq, rn_eq, radd_eq, nrm_d, nrm_p, cBy, cTick, point_eq, h1, h2, h3, and_self]
def cRed (v : I3) (c : CK) (k : I3) : I3 := meet (meet (nrm v) (add (nn c).d (nrm k))) (add (nn c).p (neg (nrm k)))
theorem nrm_add_d (c : CK) (k : I3) : nrm (add (nn c).d (nrm k)) = add (nn c).d (nrm k) := nrm_nm (nm_add (nm_nn c).1 (nm_nrm k))
theorem nrm_add_p (c : CK) (k : I3) : nrm (add (nn c).p (neg (nrm k))) = add (nn c).p (neg (nrm k)) := nrm_nm (nm_add (nm_nn c).2 (nm_neg (nm_nrm k)))
theorem nrm_meet (x y : I3) : nrm (meet x y) = meet x y := nrm_nm (nm_meet x y)
theorem reduce_eq (v : I3) (c : CK) (k : I3) : clock_Reduce v c k = cRed v c k ∧ ref21_Reduce v c k = cRed v c k := by
  simp only [clock_Reduce, clock_Reduce_t, clock_Reduce_T, ref21_Reduce, ref21_Reduce_t, ref21_Reduce_T, Tr.val, cn_eq, rn_eq, meet_eq, rmeet_eq, add_eq, sub_eq, radd_eq, rneg_eq, nrm_d, nrm_p, nrm_neg, nrm_add_d, nrm_add_p, nrm_meet, cRed, and_self]
theorem cinside_eq (a b : CK) : clock_Inside a b = ref21_Inside a b := by
  simp only [clock_Inside, clock_Inside_t, clock_Inside_T, ref21_Inside, ref21_Inside_t, ref21_Inside_T, Tr.val, cn_eq, rn_eq, inside_eq, rinside_eq]
theorem chas_eq (c : CK) (v k : Int) : clock_Has c v k = ref21_Has c v k := by
  simp only [clock_Has, clock_Has_t, clock_Has_T, ref21_Has, ref21_Has_t, ref21_Has_T, Tr.val, cn_eq, rn_eq, has_eq, rhas_eq, imin_eq, imax_eq]
  by_cases h1 : v < -2199023255552
  · rw [decide_eq_true h1, decide_eq_true (show min v k < -2199023255552 by omega)]; rfl
  by_cases h2 : v > 2199023255552
  · rw [decide_eq_false h1, decide_eq_true h2]
    by_cases h3 : min v k < -2199023255552
    · rw [decide_eq_true h3]; rfl
    · rw [decide_eq_false h3, decide_eq_true (show max v k > 2199023255552 by omega)]; rfl
  by_cases h3 : k < -2199023255552
  · rw [decide_eq_false h1, decide_eq_false h2, decide_eq_true h3, decide_eq_true (show min v k < -2199023255552 by omega)]; rfl
  by_cases h4 : k > 2199023255552
  · rw [decide_eq_false h1, decide_eq_false h2, decide_eq_false h3, decide_eq_true h4, decide_eq_false (show ¬ min v k < -2199023255552 by omega), decide_eq_true (show max v k > 2199023255552 by omega)]; rfl
  · rw [decide_eq_false h1, decide_eq_false h2, decide_eq_false h3, decide_eq_false h4, decide_eq_false (show ¬ min v k < -2199023255552 by omega), decide_eq_false (show ¬ max v k > 2199023255552 by omega)]; rfl
theorem ClockDoes_true (c : CK) (v k : I3) : l21_ClockDoes c v k = true := by
  simp only [l21_ClockDoes, l21_ClockDoes_t, l21_ClockDoes_T, Tr.val, works21, l_of, (of_eq _ _).1, (of_eq _ _).2, (move_eq _ _).1, (move_eq _ _).2, (tick_eq _).1, (tick_eq _).2, clock_Tight, clock_Tight_t, clock_Tight_T, (cmeet_eq _ _).1, (cmeet_eq _ _).2, (reduce_eq _ _ _).1, (reduce_eq _ _ _).2, is_self, beq_self_eq_true]
  rfl
theorem ClockJoins_both (a b : CK) (l : List Int) (v k : Int) : l21_ClockJoins a b l v k = true ∧ l21_ClockJoins_s a b l v k = true := by
  simp only [l21_ClockJoins, l21_ClockJoins_s, l21_ClockJoins_t, l21_ClockJoins_T, Tr.val, Tr.safe, works21, l_of]
  by_cases h : (l.length : Int) > 200
  · rw [decide_eq_true h]; exact ⟨rfl, rfl⟩
  · rw [decide_eq_false h]
    have hn : l.length < 4611686018427387904 := by omega
    simp only [(cjoin_eq _ _).1, (cjoin_eq _ _).2, (cmeet_eq _ _).1, (cmeet_eq _ _).2, (bothW_eq hn _ _).1, (bothW_eq hn _ _).2, (rWiden_eq hn _ _).1, (rWiden_eq hn _ _).2, is_self, cinside_eq, chas_eq, beq_self_eq_true]
    exact ⟨rfl, rfl⟩
end Go.Proofs.Ytfbpklopnnnniaa
