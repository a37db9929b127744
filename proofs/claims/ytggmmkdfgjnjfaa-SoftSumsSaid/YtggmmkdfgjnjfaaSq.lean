/- Layer 6: the laws hold, in plain Lean. Conditions: as each theorem states. -/
import Derived.Test.YtggmmkdfgjnjfaaPq
import Derived.Test.YtggmmkdfgjnjfaaSl
import Derived.Test.YtggmmkdfgjnjfaaSp
namespace Go.Fb
open Go.Ev
theorem works6 : l6_works = true ∧ l6_works_s = true := by decide +kernel
end Go.Fb
namespace Go.Fb
open Go.Ev
theorem pre6 {t : Tr Bool} (h : Tr.Is t true) : Tr.Is (.ast l6_works_s (.br (!l6_works) (.leaf false) t)) true :=
  Tr.is_ast works6.2 (Tr.is_br_f (by rw [works6.1]; rfl) h)
theorem SoftMuls_both {a b : Int} (ha : Wd a) (hb : Wd b) {mode : Int} : l_SoftMuls a b mode = true ∧ l_SoftMuls_s a b mode = true := by
  obtain ⟨s, k, hk, rfl⟩ := fl_of ha
  obtain ⟨t, j, hj, rfl⟩ := fl_of hb
  obtain ⟨v, p, q, _⟩ := mul_both (s := s) (t := t) hk hj mode
  have e1 : s_Mul (fl s k) (fl t j) mode = v := p.1
  have e2 : r6_Mul (fl s k) (fl t j) mode = v := q.1
  suffices h : Tr.Is (l_SoftMuls_t (fl s k) (fl t j) mode) true from h
  refine pre6 (Tr.is_ast p.2 (Tr.is_ast q.2 (Tr.is_br_t works6.1 ?_)))
  rw [e1, e2]
  exact Tr.is_br_t (bt rfl) (Tr.is_leaf (bt rfl))
theorem SoftDivides_both {a b : Int} (ha : Wd a) (hb : Wd b) {mode : Int} : l_SoftDivides a b mode = true ∧ l_SoftDivides_s a b mode = true := by
  obtain ⟨s, k, hk, rfl⟩ := fl_of ha
  obtain ⟨t, j, hj, rfl⟩ := fl_of hb
  obtain ⟨v, p, q, _⟩ := div_both (s := s) (t := t) hk hj mode
  have e1 : s_Div (fl s k) (fl t j) mode = v := p.1
  have e2 : r6_Div (fl s k) (fl t j) mode = v := q.1
  suffices h : Tr.Is (l_SoftDivides_t (fl s k) (fl t j) mode) true from h
  refine pre6 (Tr.is_ast p.2 (Tr.is_ast q.2 (Tr.is_br_t works6.1 ?_)))
  rw [e1, e2]
  exact Tr.is_br_t (bt rfl) (Tr.is_leaf (bt rfl))
theorem SoftRoots_both {a : Int} (ha : Wd a) {mode : Int} : l_SoftRoots a mode = true ∧ l_SoftRoots_s a mode = true := by
  obtain ⟨s, k, hk, rfl⟩ := fl_of ha
  obtain ⟨v, p, q, _⟩ := sqrt_both (s := s) hk mode
  have e1 : s_Sqrt (fl s k) mode = v := p.1
  have e2 : r6_Sqrt (fl s k) mode = v := q.1
  suffices h : Tr.Is (l_SoftRoots_t (fl s k) mode) true from h
  refine pre6 (Tr.is_ast p.2 (Tr.is_ast q.2 (Tr.is_br_t works6.1 ?_)))
  rw [e1, e2]
  exact Tr.is_br_t (bt rfl) (Tr.is_leaf (bt rfl))
theorem xor_neg {t : Bool} {j : Nat} (hj : j < 9223372036854775808) : bitsI BinOp.xor IntKind.u64 (fl t j) 9223372036854775808 = fl (!t) j := by
  have h := fl_lt (s := t) hj
  show bitsI BinOp.xor IntKind.u64 ((flN t j : Nat) : Int) ((9223372036854775808 : Nat) : Int) = _
  rw [bits_xor h (by omega), xor_top h]
  cases t
  · unfold flN fl flN; simp only [Bool.false_eq_true, if_false, Bool.not_false, if_true]; rw [if_neg (by omega)]; omega
  · unfold flN fl flN; simp only [if_true, Bool.not_true, Bool.false_eq_true, if_false]; rw [if_pos (by omega)]; omega
theorem ssub_tree {a b mode : Int} {v : Int × Int} (h : Tr.Is (s_Add_t a (p_Neg b) mode) v) : Tr.Is (s_Sub_t a b mode) v := Tr.is_ast h.2 (Tr.is_leaf h.1)
theorem SoftAdds_both {a b : Int} (ha : Wd a) (hb : Wd b) {mode : Int} : l_SoftAdds a b mode = true ∧ l_SoftAdds_s a b mode = true := by
  obtain ⟨s, k, hk, rfl⟩ := fl_of ha
  obtain ⟨t, j, hj, rfl⟩ := fl_of hb
  obtain ⟨v, p, q, _⟩ := add_both (s := s) (t := t) hk hj mode
  have e1 : s_Add (fl s k) (fl t j) mode = v := p.1
  have e2 : r6_Add (fl s k) (fl t j) mode = v := q.1
  have ng := neg_spec (s := t) hj
  suffices h : Tr.Is (l_SoftAdds_t (fl s k) (fl t j) mode) true from h
  refine pre6 (Tr.is_ast p.2 (Tr.is_ast q.2 ?_))
  have c : (p_Class (fl t j) != 4) = !(cls j == 4) := by rw [class_spec hj]; rfl
  rw [cls4] at c
  by_cases hn : 9218868437227405312 < j
  · rw [if_pos hn] at ng
    have ps : Tr.Is (s_Sub_t (fl s k) (fl t j) mode) v := ssub_tree (by rw [ng]; exact p)
    have e3 : s_Sub (fl s k) (fl t j) mode = v := ps.1
    rw [dt hn] at c
    refine Tr.is_ast ps.2 (Tr.is_br_f c (Tr.is_ast q.2 (Tr.is_br_t works6.1 ?_)))
    rw [e1, e2, e3]
    exact Tr.is_br_t (bt rfl) (Tr.is_br_t (bt rfl) (Tr.is_br_t (bt rfl) (Tr.is_leaf (bt rfl))))
  · rw [if_neg hn] at ng
    obtain ⟨w, p2, q2, _⟩ := add_both (s := s) (t := !t) hk hj mode
    have ps : Tr.Is (s_Sub_t (fl s k) (fl t j) mode) w := ssub_tree (by rw [ng]; exact p2)
    have e3 : s_Sub (fl s k) (fl t j) mode = w := ps.1
    have e4 : r6_Add (fl s k) (fl (!t) j) mode = w := q2.1
    rw [df hn] at c
    refine Tr.is_ast ps.2 (Tr.is_br_t c ?_)
    rw [xor_neg hj]
    refine Tr.is_ast q2.2 (Tr.is_br_t works6.1 ?_)
    rw [e1, e2, e3, e4]
    exact Tr.is_br_t (bt rfl) (Tr.is_br_t (bt rfl) (Tr.is_br_t (bt rfl) (Tr.is_leaf (bt rfl))))
def IsF (x : Int) : Prop := ∃ s k, k ≤ 9218868437227405312 ∧ x = fl s k
theorem ExF.isF {x : Rat} {mode : Int} {v : Int × Int} (h : ExF x mode v) : IsF v.1 := by
  obtain ⟨K, a, b, _, rfl⟩ := h
  exact ⟨_, _, rans_le, rfl⟩
theorem IsF.wd {x : Int} (h : IsF x) : Wd x := by
  obtain ⟨s, k, hk, rfl⟩ := h
  exact fl_wd (by omega)
theorem AddV.wd {s t : Bool} {k j : Nat} {mode : Int} {v : Int × Int} (h : AddV s k t j mode v) : Wd v.1 := by
  cases h with
  | nan h e => rw [e]; unfold Wd; dsimp only; omega
  | bad h e => rw [e]; unfold Wd; dsimp only; omega
  | infa h e => rw [e]; exact fl_wd (by omega)
  | infb h e => rw [e]; exact fl_wd (by omega)
  | fin h w =>
    rcases w with ⟨_, e⟩ | ⟨_, e⟩
    · rw [e]; split <;> exact fl_wd (by omega)
    · exact e.isF.wd
theorem sum_run {l : List Int} (hl : WdL l) (hlen : l.length ≤ 1000000) (mode : Int) (b : Bool) : ∀ (m i : Nat) (s : Int), i + m = l.length → Wd s →
    ∃ r, runL (s_Sum_L0_step (mode, l, (l.length : Int))) (m + 1) (s, (i : Int)) = some (r, (l.length : Int)) ∧ runL (l_SoftSums_L0_step (mode, l, b)) (m + 1) (s, (i : Int)) = some (r, (l.length : Int))
  | 0, i, s, hi, hs => by
    have : i = l.length := by omega
    subst this
    exact ⟨s, runL_out (Tr.is_br_f (df (by dsimp only; omega)) (Tr.is_leaf rfl)), runL_out (Tr.is_br_f (df (by dsimp only; omega)) (Tr.is_leaf rfl))⟩
  | m + 1, i, s, hi, hs => by
    have hil : i < l.length := by omega
    obtain ⟨sg, k, hk, rfl⟩ := fl_of hs
    obtain ⟨t, j, hj, hx⟩ := fl_of (hl.at hil)
    obtain ⟨v, p, q, w⟩ := add_both (s := sg) (t := t) hk hj mode
    have e1 : s_Add (fl sg k) (fl t j) mode = v := p.1
    have e2 : r6_Add (fl sg k) (fl t j) mode = v := q.1
    obtain ⟨r, r1, r2⟩ := sum_run hl hlen mode b m (i + 1) v.1 (by omega) w.wd
    have c0 : decide ((i : Int) < (l.length : Int)) = true := dt (by omega)
    have c1 : (decide ((0 : Int) ≤ (i : Int)) && decide ((i : Int) < (l.length : Int))) = true := by simp; omega
    have e4 : IntKind.i64.wrap ((i : Int) + 1) = ((i + 1 : Nat) : Int) := wnext (by omega)
    refine ⟨r, ?_, ?_⟩
    · rw [← r1]
      refine runL_next ?_
      unfold s_Sum_L0_step s_Sum_L0_T
      dsimp only
      rw [Int.toNat_natCast, hx, e4, e1]
      exact Tr.is_br_t c0 (Tr.is_ast c1 (Tr.is_ast p.2 (Tr.is_leaf rfl)))
    · rw [← r2]
      refine runL_next ?_
      unfold l_SoftSums_L0_step l_SoftSums_L0_T
      dsimp only
      rw [Int.toNat_natCast, hx, e4, e2]
      exact Tr.is_br_t c0 (Tr.is_ast c1 (Tr.is_ast q.2 (Tr.is_leaf rfl)))
theorem SoftSums_both {l : List Int} (hl : WdL l) {mode : Int} : l_SoftSums mode l = true ∧ l_SoftSums_s mode l = true := by
  suffices h : Tr.Is (l_SoftSums_t mode l) true from h
  refine pre6 ?_
  by_cases hlen : (l.length : Int) > 100
  · exact Tr.is_br_t (dt hlen) (Tr.is_leaf works6.1)
  · obtain ⟨r, r1, r2⟩ := sum_run hl (by omega) mode l6_works l.length 0 0 (by omega) (by unfold Wd; omega)
    have h1 : s_Sum_L0_r (mode, l, (l.length : Int)) (0, 0) = some (r, (l.length : Int)) := runB_of r1 (by omega)
    have h2 : l_SoftSums_L0_r (mode, l, l6_works) (0, 0) = some (r, (l.length : Int)) := runB_of r2 (by omega)
    have p : Tr.Is (s_Sum_t mode l) r := by
      unfold s_Sum_t s_Sum_T
      exact Tr.is_ast (by unfold s_Sum_L0_ok; rw [h1]; rfl) (Tr.is_leaf (by unfold s_Sum_L0_v; rw [h1]; rfl))
    have e : s_Sum mode l = r := p.1
    refine Tr.is_br_f (df hlen) (Tr.is_ast (by unfold l_SoftSums_L0_ok; rw [h2]; rfl) (Tr.is_br_t works6.1 (Tr.is_ast p.2 (Tr.is_leaf ?_))))
    rw [e]
    unfold l_SoftSums_L0_v
    rw [h2]
    exact bt rfl
end Go.Fb
