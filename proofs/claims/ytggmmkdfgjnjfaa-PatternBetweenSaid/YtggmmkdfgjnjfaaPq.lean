/- Layer 4: the laws hold, in plain Lean. Conditions: as each theorem states. -/
import Derived.Test.YtggmmkdfgjnjfaaPl
import Derived.Test.YtggmmkdfgjnjfaaPp
namespace Go.Fb
open Go.Ev
set_option maxRecDepth 100000 in
theorem works4 : l4_works = true ∧ l4_works_s = true := by decide +kernel
end Go.Fb
namespace Go.Fb
open Go.Ev
theorem pre4 {t : Tr Bool} (h : Tr.Is t true) : Tr.Is (.ast l4_works_s (.br (!l4_works) (.leaf false) t)) true :=
  Tr.is_ast works4.2 (Tr.is_br_f (by rw [works4.1]; rfl) h)
theorem PatternNeighbours_both {f : Int} (hf : Wd f) : l_PatternNeighbours f = true ∧ l_PatternNeighbours_s f = true := by
  obtain ⟨s, k, hk, rfl⟩ := fl_of hf
  suffices h : Tr.Is (l_PatternNeighbours_t (fl s k)) true from h
  exact pre4 (Tr.is_br_t works4.1 (Tr.is_br_t (bt (by rw [next_spec hk, rnext_spec hk])) (Tr.is_leaf (bt (by rw [prev_spec hk, rprev_spec hk])))))
theorem PatternParts_both {f : Int} (hf : Wd f) {neg : Bool} {exp frac : Int} (he : -9223372036854775808 ≤ exp ∧ exp ≤ 9223372036854775807) (hr : Wd frac) : l_PatternParts f neg exp frac = true ∧ l_PatternParts_s f neg exp frac = true := by
  obtain ⟨s, k, hk, rfl⟩ := fl_of hf
  unfold Wd at hr
  have p1 := parts_spec (s := s) hk
  have p2 := rparts_spec (s := s) hk
  have s1 := split_spec (s := s) hk
  have s2 := rsplit_spec (s := s) hk
  have c1 := class_spec (s := s) hk
  have c2 := rclass_spec (s := s) hk
  have m1 := make_spec (s := s) (e := k / 4503599627370496) (m := k % 4503599627370496) (by omega) (Nat.mod_lt _ (by decide))
  rw [Nat.div_add_mod] at m1
  have hm : (decide (exp ≥ 0) = true ∧ decide (exp < 2048) = true ∧ decide (frac < 4503599627370496) = true ∧ ((p_Make neg exp frac).2 != 0) = false ∧ ((p_Make neg exp frac).1 != r4_Make neg exp frac) = false) ∨
      ((decide (exp ≥ 0) = false ∨ decide (exp ≥ 0) = true ∧ decide (exp < 2048) = false ∨ decide (exp ≥ 0) = true ∧ decide (exp < 2048) = true ∧ decide (frac < 4503599627370496) = false) ∧ ((p_Make neg exp frac).2 != 1) = false ∧ ((p_Make neg exp frac).1 != 0) = false) := by
    by_cases h1 : exp < 0
    · rw [make_bad (.inl h1)]; exact .inr ⟨.inl (df (by omega)), rfl, rfl⟩
    by_cases h2 : 2047 < exp
    · rw [make_bad (.inr (.inl h2))]; exact .inr ⟨.inr (.inl ⟨dt (by omega), df (by omega)⟩), rfl, rfl⟩
    by_cases h3 : 4503599627370495 < frac
    · rw [make_bad (.inr (.inr h3))]; exact .inr ⟨.inr (.inr ⟨dt (by omega), dt (by omega), df (by omega)⟩), rfl, rfl⟩
    obtain ⟨E, rfl⟩ : ∃ E : Nat, exp = (E : Int) := ⟨exp.toNat, by omega⟩
    obtain ⟨F, rfl⟩ : ∃ F : Nat, frac = (F : Int) := ⟨frac.toNat, by omega⟩
    rw [make_spec (by omega) (by omega), rmake_spec (by omega) (by omega)]
    exact .inl ⟨dt (by omega), dt (by omega), dt (by omega), rfl, bne_self_eq_false _⟩
  rcases hm with hm | ⟨hm | hm | hm, hm2⟩ <;>
    simp only [l_PatternParts, l_PatternParts_s, l_PatternParts_t, l_PatternParts_T, works4.1, works4.2, *, Tr.val, Tr.safe, cond_true, cond_false, Bool.not_true, Bool.not_false, Bool.true_and, beq_self_eq_true, and_self]
theorem PatternValues_both {f : Int} (hf : Wd f) : l_PatternValues f = true ∧ l_PatternValues_s f = true := by
  obtain ⟨s, k, hk, rfl⟩ := fl_of hf
  suffices h : Tr.Is (l_PatternValues_t (fl s k)) true from h
  by_cases h : k < 9218868437227405312
  · obtain ⟨v1, r, v2, v3⟩ := value_spec (s := s) h
    obtain ⟨w1, w2⟩ := rvalue_spec (s := s) h
    obtain ⟨a1, a2, a3⟩ := v3
    obtain ⟨b1, b2, b3, b4, b5, b6, b7⟩ := w2
    obtain ⟨i1, i2⟩ := isT a1 (by omega) (by omega) b1
    obtain ⟨j1, j2⟩ := isT a2 (by omega) (by omega) b3
    have e : (p_Value (fl s k)).1 = r := by rw [v2]
    refine pre4 (Tr.is_ast v1 (Tr.is_br_f (by rw [finite_spec hk, dt h]; rfl) (Tr.is_ast w1 (Tr.is_br_t works4.1 (Tr.is_br_t (by rw [v2]) (Tr.is_br_t (by rw [e, a3, b5]; simp) (Tr.is_ast (by rw [e]; exact i2) (Tr.is_br_t (by rw [e]; exact i1) (Tr.is_ast (by rw [e]; exact j2) (Tr.is_leaf (by rw [e]; exact j1)))))))))))
  · obtain ⟨v1, v2⟩ := value_none (s := s) hk (by omega)
    exact pre4 (Tr.is_ast v1 (Tr.is_br_t (by rw [finite_spec hk, df h]; rfl) (Tr.is_br_t works4.1 (Tr.is_br_t (by rw [v2]; rfl) (Tr.is_br_t (by rw [v2]; rfl) (Tr.is_br_t (by rw [v2]; rfl) (Tr.is_leaf (by rw [v2]; rfl))))))))
theorem cmp_val {s t : Bool} {k j : Nat} (hk : k < 9223372036854775808) (hj : j < 9223372036854775808) {c : Int} (hc : k < 9218868437227405312 → j < 9218868437227405312 → c = cmpZ (ky s k) (ky t j)) :
    Tr.Is (.ast (p_Value_s (fl s k)) (.ast (p_Value_s (fl t j)) (.br l4_works (.br (!(p_Value (fl s k)).2) (.leaf true) (.br (!(p_Value (fl t j)).2) (.leaf true) (.ast (q_Cmp_s (p_Value (fl s k)).1 (p_Value (fl t j)).1) (.leaf (q_Cmp (p_Value (fl s k)).1 (p_Value (fl t j)).1 == c))))) (.leaf false)))) true := by
  by_cases h : k < 9218868437227405312
  · obtain ⟨v1, r, v2, v3⟩ := value_spec (s := s) h
    by_cases g : j < 9218868437227405312
    · obtain ⟨w1, q, w2, w3⟩ := value_spec (s := t) g
      obtain ⟨c1, c2⟩ := qcmp_spec v3.RW w3.RW (by omega) (by omega)
      rw [v3.val, w3.val, fv_cmp h g] at c2
      refine Tr.is_ast v1 (Tr.is_ast w1 (Tr.is_br_t works4.1 (Tr.is_br_f (by rw [v2]; rfl) (Tr.is_br_f (by rw [w2]; rfl) (Tr.is_ast (by rw [v2, w2]; exact c1) (Tr.is_leaf (by rw [v2, w2]; show (q_Cmp r q == c) = true; rw [c2, hc h g]; simp)))))))
    · obtain ⟨w1, w2⟩ := value_none (s := t) hj (by omega)
      exact Tr.is_ast v1 (Tr.is_ast w1 (Tr.is_br_t works4.1 (Tr.is_br_f (by rw [v2]; rfl) (Tr.is_br_t (by rw [w2]; rfl) (Tr.is_leaf rfl)))))
  · obtain ⟨v1, v2⟩ := value_none (s := s) hk (by omega)
    have w1 : p_Value_s (fl t j) = true := by
      by_cases g : j < 9218868437227405312
      · exact (value_spec (s := t) g).1
      · exact (value_none (s := t) hj (by omega)).1
    exact Tr.is_ast v1 (Tr.is_ast w1 (Tr.is_br_t works4.1 (Tr.is_br_t (by rw [v2]; rfl) (Tr.is_leaf rfl))))
theorem PatternOrders_both {a b : Int} (ha : Wd a) (hb : Wd b) : l_PatternOrders a b = true ∧ l_PatternOrders_s a b = true := by
  obtain ⟨s, k, hk, rfl⟩ := fl_of ha
  obtain ⟨t, j, hj, rfl⟩ := fl_of hb
  suffices h : Tr.Is (l_PatternOrders_t (fl s k) (fl t j)) true from h
  have c1 := fcmp_spec (s := s) (t := t) hk hj
  have c2 := rfcmp_spec (s := s) (t := t) hk hj
  have c3 := less_spec (s := s) (t := t) hk hj
  unfold l_PatternOrders_t l_PatternOrders_T
  simp only [c1, c2, c3]
  refine pre4 (Tr.is_br_f (bne_self_eq_false _) (Tr.is_br_f (by simp) ?_))
  unfold fcmp fless
  by_cases hn : 9218868437227405312 < k ∨ 9218868437227405312 < j
  · rw [if_pos hn]
    exact Tr.is_br_f rfl (Tr.is_br_f (by rw [df (p := k ≤ _ ∧ _) (by omega)]; rfl) (cmp_val hk hj fun h g => by omega))
  · rw [if_neg hn]
    refine Tr.is_br_t rfl (Tr.is_br_f ?_ (cmp_val hk hj fun _ _ => rfl))
    unfold cmpZ
    by_cases hl : ky s k < ky t j
    · simp only [if_pos hl]; rw [dt (p := k ≤ 9218868437227405312 ∧ j ≤ 9218868437227405312 ∧ ky s k < ky t j) (by omega)]; rfl
    · simp only [if_neg hl]; rw [df (p := k ≤ 9218868437227405312 ∧ j ≤ 9218868437227405312 ∧ ky s k < ky t j) (by omega)]
      split <;> rfl
theorem ky_next {s : Bool} {k : Nat} (hk : k ≤ 9218868437227405312) (hi : ¬ (s = false ∧ k = 9218868437227405312)) : ∃ t j, nextF s k = fl t j ∧ j ≤ 9218868437227405312 ∧ ky t j = ky s k + 1 := by
  unfold nextF
  rw [if_neg (by omega), if_neg hi]
  by_cases h0 : k = 0
  · rw [if_pos h0]; exact ⟨false, 1, rfl, by omega, by subst h0; cases s <;> rfl⟩
  · rw [if_neg h0]
    cases s with
    | true => exact ⟨true, k - 1, rfl, by omega, by unfold ky; simp; omega⟩
    | false =>
      have : k ≠ 9218868437227405312 := fun h => hi ⟨rfl, h⟩
      exact ⟨false, k + 1, rfl, by omega, by unfold ky; simp⟩
theorem ky_prev {s : Bool} {k : Nat} (hk : k ≤ 9218868437227405312) (hi : ¬ (s = true ∧ k = 9218868437227405312)) : ∃ t j, prevF s k = fl t j ∧ j ≤ 9218868437227405312 ∧ ky t j = ky s k - 1 := by
  unfold prevF
  rw [if_neg (by omega), if_neg hi]
  by_cases h0 : k = 0
  · rw [if_pos h0]; exact ⟨true, 1, rfl, by omega, by subst h0; cases s <;> rfl⟩
  · rw [if_neg h0]
    cases s with
    | false => exact ⟨false, k - 1, rfl, by omega, by unfold ky; simp; omega⟩
    | true =>
      have : k ≠ 9218868437227405312 := fun h => hi ⟨rfl, h⟩
      exact ⟨true, k + 1, rfl, by omega, by unfold ky; simp; omega⟩
theorem PatternBetween_both {f g : Int} (hf : Wd f) (hg : Wd g) : l_PatternBetween f g = true ∧ l_PatternBetween_s f g = true := by
  obtain ⟨s, k, hk, rfl⟩ := fl_of hf
  obtain ⟨t, j, hj, rfl⟩ := fl_of hg
  suffices h : Tr.Is (l_PatternBetween_t (fl s k) (fl t j)) true from h
  unfold l_PatternBetween_t l_PatternBetween_T
  rw [class_spec hk, cls4, next_spec hk, inf_spec, fl_eq hk (by omega), less_spec hk hj]
  by_cases hn : 9218868437227405312 < k
  · refine pre4 (Tr.is_br_t (dt hn) (Tr.is_br_t works4.1 (Tr.is_leaf (bt ?_))))
    unfold nextF; rw [if_pos hn]
  by_cases hi : s = false ∧ k = 9218868437227405312
  · refine pre4 (Tr.is_br_f (df hn) (Tr.is_br_t (by rw [hi.1, hi.2]; rfl) (Tr.is_br_t works4.1 (Tr.is_leaf (bt ?_)))))
    unfold nextF; rw [if_neg hn, if_pos hi]
  obtain ⟨u, i, e1, hi1, hi2⟩ := ky_next (s := s) (k := k) (by omega) hi
  have hu : ¬ (u = true ∧ i = 9218868437227405312) := by
    rintro ⟨rfl, rfl⟩
    unfold ky at hi2
    cases s <;> simp at hi2 <;> omega
  obtain ⟨w, m, e2, hm1, hm2⟩ := ky_prev hi1 hu
  have hc : (decide (s = false) && decide (k = 9218868437227405312)) = false := by
    cases h : (decide (s = false) && decide (k = 9218868437227405312)) with
    | false => rfl
    | true => simp only [Bool.and_eq_true, decide_eq_true_eq] at h; exact absurd h hi
  have hup : fless s k u i = true := dt (by omega)
  have hback : fcmp w m s k = (0, true) := by
    unfold fcmp cmpZ; rw [if_neg (by omega), if_neg (by omega), if_neg (by omega)]
  rw [e1, less_spec hk (by omega), less_spec hj (by omega), prev_spec (by omega), e2, fcmp_spec (by omega) hk, hback]
  refine pre4 (Tr.is_br_f (df hn) (Tr.is_br_f hc ?_))
  cases hb : fless s k t j with
  | false => exact Tr.is_br_f rfl (Tr.is_br_t works4.1 (Tr.is_br_t hup (Tr.is_br_t rfl (Tr.is_leaf rfl))))
  | true =>
    have h1 := of_decide_eq_true hb
    have h2 : fless t j u i = false := df (by omega)
    exact Tr.is_br_t rfl (Tr.is_br_t works4.1 (Tr.is_br_t hup (Tr.is_br_t (by rw [h2]; rfl) (Tr.is_br_t rfl (Tr.is_leaf rfl)))))
theorem PatternSigns_both {f : Int} (hf : Wd f) : l_PatternSigns f = true ∧ l_PatternSigns_s f = true := by
  obtain ⟨s, k, hk, rfl⟩ := fl_of hf
  suffices h : Tr.Is (l_PatternSigns_t (fl s k)) true from h
  unfold l_PatternSigns_t l_PatternSigns_T
  rw [class_spec hk, cls4, neg_spec hk, fabs_spec hk]
  by_cases hn : 9218868437227405312 < k
  · rw [if_pos hn, if_pos hn]
    exact pre4 (Tr.is_br_t (dt hn) (Tr.is_br_t works4.1 (Tr.is_br_t (bt rfl) (Tr.is_leaf (bt rfl)))))
  · rw [if_neg hn, if_neg hn, parts_spec hk, parts_spec hk, parts_spec hk, neg_fl (by omega), Bool.not_not]
    exact pre4 (Tr.is_br_f (df hn) (Tr.is_br_t works4.1 (Tr.is_br_t (by cases s <;> rfl) (Tr.is_br_t (bt rfl) (Tr.is_br_t (bt rfl) (Tr.is_br_t rfl (Tr.is_br_t (bt rfl) (Tr.is_br_t (bt rfl) (Tr.is_leaf (bt rfl))))))))))
end Go.Fb
namespace Go.Fb
open Go.Ev
theorem less_key {a b : Int} (ha : Wd a) (hb : Wd b) : p_Less a b = (!p_nan a && (!p_nan b && decide (p_key a < p_key b))) := by
  obtain ⟨s, k, hk, rfl⟩ := fl_of ha
  obtain ⟨t, j, hj, rfl⟩ := fl_of hb
  rw [less_spec hk hj, nan_spec hk, nan_spec hj, key_spec hk, key_spec hj]
  unfold fless
  by_cases h1 : 9218868437227405312 < k
  · rw [dt h1, df (p := k ≤ _ ∧ _) (by omega)]; rfl
  · by_cases h2 : 9218868437227405312 < j
    · rw [df h1, dt h2, df (p := k ≤ _ ∧ _) (by omega)]; rfl
    · rw [df h1, df h2]
      by_cases h3 : ky s k < ky t j
      · rw [dt h3, dt (p := k ≤ 9218868437227405312 ∧ j ≤ 9218868437227405312 ∧ ky s k < ky t j) (by omega)]; rfl
      · rw [df h3, df (p := k ≤ 9218868437227405312 ∧ j ≤ 9218868437227405312 ∧ ky s k < ky t j) (by omega)]; rfl
def WdL (l : List Int) : Prop := ∀ x ∈ l, Wd x
theorem WdL.at {l : List Int} (h : WdL l) {i : Nat} (hi : i < l.length) : Wd (l.getD i 0) := h _ (by simp [List.getD, hi])
/-- what 'best' answers: the quiet NaN, or one that none is better than -/
def BestOk (l : List Int) (bet : Int → Int → Bool) : (Int × Int) ⊕ Int → Prop
  | .inl (m, _) => ∃ t, t < l.length ∧ m = l.getD t 0 ∧ ∀ j, j < l.length → p_nan (l.getD j 0) = false ∧ bet (p_key (l.getD j 0)) (p_key m) = false
  | .inr q => q = 9221120237041090560 ∧ ∃ j, j < l.length ∧ p_nan (l.getD j 0) = true
theorem bestM_run {l : List Int} (hw : WdL l) (hl : l.length ≤ 1000000) : ∀ (m i t : Nat), i + m = l.length → t < l.length → (t < i ∨ i = 0 ∧ t = 0) → (∀ j, j < i → p_nan (l.getD j 0) = false ∧ p_key (l.getD j 0) ≤ p_key (l.getD t 0)) →
    ∃ r, runL (p_bestM_L0_step (l, (l.length : Int))) (m + 1) (l.getD t 0, (i : Int)) = some r ∧ BestOk l (fun x y => decide (y < x)) r
  | 0, i, t, hi, ht, hti, hm => by
    have : i = l.length := by omega
    subst this
    exact ⟨.inl (l.getD t 0, _), runL_out (Tr.is_br_f (df (by first | omega | (dsimp only; omega))) (Tr.is_leaf rfl)), t, ht, rfl, fun j hj => ⟨(hm j hj).1, df (by have := (hm j hj).2; omega)⟩⟩
  | m + 1, i, t, hi, ht, hti, hm => by
    have hil : i < l.length := by omega
    have c0 : decide ((i : Int) < (l.length : Int)) = true := dt (by omega)
    have c1 : (decide ((0 : Int) ≤ (i : Int)) && decide ((i : Int) < (l.length : Int))) = true := by simp; omega
    have e4 : IntKind.i64.wrap ((i : Int) + 1) = ((i + 1 : Nat) : Int) := wnext (by omega)
    cases hn : p_nan (l.getD i 0) with
    | true => exact ⟨.inr p_Quiet, runL_out (Tr.is_br_t c0 (Tr.is_ast c1 (Tr.is_br_t hn (Tr.is_leaf rfl)))), rfl, i, hil, hn⟩
    | false =>
      have hnt : p_nan (l.getD t 0) = false := by
        rcases hti with h | ⟨h1, h2⟩
        · exact (hm t h).1
        · rw [h2, ← h1]; exact hn
      have hless : p_Max1 (l.getD i 0) (l.getD t 0) = decide (p_key (l.getD t 0) < p_key (l.getD i 0)) := by
        have e : p_Max1 (l.getD i 0) (l.getD t 0) = p_Less (l.getD t 0) (l.getD i 0) := rfl
        rw [e, less_key (hw.at ht) (hw.at hil), hn, hnt]; rfl
      by_cases hgt : p_key (l.getD t 0) < p_key (l.getD i 0)
      · rw [dt hgt] at hless
        obtain ⟨r, r1, r2⟩ := bestM_run hw hl m (i + 1) i (by omega) hil (by omega) (fun j hj => by
          by_cases hji : j < i
          · have := hm j hji; exact ⟨this.1, by omega⟩
          · have : j = i := by omega
            subst this; exact ⟨hn, by omega⟩)
        refine ⟨r, ?_, r2⟩
        rw [← r1]
        exact runL_next (Tr.is_br_t c0 (Tr.is_ast c1 (Tr.is_br_f hn (Tr.is_br_t hless (Tr.is_leaf (by rw [e4]; rfl))))))
      · rw [df hgt] at hless
        obtain ⟨r, r1, r2⟩ := bestM_run hw hl m (i + 1) t (by omega) ht (by omega) (fun j hj => by
          by_cases hji : j < i
          · exact hm j hji
          · have : j = i := by omega
            subst this; exact ⟨hn, by omega⟩)
        refine ⟨r, ?_, r2⟩
        rw [← r1]
        exact runL_next (Tr.is_br_t c0 (Tr.is_ast c1 (Tr.is_br_f hn (Tr.is_br_f hless (Tr.is_leaf (by rw [e4]))))))
theorem bestL_run {l : List Int} (hw : WdL l) (hl : l.length ≤ 1000000) : ∀ (m i t : Nat), i + m = l.length → t < l.length → (t < i ∨ i = 0 ∧ t = 0) → (∀ j, j < i → p_nan (l.getD j 0) = false ∧ p_key (l.getD t 0) ≤ p_key (l.getD j 0)) →
    ∃ r, runL (p_bestL_L0_step (l, (l.length : Int))) (m + 1) (l.getD t 0, (i : Int)) = some r ∧ BestOk l (fun x y => decide (x < y)) r
  | 0, i, t, hi, ht, hti, hm => by
    have : i = l.length := by omega
    subst this
    exact ⟨.inl (l.getD t 0, _), runL_out (Tr.is_br_f (df (by first | omega | (dsimp only; omega))) (Tr.is_leaf rfl)), t, ht, rfl, fun j hj => ⟨(hm j hj).1, df (by have := (hm j hj).2; omega)⟩⟩
  | m + 1, i, t, hi, ht, hti, hm => by
    have hil : i < l.length := by omega
    have c0 : decide ((i : Int) < (l.length : Int)) = true := dt (by omega)
    have c1 : (decide ((0 : Int) ≤ (i : Int)) && decide ((i : Int) < (l.length : Int))) = true := by simp; omega
    have e4 : IntKind.i64.wrap ((i : Int) + 1) = ((i + 1 : Nat) : Int) := wnext (by omega)
    cases hn : p_nan (l.getD i 0) with
    | true => exact ⟨.inr p_Quiet, runL_out (Tr.is_br_t c0 (Tr.is_ast c1 (Tr.is_br_t hn (Tr.is_leaf rfl)))), rfl, i, hil, hn⟩
    | false =>
      have hnt : p_nan (l.getD t 0) = false := by
        rcases hti with h | ⟨h1, h2⟩
        · exact (hm t h).1
        · rw [h2, ← h1]; exact hn
      have hless : p_Less (l.getD i 0) (l.getD t 0) = decide (p_key (l.getD i 0) < p_key (l.getD t 0)) := by
        rw [less_key (hw.at hil) (hw.at ht), hn, hnt]; rfl
      by_cases hgt : p_key (l.getD i 0) < p_key (l.getD t 0)
      · rw [dt hgt] at hless
        obtain ⟨r, r1, r2⟩ := bestL_run hw hl m (i + 1) i (by omega) hil (by omega) (fun j hj => by
          by_cases hji : j < i
          · have := hm j hji; exact ⟨this.1, by omega⟩
          · have : j = i := by omega
            subst this; exact ⟨hn, by omega⟩)
        refine ⟨r, ?_, r2⟩
        rw [← r1]
        exact runL_next (Tr.is_br_t c0 (Tr.is_ast c1 (Tr.is_br_f hn (Tr.is_br_t hless (Tr.is_leaf (by rw [e4]; rfl))))))
      · rw [df hgt] at hless
        obtain ⟨r, r1, r2⟩ := bestL_run hw hl m (i + 1) t (by omega) ht (by omega) (fun j hj => by
          by_cases hji : j < i
          · exact hm j hji
          · have : j = i := by omega
            subst this; exact ⟨hn, by omega⟩)
        refine ⟨r, ?_, r2⟩
        rw [← r1]
        exact runL_next (Tr.is_br_t c0 (Tr.is_ast c1 (Tr.is_br_f hn (Tr.is_br_f hless (Tr.is_leaf (by rw [e4]))))))
/-- Max or Min: the quiet NaN where there is none, or one is no number -/
def MostOk (l : List Int) (bet : Int → Int → Bool) (v : Int) : Prop :=
  (v = 9221120237041090560 ∧ (l.length = 0 ∨ ∃ j, j < l.length ∧ p_nan (l.getD j 0) = true)) ∨ (∃ t, t < l.length ∧ v = l.getD t 0 ∧ ∀ j, j < l.length → p_nan (l.getD j 0) = false ∧ bet (p_key (l.getD j 0)) (p_key v) = false)
theorem pmax_spec {l : List Int} (hw : WdL l) (hl : l.length ≤ 1000000) : p_Max_s l = true ∧ MostOk l (fun x y => decide (y < x)) (p_Max l) := by
  suffices h : ∃ v, Tr.Is (p_bestM_t l ()) v ∧ MostOk l (fun x y => decide (y < x)) v by
    obtain ⟨v, h1, h2⟩ := h
    have e : p_bestM l () = v := h1.1
    have : Tr.Is (p_Max_t l) v := Tr.is_ast h1.2 (Tr.is_leaf e)
    have e2 : p_Max l = v := this.1
    rw [e2]; exact ⟨this.2, h2⟩
  by_cases h0 : l.length = 0
  · exact ⟨_, Tr.is_br_t (bt (by omega)) (Tr.is_leaf rfl), .inl ⟨rfl, .inl h0⟩⟩
  · obtain ⟨r, r1, r2⟩ := bestM_run hw hl l.length 0 0 (by omega) (by omega) (.inr ⟨rfl, rfl⟩) (fun j hj => by omega)
    have hr : p_bestM_L0_r (l, (l.length : Int)) (l.getD 0 0, 0) = some r := runB_of r1 (by omega)
    have pre : ∀ v, Tr.Is (.br (p_bestM_L0_rt (l, (l.length : Int)) (l.getD 0 0, 0)) (.leaf (p_bestM_L0_rv (l, (l.length : Int)) (l.getD 0 0, 0))) (.leaf (p_bestM_L0_v (l, (l.length : Int)) (l.getD 0 0, 0)).1)) v → Tr.Is (p_bestM_t l ()) v := fun v hv =>
      Tr.is_br_f (bf (by omega)) (Tr.is_ast (dt (by omega)) (Tr.is_ast (by show p_bestM_L0_ok (l, (l.length : Int)) (l.getD 0 0, 0) = true; unfold p_bestM_L0_ok; rw [hr]; rfl) hv))
    match r, r2, hr with
    | .inl (m, a), ⟨t, h1, h2, h3⟩, hr =>
      refine ⟨m, pre _ (Tr.is_br_f ?_ (Tr.is_leaf ?_)), .inr ⟨t, h1, h2, h3⟩⟩
      · unfold p_bestM_L0_rt; rw [hr]; rfl
      · unfold p_bestM_L0_v; rw [hr]; rfl
    | .inr q, ⟨h1, h2⟩, hr =>
      refine ⟨q, pre _ (Tr.is_br_t ?_ (Tr.is_leaf ?_)), .inl ⟨h1, .inr h2⟩⟩
      · unfold p_bestM_L0_rt; rw [hr]; rfl
      · unfold p_bestM_L0_rv; rw [hr]; rfl
theorem pmin_spec {l : List Int} (hw : WdL l) (hl : l.length ≤ 1000000) : p_Min_s l = true ∧ MostOk l (fun x y => decide (x < y)) (p_Min l) := by
  suffices h : ∃ v, Tr.Is (p_bestL_t l ()) v ∧ MostOk l (fun x y => decide (x < y)) v by
    obtain ⟨v, h1, h2⟩ := h
    have e : p_bestL l () = v := h1.1
    have : Tr.Is (p_Min_t l) v := Tr.is_ast h1.2 (Tr.is_leaf e)
    have e2 : p_Min l = v := this.1
    rw [e2]; exact ⟨this.2, h2⟩
  by_cases h0 : l.length = 0
  · exact ⟨_, Tr.is_br_t (bt (by omega)) (Tr.is_leaf rfl), .inl ⟨rfl, .inl h0⟩⟩
  · obtain ⟨r, r1, r2⟩ := bestL_run hw hl l.length 0 0 (by omega) (by omega) (.inr ⟨rfl, rfl⟩) (fun j hj => by omega)
    have hr : p_bestL_L0_r (l, (l.length : Int)) (l.getD 0 0, 0) = some r := runB_of r1 (by omega)
    have pre : ∀ v, Tr.Is (.br (p_bestL_L0_rt (l, (l.length : Int)) (l.getD 0 0, 0)) (.leaf (p_bestL_L0_rv (l, (l.length : Int)) (l.getD 0 0, 0))) (.leaf (p_bestL_L0_v (l, (l.length : Int)) (l.getD 0 0, 0)).1)) v → Tr.Is (p_bestL_t l ()) v := fun v hv =>
      Tr.is_br_f (bf (by omega)) (Tr.is_ast (dt (by omega)) (Tr.is_ast (by show p_bestL_L0_ok (l, (l.length : Int)) (l.getD 0 0, 0) = true; unfold p_bestL_L0_ok; rw [hr]; rfl) hv))
    match r, r2, hr with
    | .inl (m, a), ⟨t, h1, h2, h3⟩, hr =>
      refine ⟨m, pre _ (Tr.is_br_f ?_ (Tr.is_leaf ?_)), .inr ⟨t, h1, h2, h3⟩⟩
      · unfold p_bestL_L0_rt; rw [hr]; rfl
      · unfold p_bestL_L0_v; rw [hr]; rfl
    | .inr q, ⟨h1, h2⟩, hr =>
      refine ⟨q, pre _ (Tr.is_br_t ?_ (Tr.is_leaf ?_)), .inl ⟨h1, .inr h2⟩⟩
      · unfold p_bestL_L0_rt; rw [hr]; rfl
      · unfold p_bestL_L0_rv; rw [hr]; rfl
theorem bad_run {l : List Int} (hw : WdL l) (hl : l.length ≤ 1000000) (z : Bool) (a b : Int) : ∀ (m i : Nat) (c : Bool), i + m = l.length → (c = true ↔ l.length = 0 ∨ ∃ j, j < i ∧ p_nan (l.getD j 0) = true) →
    ∃ c', runL (l_PatternMost_L0_step (l, z, a, b)) (m + 1) (c, (i : Int)) = some (c', (l.length : Int)) ∧ (c' = true ↔ l.length = 0 ∨ ∃ j, j < l.length ∧ p_nan (l.getD j 0) = true)
  | 0, i, c, hi, hc => by
    have : i = l.length := by omega
    subst this
    exact ⟨c, runL_out (Tr.is_br_f (df (by first | omega | (dsimp only; omega))) (Tr.is_leaf rfl)), hc⟩
  | m + 1, i, c, hi, hc => by
    have hil : i < l.length := by omega
    have c0 : decide ((i : Int) < (l.length : Int)) = true := dt (by omega)
    have c1 : (decide ((0 : Int) ≤ (i : Int)) && decide ((i : Int) < (l.length : Int))) = true := by simp; omega
    have e4 : IntKind.i64.wrap ((i : Int) + 1) = ((i + 1 : Nat) : Int) := wnext (by omega)
    have hs : Tr.Is (l_PatternMost_L0_step (l, z, a, b) (c, (i : Int))) (.inl (c || p_nan (l.getD i 0), ((i + 1 : Nat) : Int))) := by
      cases c with
      | true => exact Tr.is_br_t c0 (Tr.is_br_t rfl (Tr.is_leaf (by rw [e4]; rfl)))
      | false => exact Tr.is_br_t c0 (Tr.is_br_f rfl (Tr.is_ast c1 (Tr.is_leaf (by rw [e4]; rfl))))
    obtain ⟨c', h1, h2⟩ := bad_run hw hl z a b m (i + 1) (c || p_nan (l.getD i 0)) (by omega) (by
      rw [Bool.or_eq_true, hc]
      constructor
      · rintro ((h | ⟨j, hj, hn⟩) | h)
        · exact .inl h
        · exact .inr ⟨j, by omega, hn⟩
        · exact .inr ⟨i, by omega, h⟩
      · rintro (h | ⟨j, hj, hn⟩)
        · exact .inl (.inl h)
        · by_cases hji : j < i
          · exact .inl (.inr ⟨j, hji, hn⟩)
          · have : j = i := by omega
            subst this; exact .inr hn)
    exact ⟨c', by rw [runL_next hs]; exact h1, h2⟩
theorem good_run {l : List Int} (hw : WdL l) (hl : l.length ≤ 1000000) (z : Bool) {a b : Int} (ha : ∀ j, j < l.length → p_Less a (l.getD j 0) = false) (hb : ∀ j, j < l.length → p_Less (l.getD j 0) b = false) : ∀ (m i : Nat) (c d : Bool), i + m = l.length →
    (∀ t, t < i → a = l.getD t 0 → c = true) → (∀ t, t < i → b = l.getD t 0 → d = true) →
    ∃ c' d', runL (l_PatternMost_L1_step (l, z, a, b)) (m + 1) (c, d, (i : Int)) = some (.inl (c', d', (l.length : Int))) ∧ (∀ t, t < l.length → a = l.getD t 0 → c' = true) ∧ (∀ t, t < l.length → b = l.getD t 0 → d' = true)
  | 0, i, c, d, hi, hc, hd => by
    have : i = l.length := by omega
    subst this
    exact ⟨c, d, runL_out (Tr.is_br_f (df (by first | omega | (dsimp only; omega))) (Tr.is_leaf rfl)), hc, hd⟩
  | m + 1, i, c, d, hi, hc, hd => by
    have hil : i < l.length := by omega
    have c0 : decide ((i : Int) < (l.length : Int)) = true := dt (by omega)
    have c1 : (decide ((0 : Int) ≤ (i : Int)) && decide ((i : Int) < (l.length : Int))) = true := by simp; omega
    have e4 : IntKind.i64.wrap ((i : Int) + 1) = ((i + 1 : Nat) : Int) := wnext (by omega)
    have hs : Tr.Is (l_PatternMost_L1_step (l, z, a, b) (c, d, (i : Int))) (.inl (c || (a == l.getD i 0), d || (b == l.getD i 0), ((i + 1 : Nat) : Int))) := by
      refine Tr.is_br_t c0 (Tr.is_ast c1 (Tr.is_br_f (ha i hil) (Tr.is_ast c1 (Tr.is_br_f (hb i hil) ?_))))
      cases c with
      | true => cases d with
        | true => exact Tr.is_br_t rfl (Tr.is_br_t rfl (Tr.is_leaf (by rw [e4]; rfl)))
        | false => exact Tr.is_br_t rfl (Tr.is_br_f rfl (Tr.is_ast c1 (Tr.is_leaf (by rw [e4]; rfl))))
      | false => cases d with
        | true => exact Tr.is_br_f rfl (Tr.is_ast c1 (Tr.is_br_t rfl (Tr.is_leaf (by rw [e4]; rfl))))
        | false => exact Tr.is_br_f rfl (Tr.is_ast c1 (Tr.is_br_f rfl (Tr.is_ast c1 (Tr.is_leaf (by rw [e4]; rfl)))))
    obtain ⟨c', d', h1, h2, h3⟩ := good_run hw hl z ha hb m (i + 1) (c || (a == l.getD i 0)) (d || (b == l.getD i 0)) (by omega) (fun t ht he => by
        by_cases hti : t < i
        · rw [hc t hti he]; rfl
        · have : t = i := by omega
          subst this; rw [← he]; simp) (fun t ht he => by
        by_cases hti : t < i
        · rw [hd t hti he]; rfl
        · have : t = i := by omega
          subst this; rw [← he]; simp)
    exact ⟨c', d', by rw [runL_next hs]; exact h1, h2, h3⟩
theorem PatternMost_both {l : List Int} (hw : WdL l) (hl : l.length ≤ 9223372036854775807) : l_PatternMost l = true ∧ l_PatternMost_s l = true := by
  suffices h : Tr.Is (l_PatternMost_t l) true from h
  refine pre4 ?_
  by_cases h100 : (l.length : Int) > 100
  · exact Tr.is_br_t (dt h100) (Tr.is_leaf works4.1)
  refine Tr.is_br_f (df h100) ?_
  obtain ⟨m1, m2⟩ := pmax_spec hw (by omega)
  obtain ⟨n1, n2⟩ := pmin_spec hw (by omega)
  obtain ⟨c, r1, r2⟩ := bad_run hw (by omega) l4_works (p_Max l) (p_Min l) l.length 0 ((l.length : Int) == 0) (by omega) (by
    constructor
    · intro h; left; have := eq_of_beq h; omega
    · rintro (h | ⟨j, hj, _⟩)
      · exact bt (by omega)
      · omega)
  have hr : l_PatternMost_L0_r (l, l4_works, p_Max l, p_Min l) ((l.length : Int) == 0, 0) = some (c, (l.length : Int)) := runB_of r1 (by omega)
  refine Tr.is_ast m1 (Tr.is_ast n1 (Tr.is_ast (by unfold l_PatternMost_L0_ok; rw [hr]; rfl) ?_))
  have hv : (l_PatternMost_L0_v (l, l4_works, p_Max l, p_Min l) ((l.length : Int) == 0, 0)).1 = c := by unfold l_PatternMost_L0_v; rw [hr]; rfl
  rw [hv]
  cases c with
  | true =>
    have hbad := r2.1 rfl
    have hq : ∀ {bet v}, MostOk l bet v → v = 9221120237041090560 := by
      rintro bet v (⟨h, _⟩ | ⟨t, ht, _, h⟩)
      · exact h
      · rcases hbad with h0 | ⟨j, hj, hn⟩
        · omega
        · have := (h j hj).1; rw [hn] at this; cases this
    exact Tr.is_br_t rfl (Tr.is_br_t works4.1 (Tr.is_br_t (by rw [hq m2]; rfl) (Tr.is_leaf (by rw [hq n2]; rfl))))
  | false =>
    have hgood : ¬ (l.length = 0 ∨ ∃ j, j < l.length ∧ p_nan (l.getD j 0) = true) := fun h => by have := r2.2 h; cases this
    rcases m2 with ⟨_, h⟩ | ⟨t, ht, et, hmax⟩
    · exact absurd h hgood
    rcases n2 with ⟨_, h⟩ | ⟨u, hu, eu, hmin⟩
    · exact absurd h hgood
    have wa : Wd (p_Max l) := by rw [et]; exact hw.at ht
    have wb : Wd (p_Min l) := by rw [eu]; exact hw.at hu
    obtain ⟨c, d, q1, q2, q3⟩ := good_run hw (by omega) l4_works (a := p_Max l) (b := p_Min l) (fun j hj => by
        have h : decide (p_key (p_Max l) < p_key (l.getD j 0)) = false := (hmax j hj).2
        rw [less_key wa (hw.at hj), h]; simp) (fun j hj => by
        have h : decide (p_key (l.getD j 0) < p_key (p_Min l)) = false := (hmin j hj).2
        rw [less_key (hw.at hj) wb, h]; simp) l.length 0 false false (by omega) (fun t h => by omega) (fun t h => by omega)
    have hq : l_PatternMost_L1_r (l, l4_works, p_Max l, p_Min l) (false, false, 0) = some (.inl (c, d, (l.length : Int))) := runB_of q1 (by omega)
    refine Tr.is_br_f rfl (Tr.is_ast ?_ (Tr.is_br_f ?_ (Tr.is_br_t works4.1 (Tr.is_br_t ?_ (Tr.is_leaf ?_)))))
    · unfold l_PatternMost_L1_ok; rw [hq]; rfl
    · unfold l_PatternMost_L1_rt; rw [hq]; rfl
    · unfold l_PatternMost_L1_v; rw [hq]; exact q2 t ht et
    · unfold l_PatternMost_L1_v; rw [hq]; exact q3 u hu eu
end Go.Fb
