/- Layer 6: the laws hold, in plain Lean. Conditions: as each theorem states. -/
import Derived.Test.YtggmmkdfgjnjfaaPq
import Derived.Test.YtggmmkdfgjnjfaaSl
import Derived.Test.YtggmmkdfgjnjfaaSp
namespace Go.Fb
open Go.Ev
theorem works6 : l6_works = true ∧ l6_works_s = true := by decide +kernel
end Go.Fb
namespace Go.Fb
open Go.Ev
theorem pre6 {t : Tr Bool} (h : Tr.Is t true) : Tr.Is (.ast l6_works_s (.br (!l6_works) (.leaf false) t)) true :=
  Tr.is_ast works6.2 (Tr.is_br_f (by rw [works6.1]; rfl) h)
def IsF (x : Int) : Prop := ∃ s k, k ≤ 9218868437227405312 ∧ x = fl s k
theorem ExF.isF {x : Rat} {mode : Int} {v : Int × Int} (h : ExF x mode v) : IsF v.1 := by
  obtain ⟨K, a, b, _, rfl⟩ := h
  exact ⟨_, _, rans_le, rfl⟩
theorem IsF.wd {x : Int} (h : IsF x) : Wd x := by
  obtain ⟨s, k, hk, rfl⟩ := h
  exact fl_wd (by omega)
theorem AddV.wd {s t : Bool} {k j : Nat} {mode : Int} {v : Int × Int} (h : AddV s k t j mode v) : Wd v.1 := by
  cases h with
  | nan h e => rw [e]; unfold Wd; dsimp only; omega
  | bad h e => rw [e]; unfold Wd; dsimp only; omega
  | infa h e => rw [e]; exact fl_wd (by omega)
  | infb h e => rw [e]; exact fl_wd (by omega)
  | fin h w =>
    rcases w with ⟨_, e⟩ | ⟨_, e⟩
    · rw [e]; split <;> exact fl_wd (by omega)
    · exact e.isF.wd
end Go.Fb
namespace Go.Fb
open Go.Ev
end Go.Fb
namespace Go.Fb
open Go.Ev
theorem AddW.unique {s t : Bool} {x : Rat} {mode : Int} {v w : Int × Int} (h : AddW s t x mode v) (g : AddW s t x mode w) : v = w := by
  rcases h with ⟨h1, h2⟩ | ⟨h1, h2⟩
  · rcases g with ⟨g1, g2⟩ | ⟨g1, g2⟩
    · rw [h2, g2]
    · exact absurd h1 g1
  · rcases g with ⟨g1, g2⟩ | ⟨g1, g2⟩
    · exact absurd g1 h1
    · exact h2.unique g2
theorem AddV.unique {s t : Bool} {k j : Nat} {mode : Int} {v w : Int × Int} (h : AddV s k t j mode v) (g : AddV s k t j mode w) : v = w := by
  cases h with
  | nan h e => cases g with
    | nan _ e' => rw [e, e']
    | bad g _ => omega
    | infa g _ => omega
    | infb g _ => omega
    | fin g _ => omega
  | bad h e => cases g with
    | nan g _ => omega
    | bad _ e' => rw [e, e']
    | infa g _ => exact absurd (g.2.2 h.2.1) h.2.2
    | infb g _ => omega
    | fin g _ => omega
  | infa h e => cases g with
    | nan g _ => omega
    | bad g _ => exact absurd (h.2.2 g.2.1) g.2.2
    | infa _ e' => rw [e, e']
    | infb g _ => omega
    | fin g _ => omega
  | infb h e => cases g with
    | nan g _ => omega
    | bad g _ => omega
    | infa g _ => omega
    | infb _ e' => rw [e, e']
    | fin g _ => omega
  | fin h w1 => cases g with
    | nan g _ => omega
    | bad g _ => omega
    | infa g _ => omega
    | infb g _ => omega
    | fin _ w2 => exact w1.unique w2
theorem AddW.symm {s t : Bool} {x : Rat} {mode : Int} {v : Int × Int} (h : AddW s t x mode v) : AddW t s x mode v := by
  rcases h with ⟨h1, h2⟩ | h
  · refine .inl ⟨h1, ?_⟩
    rw [h2]
    by_cases e : s = t
    · rw [if_pos e, if_pos e.symm, e]
    · rw [if_neg e, if_neg (fun g => e g.symm)]
  · exact .inr h
theorem AddV.symm {s t : Bool} {k j : Nat} {mode : Int} {v : Int × Int} (h : AddV s k t j mode v) : AddV t j s k mode v := by
  cases h with
  | nan h e => exact .nan (by omega) e
  | bad h e => exact .bad ⟨h.2.1, h.1, fun g => h.2.2 g.symm⟩ e
  | infa h e =>
    by_cases g : j = 9218868437227405312
    · exact .infa ⟨g, by omega, fun _ => (h.2.2 g).symm⟩ (by rw [e, h.2.2 g])
    · exact .infb ⟨by omega, h.1⟩ e
  | infb h e => exact .infa ⟨h.2, by omega, fun g => by omega⟩ e
  | fin h w => exact .fin ⟨h.2, h.1⟩ (by rw [Rat.add_comm]; exact w.symm)
theorem MulV.unique {s t : Bool} {k j : Nat} {mode : Int} {v w : Int × Int} (h : MulV s k t j mode v) (g : MulV s k t j mode w) : v = w := by
  cases h with
  | nan h e => cases g with
    | nan _ e' => rw [e, e']
    | bad g _ => omega
    | inf g _ => omega
    | zero g _ => omega
    | fin g _ => omega
  | bad h e => cases g with
    | nan g _ => omega
    | bad _ e' => rw [e, e']
    | inf g _ => omega
    | zero g _ => omega
    | fin g _ => omega
  | inf h e => cases g with
    | nan g _ => omega
    | bad g _ => omega
    | inf _ e' => rw [e, e']
    | zero g _ => omega
    | fin g _ => omega
  | zero h e => cases g with
    | nan g _ => omega
    | bad g _ => omega
    | inf g _ => omega
    | zero _ e' => rw [e, e']
    | fin g _ => omega
  | fin h e => cases g with
    | nan g _ => omega
    | bad g _ => omega
    | inf g _ => omega
    | zero g _ => omega
    | fin _ e' => exact e.unique e'
theorem bne_comm' (s t : Bool) : (s != t) = (t != s) := by cases s <;> cases t <;> rfl
theorem MulV.symm {s t : Bool} {k j : Nat} {mode : Int} {v : Int × Int} (h : MulV s k t j mode v) : MulV t j s k mode v := by
  cases h with
  | nan h e => exact .nan (by omega) e
  | bad h e => exact .bad (by omega) e
  | inf h e => exact .inf (by omega) (by rw [e, bne_comm'])
  | zero h e => exact .zero (by omega) (by rw [e, bne_comm'])
  | fin h e => exact .fin (by omega) (by rw [Rat.mul_comm]; exact e)
/-- the mode that turns up and down about -/
def otherM (mode : Int) : Int := if mode = 1 then 2 else if mode = 2 then 1 else mode
theorem way_other (neg : Bool) (mode : Int) : wayOf (!neg) (otherM mode) = wayOf neg mode := by
  unfold wayOf otherM
  by_cases h1 : mode = 1
  · subst h1; cases neg <;> rfl
  · by_cases h2 : mode = 2
    · subst h2; cases neg <;> rfl
    · simp [h1, h2]
theorem neg_lt {x : Rat} (h : x ≠ 0) : decide (-x < 0) = !decide (x < 0) := by
  by_cases g : x < 0
  · rw [dt g, df (show ¬ -x < 0 by grind)]; rfl
  · rw [df g, dt (show -x < 0 by grind)]; rfl
theorem xV_neg (S : Nat) (x : Rat) : xV S (-x) = xV S x := by
  unfold xV
  rw [Rat.neg_num, Rat.neg_den, Int.natAbs_neg]
theorem ExF.neg {x : Rat} {mode : Int} {v w : Int × Int} (h0 : x ≠ 0) (h : ExF x mode v) (g : ExF (-x) (otherM mode) w) : ∃ s k, k ≤ 9218868437227405312 ∧ v.1 = fl s k ∧ w.1 = fl (!s) k := by
  obtain ⟨K, a, b, s, rfl⟩ := h
  obtain ⟨J, c, d, t, rfl⟩ := g
  rw [xV_neg] at t ⊢
  obtain ⟨rfl, rfl, rfl⟩ := sit_inj s t
  refine ⟨_, _, rans_le, rfl, ?_⟩
  unfold rnd
  rw [neg_lt h0, way_other]
theorem fv_neg (s : Bool) (k : Nat) : fv (!s) k = -fv s k := by unfold fv dy; rw [rq_negate]
theorem neg_pair {s t : Bool} {k j : Nat} (hk : k < 9223372036854775808) (hj : j < 9223372036854775808) {mode : Int} {v w : Int × Int} (h : AddV s k t j mode v)
    (hw : ∀ s' t', p_Neg (fl s k) = fl s' k → p_Neg (fl t j) = fl t' j → AddV s' k t' j (otherM mode) w) :
    (v.1 = 9221120237041090560 ∧ w.1 = 9221120237041090560) ∨ ∃ a b c, c ≤ 9218868437227405312 ∧ v.1 = fl a c ∧ w.1 = fl b c ∧ ky (!b) c = ky a c := by
  have n1 := neg_spec (s := s) hk
  have n2 := neg_spec (s := t) hj
  by_cases hn : 9218868437227405312 < k ∨ 9218868437227405312 < j
  · have : ∃ s' t', p_Neg (fl s k) = fl s' k ∧ p_Neg (fl t j) = fl t' j := by
      rw [n1, n2]
      split <;> split <;> exact ⟨_, _, rfl, rfl⟩
    obtain ⟨s', t', a, b⟩ := this
    have e1 := h.unique (.nan hn rfl)
    have e2 := (hw s' t' a b).unique (.nan hn rfl)
    rw [e1, e2]
    exact .inl ⟨rfl, rfl⟩
  · rw [if_neg (by omega)] at n1 n2
    have g := hw (!s) (!t) n1 n2
    cases h with
    | nan h e => omega
    | bad h e =>
      have e2 := g.unique (.bad ⟨h.1, h.2.1, fun q => h.2.2 (by cases s <;> cases t <;> first | rfl | exact absurd q (by decide))⟩ rfl)
      rw [e, e2]
      exact .inl ⟨rfl, rfl⟩
    | infa h e =>
      have e2 := g.unique (.infa ⟨h.1, h.2.1, fun q => by rw [h.2.2 q]⟩ rfl)
      rw [e, e2]
      exact .inr ⟨s, !s, _, Nat.le_refl _, rfl, rfl, by rw [Bool.not_not]⟩
    | infb h e =>
      have e2 := g.unique (.infb h rfl)
      rw [e, e2]
      exact .inr ⟨t, !t, _, Nat.le_refl _, rfl, rfl, by rw [Bool.not_not]⟩
    | fin h w1 =>
      cases g with
      | nan g _ => omega
      | bad g _ => omega
      | infa g _ => omega
      | infb g _ => omega
      | fin _ w2 =>
        have ex : fv (!s) k + fv (!t) j = -(fv s k + fv t j) := by rw [fv_neg, fv_neg]; grind
        rw [ex] at w2
        rcases w1 with ⟨z, e⟩ | ⟨z, e⟩
        · rcases w2 with ⟨_, e'⟩ | ⟨z', _⟩
          · rw [e, e']
            have ky0 : ∀ a b : Bool, ky a 0 = ky b 0 := fun a b => by cases a <;> cases b <;> rfl
            right
            split <;> split <;> exact ⟨_, _, 0, by omega, rfl, rfl, ky0 _ _⟩
          · exact absurd (by rw [z]; rfl) z'
        · rcases w2 with ⟨z', _⟩ | ⟨_, e'⟩
          · exact absurd (by grind) z
          · obtain ⟨a, c, hc, h1, h2⟩ := e.neg z e'
            exact .inr ⟨a, !a, c, hc, h1, h2, by rw [Bool.not_not]⟩
theorem SoftTurns_both {a b : Int} (ha : Wd a) (hb : Wd b) {mode : Int} : l_SoftTurns a b mode = true ∧ l_SoftTurns_s a b mode = true := by
  obtain ⟨s, k, hk, rfl⟩ := fl_of ha
  obtain ⟨t, j, hj, rfl⟩ := fl_of hb
  suffices h : Tr.Is (l_SoftTurns_t (fl s k) (fl t j) mode) true from h
  obtain ⟨v, p, _, pv⟩ := add_both (s := s) (t := t) hk hj mode
  obtain ⟨v', p', _, pv'⟩ := add_both (s := t) (t := s) hj hk mode
  obtain ⟨m, q, _, qv⟩ := mul_both (s := s) (t := t) hk hj mode
  obtain ⟨m', q', _, qv'⟩ := mul_both (s := t) (t := s) hj hk mode
  have ev := pv'.symm.unique pv
  subst ev
  have em := qv'.symm.unique qv
  subst em
  have e1 : s_Add (fl s k) (fl t j) mode = v' := p.1
  have e2 : s_Add (fl t j) (fl s k) mode = v' := p'.1
  have e3 : s_Mul (fl s k) (fl t j) mode = m' := q.1
  have e4 : s_Mul (fl t j) (fl s k) mode = m' := q'.1
  obtain ⟨u, r, rv⟩ : ∃ u, Tr.Is (s_Add_t (p_Neg (fl s k)) (p_Neg (fl t j)) (otherM mode)) u ∧ ∀ s' t', p_Neg (fl s k) = fl s' k → p_Neg (fl t j) = fl t' j → AddV s' k t' j (otherM mode) u := by
    have : ∃ s' t', p_Neg (fl s k) = fl s' k ∧ p_Neg (fl t j) = fl t' j := by
      rw [neg_spec hk, neg_spec hj]
      split <;> split <;> exact ⟨_, _, rfl, rfl⟩
    obtain ⟨s', t', a, b⟩ := this
    rw [a, b]
    obtain ⟨u, r, _, rv⟩ := add_both (s := s') (t := t') hk hj (otherM mode)
    refine ⟨u, r, fun s2 t2 h1 h2 => ?_⟩
    obtain ⟨rfl, _⟩ := fl_inj hk hk h1
    obtain ⟨rfl, _⟩ := fl_inj hj hj h2
    exact rv
  have key := neg_pair hk hj pv rv
  have e5 : s_Add (p_Neg (fl s k)) (p_Neg (fl t j)) (otherM mode) = u := r.1
  have inner : ∀ o, o = otherM mode → Tr.Is (Tr.ast (s_Add_s (p_Neg (fl s k)) (p_Neg (fl t j)) o)
      (Tr.br (p_Class v'.1 == 4)
        (Tr.br l6_works (Tr.br (v'.1 == v'.1) (Tr.br (v'.2 == v'.2) (Tr.br (m'.1 == m'.1) (Tr.br (m'.2 == m'.2)
          (Tr.leaf ((s_Add (p_Neg (fl s k)) (p_Neg (fl t j)) o).fst == v'.1)) (Tr.leaf false)) (Tr.leaf false)) (Tr.leaf false)) (Tr.leaf false)) (Tr.leaf false))
        (Tr.br l6_works (Tr.br (v'.1 == v'.1) (Tr.br (v'.2 == v'.2) (Tr.br (m'.1 == m'.1) (Tr.br (m'.2 == m'.2)
          (Tr.br ((p_Cmp (p_Neg (s_Add (p_Neg (fl s k)) (p_Neg (fl t j)) o).fst) v'.1).fst == 0) (Tr.leaf (p_Cmp (p_Neg (s_Add (p_Neg (fl s k)) (p_Neg (fl t j)) o).fst) v'.1).snd) (Tr.leaf false))
          (Tr.leaf false)) (Tr.leaf false)) (Tr.leaf false)) (Tr.leaf false)) (Tr.leaf false)))) true := by
    intro o ho
    subst ho
    refine Tr.is_ast r.2 ?_
    rw [e5]
    rcases key with ⟨h1, h2⟩ | ⟨a, b, c, hc, h1, h2, h3⟩
    · refine Tr.is_br_t (by rw [h1]; decide +kernel) (Tr.is_br_t works6.1 (Tr.is_br_t (bt rfl) (Tr.is_br_t (bt rfl) (Tr.is_br_t (bt rfl) (Tr.is_br_t (bt rfl) (Tr.is_leaf ?_))))))
      rw [h1, h2]; rfl
    · have hcl : (p_Class v'.1 == 4) = false := by rw [h1, class_spec (by omega), cls4, df (by omega)]
      have hcmp : p_Cmp (p_Neg u.1) v'.1 = (0, true) := by
        rw [h2, neg_fl hc, h1, fcmp_spec (by omega) (by omega)]
        unfold fcmp
        rw [if_neg (by omega), h3, cmpZ_self]
      rw [hcmp]
      exact Tr.is_br_f hcl (Tr.is_br_t works6.1 (Tr.is_br_t (bt rfl) (Tr.is_br_t (bt rfl) (Tr.is_br_t (bt rfl) (Tr.is_br_t (bt rfl) (Tr.is_br_t rfl (Tr.is_leaf rfl)))))))
  refine pre6 (Tr.is_ast p.2 (Tr.is_ast p'.2 (Tr.is_ast q.2 (Tr.is_ast q'.2 ?_))))
  rw [e1, e2, e3, e4]
  by_cases h1 : mode = 1
  · exact Tr.is_br_t (bt h1) (inner 2 (by unfold otherM; rw [if_pos h1]))
  · by_cases h2 : mode = 2
    · exact Tr.is_br_f (bf h1) (Tr.is_br_t (bt h2) (inner 1 (by unfold otherM; rw [if_neg h1, if_pos h2])))
    · exact Tr.is_br_f (bf h1) (Tr.is_br_f (bf h2) (inner mode (by unfold otherM; rw [if_neg h1, if_neg h2])))
end Go.Fb
namespace Go.Fb
open Go.Ev
/-- a float that is no NaN, by its key with its sign -/
def RK (x z : Int) : Prop := ∃ q m, m ≤ 9218868437227405312 ∧ x = fl q m ∧ ky q m = z
theorem RK.rng {x z : Int} (h : RK x z) : -9218868437227405312 ≤ z ∧ z ≤ 9218868437227405312 := by
  obtain ⟨q, m, hm, _, rfl⟩ := h
  unfold ky; split <;> omega
theorem less_rk {x y z w : Int} (h : RK x z) (g : RK y w) (hl : z ≤ w) : p_Less y x = false := by
  obtain ⟨q, m, hm, rfl, rfl⟩ := h
  obtain ⟨r, n, hn, rfl, rfl⟩ := g
  rw [less_spec (by omega) (by omega)]
  unfold fless
  exact df (by omega)
theorem quiet_fl : (9221120237041090560 : Int) = fl false 9221120237041090560 := rfl
theorem less_nan_r {x y : Int} (h : y = 9221120237041090560) (hx : Wd x) : p_Less y x = false := by
  obtain ⟨q, m, hm, rfl⟩ := fl_of hx
  rw [h, quiet_fl, less_spec (by omega) (by omega)]
  unfold fless
  exact df (by omega)
theorem less_nan_l {x y : Int} (h : x = 9221120237041090560) (hy : Wd y) : p_Less y x = false := by
  obtain ⟨q, m, hm, rfl⟩ := fl_of hy
  rw [h, quiet_fl, less_spec (by omega) (by omega)]
  unfold fless
  exact df (by omega)
theorem exF_key {x : Rat} {mode : Int} {v : Int × Int} (h0 : x ≠ 0) (h : ExF x mode v) : ∃ z, RK v.1 z ∧ ExK x mode z := by
  obtain ⟨K, a, b, s, rfl⟩ := h
  refine ⟨_, ⟨_, _, rans_le, rfl, rfl⟩, .inr ⟨h0, K, a, b, s, ?_⟩⟩
  rw [rk_eq]
theorem addRK {s r : Bool} {k i : Nat} {mode : Int} {v : Int × Int} (h : AddV s k r i mode v) (hk : k ≤ 9218868437227405312) (hi : i ≤ 9218868437227405312) :
    v.1 = 9221120237041090560 ∨ ∃ z, RK v.1 z ∧ ((k = 9218868437227405312 ∧ z = ky s k) ∨ (k < 9218868437227405312 ∧ i = 9218868437227405312 ∧ z = ky r i) ∨ (k < 9218868437227405312 ∧ i < 9218868437227405312 ∧ ExK (fv s k + fv r i) mode z)) := by
  cases h with
  | nan h e => omega
  | bad h e => rw [e]; exact .inl rfl
  | infa h e => rw [e]; exact .inr ⟨_, ⟨s, _, Nat.le_refl _, rfl, rfl⟩, .inl ⟨h.1, by rw [h.1]⟩⟩
  | infb h e => rw [e]; exact .inr ⟨_, ⟨r, _, Nat.le_refl _, rfl, rfl⟩, .inr (.inl ⟨h.1, h.2, by rw [h.2]⟩)⟩
  | fin h w =>
    right
    rcases w with ⟨z, e⟩ | ⟨z, e⟩
    · have k0 : ∀ a : Bool, ky a 0 = 0 := fun a => by cases a <;> rfl
      rw [e]
      refine ⟨0, ?_, .inr (.inr ⟨h.1, h.2, .inl ⟨z, rfl⟩⟩)⟩
      split <;> exact ⟨_, 0, by omega, rfl, k0 _⟩
    · obtain ⟨y, y1, y2⟩ := exF_key z e
      exact ⟨y, y1, .inr (.inr ⟨h.1, h.2, y2⟩)⟩
theorem mulRK {s r : Bool} {k i : Nat} {mode : Int} {v : Int × Int} (h : MulV s k r i mode v) (hk : k ≤ 9218868437227405312) (hi : i ≤ 9218868437227405312) :
    (v.1 = 9221120237041090560 ∧ ((k = 9218868437227405312 ∧ i = 0) ∨ (k = 0 ∧ i = 9218868437227405312))) ∨ ∃ z, RK v.1 z ∧ (((k = 9218868437227405312 ∨ i = 9218868437227405312) ∧ k ≠ 0 ∧ i ≠ 0 ∧ z = ky (s != r) 9218868437227405312) ∨ (k < 9218868437227405312 ∧ i < 9218868437227405312 ∧ ExK (fv s k * fv r i) mode z)) := by
  cases h with
  | nan h e => omega
  | bad h e => rw [e]; exact .inl ⟨rfl, h⟩
  | inf h e => rw [e]; exact .inr ⟨_, ⟨_, _, Nat.le_refl _, rfl, rfl⟩, .inl ⟨by omega, by omega, by omega, rfl⟩⟩
  | zero h e =>
    rw [e]
    have k0 : ∀ a : Bool, ky a 0 = 0 := fun a => by cases a <;> rfl
    refine .inr ⟨0, ⟨_, 0, by omega, rfl, k0 _⟩, .inr ⟨h.1, h.2.1, .inl ⟨?_, rfl⟩⟩⟩
    rcases h.2.2 with g | g
    · rw [g, fv_zero, Rat.zero_mul]
    · rw [g, fv_zero, Rat.mul_zero]
  | fin h e =>
    have h1 := (fv_nz (s := s) h.1 h.2.2.1).2.1
    have h2 := (fv_nz (s := r) h.2.1 h.2.2.2).2.1
    obtain ⟨y, y1, y2⟩ := exF_key (fun g => by rcases Rat.mul_eq_zero.1 g with g | g; exact h1 g; exact h2 g) e
    exact .inr ⟨y, y1, .inr ⟨h.1, h.2.1, y2⟩⟩
theorem MulV.wd {s t : Bool} {k j : Nat} {mode : Int} {v : Int × Int} (h : MulV s k t j mode v) : Wd v.1 := by
  cases h with
  | nan h e => rw [e]; unfold Wd; dsimp only; omega
  | bad h e => rw [e]; unfold Wd; dsimp only; omega
  | inf h e => rw [e]; exact fl_wd (by omega)
  | zero h e => rw [e]; exact fl_wd (by omega)
  | fin h e => exact e.isF.wd
theorem rises_add {s t r : Bool} {k j i : Nat} (hk : k ≤ 9218868437227405312) (hj : j ≤ 9218868437227405312) (hi : i ≤ 9218868437227405312) (hl : ky s k < ky t j) {mode : Int} {v w : Int × Int} (a : AddV s k r i mode v) (b : AddV t j r i mode w) : p_Less w.1 v.1 = false := by
  rcases addRK a hk hi with a1 | ⟨z, a1, a2⟩
  · exact less_nan_l a1 b.wd
  rcases addRK b hj hi with b1 | ⟨y, b1, b2⟩
  · exact less_nan_r b1 a.wd
  have r1 := a1.rng
  have r2 := b1.rng
  refine less_rk a1 b1 ?_
  rcases a2 with ⟨h1, h2⟩ | ⟨h1, h2, h3⟩ | ⟨h1, h2, h3⟩
  · subst h1
    unfold ky at hl h2
    split at hl <;> split at hl <;> simp_all <;> omega
  · rcases b2 with ⟨g1, g2⟩ | ⟨g1, g2, g3⟩ | ⟨g1, g2, g3⟩
    · subst g1
      unfold ky at hl g2
      split at hl <;> split at hl <;> simp_all <;> omega
    · omega
    · omega
  · rcases b2 with ⟨g1, g2⟩ | ⟨g1, g2, g3⟩ | ⟨g1, g2, g3⟩
    · subst g1
      unfold ky at hl g2
      split at hl <;> split at hl <;> simp_all <;> omega
    · omega
    · have := (fv_lt h1 g1).2 hl
      exact exk_mono (by grind) h3 g3
theorem ky_sign {s t : Bool} {k j : Nat} (h : ky s k < ky t j) : s = true ∨ t = false := by
  cases s
  · cases t
    · exact .inr rfl
    · unfold ky at h; simp at h; omega
  · exact .inl rfl
theorem fv_nonneg (i : Nat) (h : i < 9218868437227405312) : 0 ≤ fv false i := by
  by_cases h0 : i = 0
  · rw [h0, fv_zero]; exact Rat.le_refl
  · exact Rat.not_lt.1 (of_decide_eq_false (fv_nz h h0).2.2.1)
theorem rises_mul {s t : Bool} {k j i : Nat} (hk : k ≤ 9218868437227405312) (hj : j ≤ 9218868437227405312) (hi : i ≤ 9218868437227405312) (hl : ky s k < ky t j) {mode : Int} {v w : Int × Int} (a : MulV s k false i mode v) (b : MulV t j false i mode w) : p_Less w.1 v.1 = false := by
  rcases mulRK a hk hi with ⟨a1, _⟩ | ⟨z, a1, a2⟩
  · exact less_nan_l a1 b.wd
  rcases mulRK b hj hi with ⟨b1, _⟩ | ⟨y, b1, b2⟩
  · exact less_nan_r b1 a.wd
  have r1 := a1.rng
  have r2 := b1.rng
  have sg := ky_sign hl
  have kT : ky true 9218868437227405312 = -9218868437227405312 := rfl
  have kF : ky false 9218868437227405312 = 9218868437227405312 := rfl
  refine less_rk a1 b1 ?_
  rcases a2 with ⟨h1, h2, h3, h4⟩ | ⟨h1, h2, h3⟩
  · rw [Bool.bne_false] at h4
    rcases b2 with ⟨g1, g2, g3, g4⟩ | ⟨g1, g2, g3⟩
    · rw [Bool.bne_false] at g4
      rcases sg with g | g
      · rw [h4, g, kT]; omega
      · rw [g4, g, kF]; omega
    · have hk' : k = 9218868437227405312 := by omega
      have : s = true := by
        rcases sg with g | g
        · exact g
        · cases s
          · subst hk'; unfold ky at hl; rw [g] at hl; simp at hl; omega
          · rfl
      rw [h4, this, kT]; omega
  · rcases b2 with ⟨g1, g2, g3, g4⟩ | ⟨g1, g2, g3⟩
    · rw [Bool.bne_false] at g4
      have hj' : j = 9218868437227405312 := by omega
      have : t = false := by
        rcases sg with g | g
        · cases t
          · rfl
          · subst hj'; unfold ky at hl; rw [g] at hl; simp at hl; omega
        · exact g
      rw [g4, this, kF]; omega
    · have := (fv_lt h1 g1).2 hl
      exact exk_mono (Rat.mul_le_mul_of_nonneg_right (by grind) (fv_nonneg i h2)) h3 g3
theorem modes_mul {s r : Bool} {k i : Nat} (hk : k ≤ 9218868437227405312) (hi : i ≤ 9218868437227405312) {d n u : Int × Int} (a : MulV s k r i 2 d) (b : MulV s k r i 0 n) (c : MulV s k r i 1 u) :
    p_Less n.1 d.1 = false ∧ p_Less u.1 n.1 = false := by
  rcases mulRK b hk hi with ⟨b1, _⟩ | ⟨y, b1, b2⟩
  · exact ⟨less_nan_r b1 a.wd, less_nan_l b1 c.wd⟩
  constructor
  · rcases mulRK a hk hi with ⟨a1, _⟩ | ⟨z, a1, a2⟩
    · exact less_nan_l a1 b.wd
    · refine less_rk a1 b1 ?_
      rcases a2 with ⟨h1, h2, h3, h4⟩ | ⟨h1, h2, h3⟩
      · rcases b2 with ⟨g1, g2, g3, g4⟩ | ⟨g1, g2, g3⟩
        · omega
        · omega
      · rcases b2 with ⟨g1, g2, g3, g4⟩ | ⟨g1, g2, g3⟩
        · omega
        · rcases mulRK c hk hi with ⟨c1, c2⟩ | ⟨w, c1, c2⟩
          · omega
          · rcases c2 with ⟨f1, f2, f3, f4⟩ | ⟨f1, f2, f3⟩
            · omega
            · exact (exk_order h3 g3 f3).1
  · rcases mulRK c hk hi with ⟨c1, _⟩ | ⟨z, c1, c2⟩
    · exact less_nan_r c1 b.wd
    · refine less_rk b1 c1 ?_
      rcases b2 with ⟨h1, h2, h3, h4⟩ | ⟨h1, h2, h3⟩
      · rcases c2 with ⟨g1, g2, g3, g4⟩ | ⟨g1, g2, g3⟩
        · omega
        · omega
      · rcases c2 with ⟨g1, g2, g3, g4⟩ | ⟨g1, g2, g3⟩
        · omega
        · rcases mulRK a hk hi with ⟨a1, a2⟩ | ⟨w, a1, a2⟩
          · omega
          · rcases a2 with ⟨f1, f2, f3, f4⟩ | ⟨f1, f2, f3⟩
            · omega
            · exact (exk_order f3 h3 g3).2
theorem SoftRises_both {a b c : Int} (ha : Wd a) (hb : Wd b) (hc : Wd c) {mode : Int} : l_SoftRises a b c mode = true ∧ l_SoftRises_s a b c mode = true := by
  obtain ⟨s, k, hk, rfl⟩ := fl_of ha
  obtain ⟨t, j, hj, rfl⟩ := fl_of hb
  obtain ⟨r, i, hi, rfl⟩ := fl_of hc
  suffices h : Tr.Is (l_SoftRises_t (fl s k) (fl t j) (fl r i) mode) true from h
  have n1 : (p_Class (fl s k) == 4) = decide (9218868437227405312 < k) := by rw [class_spec hk, cls4]
  have n2 : (p_Class (fl t j) == 4) = decide (9218868437227405312 < j) := by rw [class_spec hj, cls4]
  have n3 : (p_Class (fl r i) == 4) = decide (9218868437227405312 < i) := by rw [class_spec hi, cls4]
  refine pre6 ?_
  by_cases h1 : 9218868437227405312 < k
  · exact Tr.is_br_t (n1.trans (dt h1)) (Tr.is_leaf works6.1)
  refine Tr.is_br_f (n1.trans (df h1)) ?_
  by_cases h2 : 9218868437227405312 < j
  · exact Tr.is_br_t (n2.trans (dt h2)) (Tr.is_leaf works6.1)
  refine Tr.is_br_f (n2.trans (df h2)) ?_
  by_cases h3 : 9218868437227405312 < i
  · exact Tr.is_br_t (n3.trans (dt h3)) (Tr.is_leaf works6.1)
  refine Tr.is_br_f (n3.trans (df h3)) ?_
  have le := less_spec (s := s) (t := t) hk hj
  unfold fless at le
  by_cases h4 : ky s k < ky t j
  case neg => exact Tr.is_br_t (by rw [le, df (by omega)]; rfl) (Tr.is_leaf works6.1)
  refine Tr.is_br_f (by rw [le, dt (by omega)]; rfl) ?_
  have eab : p_Abs (fl r i) = fl false i := by rw [fabs_spec hi, if_neg h3]
  obtain ⟨x, x1, _, x2⟩ := add_both (s := s) (t := r) hk hi mode
  obtain ⟨y, y1, _, y2⟩ := add_both (s := t) (t := r) hj hi mode
  obtain ⟨u, u1, _, u2⟩ := mul_both (s := s) (t := false) hk hi mode
  obtain ⟨v, v1, _, v2⟩ := mul_both (s := t) (t := false) hj hi mode
  obtain ⟨d, d1, _, d2⟩ := mul_both (s := s) (t := r) hk hi 2
  obtain ⟨n, m1, _, m2⟩ := mul_both (s := s) (t := r) hk hi 0
  obtain ⟨w, w1, _, w2⟩ := mul_both (s := s) (t := r) hk hi 1
  have e1 : s_Add (fl s k) (fl r i) mode = x := x1.1
  have e2 : s_Add (fl t j) (fl r i) mode = y := y1.1
  have e3 : s_Mul (fl s k) (fl false i) mode = u := u1.1
  have e4 : s_Mul (fl t j) (fl false i) mode = v := v1.1
  have e5 : s_Mul (fl s k) (fl r i) 2 = d := d1.1
  have e6 : s_Mul (fl s k) (fl r i) 0 = n := m1.1
  have e7 : s_Mul (fl s k) (fl r i) 1 = w := w1.1
  have mm := modes_mul (by omega) (by omega) d2 m2 w2
  rw [eab]
  refine Tr.is_ast x1.2 (Tr.is_ast y1.2 (Tr.is_ast u1.2 (Tr.is_ast v1.2 (Tr.is_ast d1.2 (Tr.is_ast m1.2 (Tr.is_ast w1.2 (Tr.is_br_t works6.1 ?_)))))))
  rw [e1, e2, e3, e4, e5, e6, e7, rises_add (by omega) (by omega) (by omega) h4 x2 y2, rises_mul (by omega) (by omega) (by omega) h4 u2 v2, mm.1, mm.2]
  exact ⟨rfl, rfl⟩
end Go.Fb
namespace Go.Fb
open Go.Ev
theorem RtOk.unique {m : Nat} {e : Int} {sh s sh' s' : Nat} {f f' : Int} {rest rest' : Bool} (a : RtOk m e sh s f rest) (b : RtOk m e sh' s' f' rest') : s = s' ∧ f = f' ∧ rest = rest' := by
  obtain ⟨L, l1, l2⟩ := a.len
  obtain ⟨L', l3, l4⟩ := b.len
  have := LenIs.unique l1 l3
  subst this
  have p1 := a.par
  have p2 := b.par
  have hsh : sh = sh' := by omega
  subst hsh
  have hs : s = s' := IsRt.unique ⟨a.lo, a.hi⟩ ⟨b.lo, b.hi⟩
  subst hs
  exact ⟨rfl, by omega, a.re.trans b.re.symm⟩
end Go.Fb
namespace Go.Fb
open Go.Ev
theorem RtOk.lt {m : Nat} {e : Int} {sh s : Nat} {f : Int} {rest : Bool} (a : RtOk m e sh s f rest) : s < 18446744073709551616 := by
  obtain ⟨L, l1, l2⟩ := a.len
  have h1 := Nat.mul_lt_mul_of_pos_right l1.1 (Nat.two_pow_pos sh)
  rw [← Nat.pow_add] at h1
  have t := Nat.pow_le_pow_right (n := 2) (by decide) (show L + sh ≤ 127 by omega)
  rw [show (2 : Nat) ^ 127 = 170141183460469231731687303715884105728 from rfl] at t
  have h2 := a.lo
  rcases Nat.lt_or_ge s 18446744073709551616 with g | g
  · exact g
  · have := Nat.mul_le_mul g g
    omega
end Go.Fb
