/- Layer 6: the laws hold, in plain Lean. Conditions: as each theorem states. -/
import Derived.Test.YtggmmkdfgjnjfaaPq
import Derived.Test.YtggmmkdfgjnjfaaSl
import Derived.Test.YtggmmkdfgjnjfaaSp
namespace Go.Fb
open Go.Ev
theorem works6 : l6_works = true ∧ l6_works_s = true := by decide +kernel
end Go.Fb
namespace Go.Fb
open Go.Ev
theorem pre6 {t : Tr Bool} (h : Tr.Is t true) : Tr.Is (.ast l6_works_s (.br (!l6_works) (.leaf false) t)) true :=
  Tr.is_ast works6.2 (Tr.is_br_f (by rw [works6.1]; rfl) h)
def IsF (x : Int) : Prop := ∃ s k, k ≤ 9218868437227405312 ∧ x = fl s k
theorem ExF.isF {x : Rat} {mode : Int} {v : Int × Int} (h : ExF x mode v) : IsF v.1 := by
  obtain ⟨K, a, b, _, rfl⟩ := h
  exact ⟨_, _, rans_le, rfl⟩
theorem IsF.wd {x : Int} (h : IsF x) : Wd x := by
  obtain ⟨s, k, hk, rfl⟩ := h
  exact fl_wd (by omega)
theorem AddV.wd {s t : Bool} {k j : Nat} {mode : Int} {v : Int × Int} (h : AddV s k t j mode v) : Wd v.1 := by
  cases h with
  | nan h e => rw [e]; unfold Wd; dsimp only; omega
  | bad h e => rw [e]; unfold Wd; dsimp only; omega
  | infa h e => rw [e]; exact fl_wd (by omega)
  | infb h e => rw [e]; exact fl_wd (by omega)
  | fin h w =>
    rcases w with ⟨_, e⟩ | ⟨_, e⟩
    · rw [e]; split <;> exact fl_wd (by omega)
    · exact e.isF.wd
end Go.Fb
namespace Go.Fb
open Go.Ev
def Fits (x : Rat) (E : Nat) : Prop := x.num.natAbs < 2 ^ E ∧ x.den < 2 ^ E
theorem fits_rq {s : Bool} {N D E : Nat} (hD : D ≠ 0) (h1 : N < 2 ^ E) (h2 : D < 2 ^ E) : Fits (rq s N D) E := by
  obtain ⟨a, b⟩ := rq_num_le s N hD
  exact ⟨Nat.lt_of_le_of_lt a h1, Nat.lt_of_le_of_lt b h2⟩
theorem fvT : ∃ T, T = 1074 ∧ ∀ (s : Bool) (k : Nat), k < 9218868437227405312 → fv s k = rq s (kvN k) (2 ^ T) := ⟨1074, rfl, fun _ _ h => fv_eq h⟩
theorem mkRat_rq (n : Int) (d : Nat) : mkRat n d = rq (decide (n < 0)) n.natAbs d := by
  unfold rq
  congr 1
  unfold sg
  by_cases h : n < 0
  · rw [dt h, if_pos rfl]; omega
  · rw [df h, if_neg (by decide)]; omega
theorem fits_add {s t : Bool} {k j : Nat} (hk : k < 9218868437227405312) (hj : j < 9218868437227405312) : Fits (fv s k + fv t j) 4900 := by
  obtain ⟨T, hT, e⟩ := fvT
  rw [e s k hk, e t j hj, rq_add_same (two_nz _), mkRat_rq]
  have h1 := kvN_lt2 hk (E := 2099) (by omega)
  have h2 := kvN_lt2 hj (E := 2099) (by omega)
  generalize hE : (4900 : Nat) = E
  generalize hF : (2099 : Nat) = F at *
  have h3 : 2 ^ F + 2 ^ F = 2 ^ (F + 1) := by rw [Nat.pow_succ]; omega
  have h4 := Nat.pow_le_pow_right (n := 2) (by decide) (show F + 1 ≤ E by omega)
  refine fits_rq (two_nz _) ?_ (pow_lt_of (by omega))
  have : (sg s (kvN k) + sg t (kvN j)).natAbs ≤ kvN k + kvN j := by unfold sg; split <;> split <;> omega
  omega
theorem fits_mul {s t : Bool} {k j : Nat} (hk : k < 9218868437227405312) (hj : j < 9218868437227405312) : Fits (fv s k * fv t j) 4900 := by
  obtain ⟨T, hT, e⟩ := fvT
  rw [e s k hk, e t j hj, rq_mul, ← Nat.pow_add]
  have h1 := kvN_lt2 hk (E := 2099) (by omega)
  have h2 := kvN_lt2 hj (E := 2099) (by omega)
  generalize hE : (4900 : Nat) = E
  generalize hF : (2099 : Nat) = F at *
  refine fits_rq (two_nz _) ?_ (pow_lt_of (by omega))
  have h3 : kvN k * kvN j ≤ 2 ^ F * 2 ^ F := Nat.mul_le_mul (Nat.le_of_lt h1) (Nat.le_of_lt h2)
  rw [← Nat.pow_add] at h3
  exact Nat.lt_of_le_of_lt h3 (pow_lt_of (by omega))
theorem fits_div {s t : Bool} {k j : Nat} (hk : k < 9218868437227405312) (hj : j < 9218868437227405312) (j0 : j ≠ 0) : Fits (fv s k / fv t j) 4900 := by
  obtain ⟨T, hT, e⟩ := fvT
  have hj0 : kvN j ≠ 0 := (fv_nz (s := t) hj j0).1
  rw [e s k hk, e t j hj, Rat.div_def, ← rq_inv, rq_mul]
  have h1 := kvN_lt2 hk (E := 2099) (by omega)
  have h2 := kvN_lt2 hj (E := 2099) (by omega)
  generalize hE : (4900 : Nat) = E
  generalize hF : (2099 : Nat) = F at *
  refine fits_rq (Nat.mul_ne_zero (two_nz _) hj0) ?_ ?_
  · have h3 : kvN k * 2 ^ T ≤ 2 ^ F * 2 ^ T := Nat.mul_le_mul (Nat.le_of_lt h1) (Nat.le_refl _)
    rw [← Nat.pow_add] at h3
    exact Nat.lt_of_le_of_lt h3 (pow_lt_of (by omega))
  · have h3 : 2 ^ T * kvN j ≤ 2 ^ T * 2 ^ F := Nat.mul_le_mul (Nat.le_refl _) (Nat.le_of_lt h2)
    rw [← Nat.pow_add] at h3
    exact Nat.lt_of_le_of_lt h3 (pow_lt_of (by omega))
theorem agrees_is {r : RR} {x : Rat} {k : Nat} (h : RIs r x k) (hk1 : 1 ≤ k) (hk : k ≤ 1000) (hf : Fits x 4900) {mode : Int} {v : Int × Int} (hz : x = 0 → p_Class v.1 = 0 ∧ v.2 = 0) (hn : x ≠ 0 → ExF x mode v) : Tr.Is (l6_agrees_t v.1 v.2 r mode) true := by
  obtain ⟨s1, s2⟩ := qsign_spec h.RW hk1 (by omega)
  rw [h.val] at s2
  refine Tr.is_ast s1 ?_
  rw [s2]
  by_cases h0 : x = 0
  · obtain ⟨z1, z2⟩ := hz h0
    rw [cmpQ_eq h0, z1, z2]
    exact Tr.is_br_t rfl (Tr.is_br_t rfl (Tr.is_leaf rfl))
  · have hne : (cmpQ x 0 == 0) = false := by
      unfold cmpQ
      split
      · rfl
      · first | rfl | (rw [if_neg h0]; rfl)
    obtain ⟨w, w1, w2⟩ := exact_exF h.RW hk (by rw [h.val]; exact h0) (Nat.le_refl 4900) (by rw [h.1.2.2.1]; exact hf.1) (by rw [h.2.1.2.2.1]; exact hf.2) mode
    rw [h.val] at w2
    have e := (hn h0).unique w2
    subst e
    have e : n_Exact r mode = v := w1.1
    refine Tr.is_br_f hne (Tr.is_ast w1.2 ?_)
    rw [e]
    exact Tr.is_br_t (bt rfl) (Tr.is_leaf (bt rfl))
theorem div_nz {x y : Rat} (h1 : x ≠ 0) (h2 : y ≠ 0) : x / y ≠ 0 := by
  intro h
  have : x = x / y * y := by grind
  rw [h, Rat.zero_mul] at this
  exact h1 this
theorem class_zero (s : Bool) : p_Class (fl s 0) = 0 := by rw [class_spec (by omega)]; rfl
theorem SoftExact_both {a b : Int} (ha : Wd a) (hb : Wd b) {mode : Int} : l_SoftExact a b mode = true ∧ l_SoftExact_s a b mode = true := by
  obtain ⟨s, k, hk, rfl⟩ := fl_of ha
  obtain ⟨t, j, hj, rfl⟩ := fl_of hb
  suffices h : Tr.Is (l_SoftExact_t (fl s k) (fl t j) mode) true from h
  refine pre6 ?_
  by_cases hkf : k < 9218868437227405312
  case neg =>
    obtain ⟨v1, v2⟩ := value_none (s := s) hk (by omega)
    have w1 : p_Value_s (fl t j) = true := by
      by_cases hjf : j < 9218868437227405312
      · exact (value_spec (s := t) hjf).1
      · exact (value_none (s := t) hj (by omega)).1
    exact Tr.is_ast v1 (Tr.is_ast w1 (Tr.is_br_t (by rw [v2]; rfl) (Tr.is_leaf works6.1)))
  obtain ⟨v1, x, v2, v3⟩ := value_spec (s := s) hkf
  by_cases hjf : j < 9218868437227405312
  case neg =>
    obtain ⟨w1, w2⟩ := value_none (s := t) hj (by omega)
    exact Tr.is_ast v1 (Tr.is_ast w1 (Tr.is_br_f (by rw [v2]; rfl) (Tr.is_br_t (by rw [w2]; rfl) (Tr.is_leaf works6.1))))
  obtain ⟨w1, y, w2, w3⟩ := value_spec (s := t) hjf
  obtain ⟨u, p, _, pv⟩ := add_both (s := s) (t := t) hk hj mode
  obtain ⟨m, q, _, qv⟩ := mul_both (s := s) (t := t) hk hj mode
  have e1 : s_Add (fl s k) (fl t j) mode = u := p.1
  have e2 : s_Mul (fl s k) (fl t j) mode = m := q.1
  obtain ⟨a1, a2⟩ := qadd_spec v3.RW w3.RW (by omega) (by omega)
  obtain ⟨m1, m2⟩ := qmul_spec v3.RW w3.RW (by omega) (by omega)
  obtain ⟨d1, d2, d3⟩ := qdiv_spec v3.RW w3.RW (by omega) (by omega)
  rw [v3.val, w3.val] at a2 m2 d3
  rw [w3.val] at d2
  have ag1 : Tr.Is (l6_agrees_t u.1 u.2 (q_Add x y) mode) true := by
    refine agrees_is a2 (by omega) (by omega) (fits_add hkf hjf) (fun h => ?_) (fun h => ?_)
    · cases pv with
      | nan h e => omega
      | bad h e => omega
      | infa h e => omega
      | infb h e => omega
      | fin g w =>
        rcases w with ⟨_, e⟩ | ⟨g, _⟩
        · rw [e]; split <;> exact ⟨class_zero _, rfl⟩
        · exact absurd h g
    · cases pv with
      | nan h e => omega
      | bad h e => omega
      | infa h e => omega
      | infb h e => omega
      | fin g w =>
        rcases w with ⟨g, _⟩ | ⟨_, e⟩
        · exact absurd g h
        · exact e
  have ag2 : Tr.Is (l6_agrees_t m.1 m.2 (q_Mul x y) mode) true := by
    refine agrees_is m2 (by omega) (by omega) (fits_mul hkf hjf) (fun h => ?_) (fun h => ?_)
    · cases qv with
      | nan h e => omega
      | bad h e => omega
      | inf h e => omega
      | zero g e => rw [e]; exact ⟨class_zero _, rfl⟩
      | fin g e => exact absurd h (by
          have h1 := (fv_nz (s := s) hkf g.2.2.1).2.1
          have h2 := (fv_nz (s := t) hjf g.2.2.2).2.1
          intro hh
          rcases Rat.mul_eq_zero.1 hh with e | e
          · exact h1 e
          · exact h2 e)
    · cases qv with
      | nan h e => omega
      | bad h e => omega
      | inf h e => omega
      | zero g e =>
        rcases g.2.2 with g | g
        · exact absurd (by rw [g, fv_zero, Rat.zero_mul]) h
        · exact absurd (by rw [g, fv_zero, Rat.mul_zero]) h
      | fin g e => exact e
  have f1 : l6_agrees u.1 u.2 (q_Add x y) mode = true := ag1.1
  have f2 : l6_agrees m.1 m.2 (q_Mul x y) mode = true := ag2.1
  refine Tr.is_ast v1 (Tr.is_ast w1 (Tr.is_br_f (by rw [v2]; rfl) (Tr.is_br_f (by rw [w2]; rfl) (Tr.is_ast p.2 (Tr.is_ast q.2 ?_)))))
  rw [v2, w2, e1, e2]
  dsimp only
  refine Tr.is_ast a1 (Tr.is_ast ag1.2 (Tr.is_ast m1 (Tr.is_ast ag2.2 (Tr.is_br_f (by rw [f1]; rfl) (Tr.is_br_f (by rw [f2]; rfl) (Tr.is_ast d1 ?_))))))
  by_cases j0 : j = 0
  · have := d2 (by rw [j0, fv_zero])
    exact Tr.is_br_t (by rw [this]; rfl) (Tr.is_leaf works6.1)
  · obtain ⟨z, z1, z2⟩ := d3 (fv_nz hjf j0).2.1
    obtain ⟨c, r, _, rv⟩ := div_both (s := s) (t := t) hk hj mode
    have e3 : s_Div (fl s k) (fl t j) mode = c := r.1
    have ag3 : Tr.Is (l6_agrees_t c.1 c.2 z mode) true := by
      refine agrees_is z2 (by omega) (by omega) (fits_div hkf hjf j0) (fun h => ?_) (fun h => ?_)
      · cases rv with
        | nan h e => omega
        | bad h e => omega
        | inf h e => omega
        | by0 h e => omega
        | zero g e => rw [e]; exact ⟨class_zero _, rfl⟩
        | fin g e => exact absurd h (by
            have h1 := (fv_nz (s := s) hkf g.2.2.1).2.1
            have h2 := (fv_nz (s := t) hjf j0).2.1
            exact div_nz h1 h2)
      · cases rv with
        | nan h e => omega
        | bad h e => omega
        | inf h e => omega
        | by0 h e => omega
        | zero g e =>
          rcases g with g | g
          · exact absurd (by rw [g.1, fv_zero, Rat.div_def, Rat.zero_mul]) h
          · omega
        | fin g e => exact e
    have f3 : l6_agrees c.1 c.2 z mode = true := ag3.1
    refine Tr.is_br_f (by rw [z1]; rfl) (Tr.is_ast r.2 ?_)
    rw [z1, e3]
    dsimp only
    exact Tr.is_ast ag3.2 (Tr.is_br_t works6.1 (Tr.is_leaf f3))
end Go.Fb
namespace Go.Fb
open Go.Ev
theorem AddW.unique {s t : Bool} {x : Rat} {mode : Int} {v w : Int × Int} (h : AddW s t x mode v) (g : AddW s t x mode w) : v = w := by
  rcases h with ⟨h1, h2⟩ | ⟨h1, h2⟩
  · rcases g with ⟨g1, g2⟩ | ⟨g1, g2⟩
    · rw [h2, g2]
    · exact absurd h1 g1
  · rcases g with ⟨g1, g2⟩ | ⟨g1, g2⟩
    · exact absurd g1 h1
    · exact h2.unique g2
theorem AddV.unique {s t : Bool} {k j : Nat} {mode : Int} {v w : Int × Int} (h : AddV s k t j mode v) (g : AddV s k t j mode w) : v = w := by
  cases h with
  | nan h e => cases g with
    | nan _ e' => rw [e, e']
    | bad g _ => omega
    | infa g _ => omega
    | infb g _ => omega
    | fin g _ => omega
  | bad h e => cases g with
    | nan g _ => omega
    | bad _ e' => rw [e, e']
    | infa g _ => exact absurd (g.2.2 h.2.1) h.2.2
    | infb g _ => omega
    | fin g _ => omega
  | infa h e => cases g with
    | nan g _ => omega
    | bad g _ => exact absurd (h.2.2 g.2.1) g.2.2
    | infa _ e' => rw [e, e']
    | infb g _ => omega
    | fin g _ => omega
  | infb h e => cases g with
    | nan g _ => omega
    | bad g _ => omega
    | infa g _ => omega
    | infb _ e' => rw [e, e']
    | fin g _ => omega
  | fin h w1 => cases g with
    | nan g _ => omega
    | bad g _ => omega
    | infa g _ => omega
    | infb g _ => omega
    | fin _ w2 => exact w1.unique w2
theorem AddW.symm {s t : Bool} {x : Rat} {mode : Int} {v : Int × Int} (h : AddW s t x mode v) : AddW t s x mode v := by
  rcases h with ⟨h1, h2⟩ | h
  · refine .inl ⟨h1, ?_⟩
    rw [h2]
    by_cases e : s = t
    · rw [if_pos e, if_pos e.symm, e]
    · rw [if_neg e, if_neg (fun g => e g.symm)]
  · exact .inr h
theorem AddV.symm {s t : Bool} {k j : Nat} {mode : Int} {v : Int × Int} (h : AddV s k t j mode v) : AddV t j s k mode v := by
  cases h with
  | nan h e => exact .nan (by omega) e
  | bad h e => exact .bad ⟨h.2.1, h.1, fun g => h.2.2 g.symm⟩ e
  | infa h e =>
    by_cases g : j = 9218868437227405312
    · exact .infa ⟨g, by omega, fun _ => (h.2.2 g).symm⟩ (by rw [e, h.2.2 g])
    · exact .infb ⟨by omega, h.1⟩ e
  | infb h e => exact .infa ⟨h.2, by omega, fun g => by omega⟩ e
  | fin h w => exact .fin ⟨h.2, h.1⟩ (by rw [Rat.add_comm]; exact w.symm)
theorem MulV.unique {s t : Bool} {k j : Nat} {mode : Int} {v w : Int × Int} (h : MulV s k t j mode v) (g : MulV s k t j mode w) : v = w := by
  cases h with
  | nan h e => cases g with
    | nan _ e' => rw [e, e']
    | bad g _ => omega
    | inf g _ => omega
    | zero g _ => omega
    | fin g _ => omega
  | bad h e => cases g with
    | nan g _ => omega
    | bad _ e' => rw [e, e']
    | inf g _ => omega
    | zero g _ => omega
    | fin g _ => omega
  | inf h e => cases g with
    | nan g _ => omega
    | bad g _ => omega
    | inf _ e' => rw [e, e']
    | zero g _ => omega
    | fin g _ => omega
  | zero h e => cases g with
    | nan g _ => omega
    | bad g _ => omega
    | inf g _ => omega
    | zero _ e' => rw [e, e']
    | fin g _ => omega
  | fin h e => cases g with
    | nan g _ => omega
    | bad g _ => omega
    | inf g _ => omega
    | zero g _ => omega
    | fin _ e' => exact e.unique e'
theorem bne_comm' (s t : Bool) : (s != t) = (t != s) := by cases s <;> cases t <;> rfl
theorem MulV.symm {s t : Bool} {k j : Nat} {mode : Int} {v : Int × Int} (h : MulV s k t j mode v) : MulV t j s k mode v := by
  cases h with
  | nan h e => exact .nan (by omega) e
  | bad h e => exact .bad (by omega) e
  | inf h e => exact .inf (by omega) (by rw [e, bne_comm'])
  | zero h e => exact .zero (by omega) (by rw [e, bne_comm'])
  | fin h e => exact .fin (by omega) (by rw [Rat.mul_comm]; exact e)
/-- the mode that turns up and down about -/
def otherM (mode : Int) : Int := if mode = 1 then 2 else if mode = 2 then 1 else mode
theorem way_other (neg : Bool) (mode : Int) : wayOf (!neg) (otherM mode) = wayOf neg mode := by
  unfold wayOf otherM
  by_cases h1 : mode = 1
  · subst h1; cases neg <;> rfl
  · by_cases h2 : mode = 2
    · subst h2; cases neg <;> rfl
    · simp [h1, h2]
theorem neg_lt {x : Rat} (h : x ≠ 0) : decide (-x < 0) = !decide (x < 0) := by
  by_cases g : x < 0
  · rw [dt g, df (show ¬ -x < 0 by grind)]; rfl
  · rw [df g, dt (show -x < 0 by grind)]; rfl
theorem xV_neg (S : Nat) (x : Rat) : xV S (-x) = xV S x := by
  unfold xV
  rw [Rat.neg_num, Rat.neg_den, Int.natAbs_neg]
theorem ExF.neg {x : Rat} {mode : Int} {v w : Int × Int} (h0 : x ≠ 0) (h : ExF x mode v) (g : ExF (-x) (otherM mode) w) : ∃ s k, k ≤ 9218868437227405312 ∧ v.1 = fl s k ∧ w.1 = fl (!s) k := by
  obtain ⟨K, a, b, s, rfl⟩ := h
  obtain ⟨J, c, d, t, rfl⟩ := g
  rw [xV_neg] at t ⊢
  obtain ⟨rfl, rfl, rfl⟩ := sit_inj s t
  refine ⟨_, _, rans_le, rfl, ?_⟩
  unfold rnd
  rw [neg_lt h0, way_other]
end Go.Fb
namespace Go.Fb
open Go.Ev
/-- a float that is no NaN, by its key with its sign -/
def RK (x z : Int) : Prop := ∃ q m, m ≤ 9218868437227405312 ∧ x = fl q m ∧ ky q m = z
theorem RK.rng {x z : Int} (h : RK x z) : -9218868437227405312 ≤ z ∧ z ≤ 9218868437227405312 := by
  obtain ⟨q, m, hm, _, rfl⟩ := h
  unfold ky; split <;> omega
theorem MulV.wd {s t : Bool} {k j : Nat} {mode : Int} {v : Int × Int} (h : MulV s k t j mode v) : Wd v.1 := by
  cases h with
  | nan h e => rw [e]; unfold Wd; dsimp only; omega
  | bad h e => rw [e]; unfold Wd; dsimp only; omega
  | inf h e => rw [e]; exact fl_wd (by omega)
  | zero h e => rw [e]; exact fl_wd (by omega)
  | fin h e => exact e.isF.wd
end Go.Fb
namespace Go.Fb
open Go.Ev
theorem RtOk.unique {m : Nat} {e : Int} {sh s sh' s' : Nat} {f f' : Int} {rest rest' : Bool} (a : RtOk m e sh s f rest) (b : RtOk m e sh' s' f' rest') : s = s' ∧ f = f' ∧ rest = rest' := by
  obtain ⟨L, l1, l2⟩ := a.len
  obtain ⟨L', l3, l4⟩ := b.len
  have := LenIs.unique l1 l3
  subst this
  have p1 := a.par
  have p2 := b.par
  have hsh : sh = sh' := by omega
  subst hsh
  have hs : s = s' := IsRt.unique ⟨a.lo, a.hi⟩ ⟨b.lo, b.hi⟩
  subst hs
  exact ⟨rfl, by omega, a.re.trans b.re.symm⟩
end Go.Fb
namespace Go.Fb
open Go.Ev
theorem RtOk.lt {m : Nat} {e : Int} {sh s : Nat} {f : Int} {rest : Bool} (a : RtOk m e sh s f rest) : s < 18446744073709551616 := by
  obtain ⟨L, l1, l2⟩ := a.len
  have h1 := Nat.mul_lt_mul_of_pos_right l1.1 (Nat.two_pow_pos sh)
  rw [← Nat.pow_add] at h1
  have t := Nat.pow_le_pow_right (n := 2) (by decide) (show L + sh ≤ 127 by omega)
  rw [show (2 : Nat) ^ 127 = 170141183460469231731687303715884105728 from rfl] at t
  have h2 := a.lo
  rcases Nat.lt_or_ge s 18446744073709551616 with g | g
  · exact g
  · have := Nat.mul_le_mul g g
    omega
end Go.Fb
