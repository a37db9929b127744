/- Layer 6: the laws hold, in plain Lean. Conditions: as each theorem states. -/
import Derived.Test.YtdkbeajkedffeaaPq
import Derived.Test.YtdkbeajkedffeaaSl
import Derived.Test.YtdkbeajkedffeaaSp
namespace Go.Fb
open Go.Ev
theorem works6 : l6_works = true ∧ l6_works_s = true := by decide +kernel
end Go.Fb
namespace Go.Fb
open Go.Ev
theorem pre6 {t : Tr Bool} (h : Tr.Is t true) : Tr.Is (.ast l6_works_s (.br (!l6_works) (.leaf false) t)) true :=
  Tr.is_ast works6.2 (Tr.is_br_f (by rw [works6.1]; rfl) h)
theorem xor_neg {t : Bool} {j : Nat} (hj : j < 9223372036854775808) : bitsI BinOp.xor IntKind.u64 (fl t j) 9223372036854775808 = fl (!t) j := by
  have h := fl_lt (s := t) hj
  show bitsI BinOp.xor IntKind.u64 ((flN t j : Nat) : Int) ((9223372036854775808 : Nat) : Int) = _
  rw [bits_xor h (by omega), xor_top h]
  cases t
  · unfold flN fl flN; simp only [Bool.false_eq_true, if_false, Bool.not_false, if_true]; rw [if_neg (by omega)]; omega
  · unfold flN fl flN; simp only [if_true, Bool.not_true, Bool.false_eq_true, if_false]; rw [if_pos (by omega)]; omega
theorem ssub_tree {a b mode : Int} {v : Int × Int} (h : Tr.Is (s_Add_t a (p_Neg b) mode) v) : Tr.Is (s_Sub_t a b mode) v := Tr.is_ast h.2 (Tr.is_leaf h.1)
def IsF (x : Int) : Prop := ∃ s k, k ≤ 9218868437227405312 ∧ x = fl s k
theorem ExF.isF {x : Rat} {mode : Int} {v : Int × Int} (h : ExF x mode v) : IsF v.1 := by
  obtain ⟨K, a, b, _, rfl⟩ := h
  exact ⟨_, _, rans_le, rfl⟩
theorem IsF.wd {x : Int} (h : IsF x) : Wd x := by
  obtain ⟨s, k, hk, rfl⟩ := h
  exact fl_wd (by omega)
theorem AddV.wd {s t : Bool} {k j : Nat} {mode : Int} {v : Int × Int} (h : AddV s k t j mode v) : Wd v.1 := by
  cases h with
  | nan h e => rw [e]; unfold Wd; dsimp only; omega
  | bad h e => rw [e]; unfold Wd; dsimp only; omega
  | infa h e => rw [e]; exact fl_wd (by omega)
  | infb h e => rw [e]; exact fl_wd (by omega)
  | fin h w =>
    rcases w with ⟨_, e⟩ | ⟨_, e⟩
    · rw [e]; split <;> exact fl_wd (by omega)
    · exact e.isF.wd
end Go.Fb
namespace Go.Fb
open Go.Ev
theorem div_nz {x y : Rat} (h1 : x ≠ 0) (h2 : y ≠ 0) : x / y ≠ 0 := by
  intro h
  have : x = x / y * y := by grind
  rw [h, Rat.zero_mul] at this
  exact h1 this
end Go.Fb
namespace Go.Fb
open Go.Ev
theorem AddW.unique {s t : Bool} {x : Rat} {mode : Int} {v w : Int × Int} (h : AddW s t x mode v) (g : AddW s t x mode w) : v = w := by
  rcases h with ⟨h1, h2⟩ | ⟨h1, h2⟩
  · rcases g with ⟨g1, g2⟩ | ⟨g1, g2⟩
    · rw [h2, g2]
    · exact absurd h1 g1
  · rcases g with ⟨g1, g2⟩ | ⟨g1, g2⟩
    · exact absurd g1 h1
    · exact h2.unique g2
theorem AddV.unique {s t : Bool} {k j : Nat} {mode : Int} {v w : Int × Int} (h : AddV s k t j mode v) (g : AddV s k t j mode w) : v = w := by
  cases h with
  | nan h e => cases g with
    | nan _ e' => rw [e, e']
    | bad g _ => omega
    | infa g _ => omega
    | infb g _ => omega
    | fin g _ => omega
  | bad h e => cases g with
    | nan g _ => omega
    | bad _ e' => rw [e, e']
    | infa g _ => exact absurd (g.2.2 h.2.1) h.2.2
    | infb g _ => omega
    | fin g _ => omega
  | infa h e => cases g with
    | nan g _ => omega
    | bad g _ => exact absurd (h.2.2 g.2.1) g.2.2
    | infa _ e' => rw [e, e']
    | infb g _ => omega
    | fin g _ => omega
  | infb h e => cases g with
    | nan g _ => omega
    | bad g _ => omega
    | infa g _ => omega
    | infb _ e' => rw [e, e']
    | fin g _ => omega
  | fin h w1 => cases g with
    | nan g _ => omega
    | bad g _ => omega
    | infa g _ => omega
    | infb g _ => omega
    | fin _ w2 => exact w1.unique w2
theorem AddW.symm {s t : Bool} {x : Rat} {mode : Int} {v : Int × Int} (h : AddW s t x mode v) : AddW t s x mode v := by
  rcases h with ⟨h1, h2⟩ | h
  · refine .inl ⟨h1, ?_⟩
    rw [h2]
    by_cases e : s = t
    · rw [if_pos e, if_pos e.symm, e]
    · rw [if_neg e, if_neg (fun g => e g.symm)]
  · exact .inr h
theorem AddV.symm {s t : Bool} {k j : Nat} {mode : Int} {v : Int × Int} (h : AddV s k t j mode v) : AddV t j s k mode v := by
  cases h with
  | nan h e => exact .nan (by omega) e
  | bad h e => exact .bad ⟨h.2.1, h.1, fun g => h.2.2 g.symm⟩ e
  | infa h e =>
    by_cases g : j = 9218868437227405312
    · exact .infa ⟨g, by omega, fun _ => (h.2.2 g).symm⟩ (by rw [e, h.2.2 g])
    · exact .infb ⟨by omega, h.1⟩ e
  | infb h e => exact .infa ⟨h.2, by omega, fun g => by omega⟩ e
  | fin h w => exact .fin ⟨h.2, h.1⟩ (by rw [Rat.add_comm]; exact w.symm)
theorem MulV.unique {s t : Bool} {k j : Nat} {mode : Int} {v w : Int × Int} (h : MulV s k t j mode v) (g : MulV s k t j mode w) : v = w := by
  cases h with
  | nan h e => cases g with
    | nan _ e' => rw [e, e']
    | bad g _ => omega
    | inf g _ => omega
    | zero g _ => omega
    | fin g _ => omega
  | bad h e => cases g with
    | nan g _ => omega
    | bad _ e' => rw [e, e']
    | inf g _ => omega
    | zero g _ => omega
    | fin g _ => omega
  | inf h e => cases g with
    | nan g _ => omega
    | bad g _ => omega
    | inf _ e' => rw [e, e']
    | zero g _ => omega
    | fin g _ => omega
  | zero h e => cases g with
    | nan g _ => omega
    | bad g _ => omega
    | inf g _ => omega
    | zero _ e' => rw [e, e']
    | fin g _ => omega
  | fin h e => cases g with
    | nan g _ => omega
    | bad g _ => omega
    | inf g _ => omega
    | zero g _ => omega
    | fin _ e' => exact e.unique e'
theorem bne_comm' (s t : Bool) : (s != t) = (t != s) := by cases s <;> cases t <;> rfl
theorem MulV.symm {s t : Bool} {k j : Nat} {mode : Int} {v : Int × Int} (h : MulV s k t j mode v) : MulV t j s k mode v := by
  cases h with
  | nan h e => exact .nan (by omega) e
  | bad h e => exact .bad (by omega) e
  | inf h e => exact .inf (by omega) (by rw [e, bne_comm'])
  | zero h e => exact .zero (by omega) (by rw [e, bne_comm'])
  | fin h e => exact .fin (by omega) (by rw [Rat.mul_comm]; exact e)
def otherM (mode : Int) : Int := if mode = 1 then 2 else if mode = 2 then 1 else mode
theorem way_other (neg : Bool) (mode : Int) : wayOf (!neg) (otherM mode) = wayOf neg mode := by
  unfold wayOf otherM
  by_cases h1 : mode = 1
  · subst h1; cases neg <;> rfl
  · by_cases h2 : mode = 2
    · subst h2; cases neg <;> rfl
    · simp [h1, h2]
theorem neg_lt {x : Rat} (h : x ≠ 0) : decide (-x < 0) = !decide (x < 0) := by
  by_cases g : x < 0
  · rw [dt g, df (show ¬ -x < 0 by grind)]; rfl
  · rw [df g, dt (show -x < 0 by grind)]; rfl
theorem xV_neg (S : Nat) (x : Rat) : xV S (-x) = xV S x := by
  unfold xV
  rw [Rat.neg_num, Rat.neg_den, Int.natAbs_neg]
theorem ExF.neg {x : Rat} {mode : Int} {v w : Int × Int} (h0 : x ≠ 0) (h : ExF x mode v) (g : ExF (-x) (otherM mode) w) : ∃ s k, k ≤ 9218868437227405312 ∧ v.1 = fl s k ∧ w.1 = fl (!s) k := by
  obtain ⟨K, a, b, s, rfl⟩ := h
  obtain ⟨J, c, d, t, rfl⟩ := g
  rw [xV_neg] at t ⊢
  obtain ⟨rfl, rfl, rfl⟩ := sit_inj s t
  refine ⟨_, _, rans_le, rfl, ?_⟩
  unfold rnd
  rw [neg_lt h0, way_other]
theorem fv_neg (s : Bool) (k : Nat) : fv (!s) k = -fv s k := by unfold fv dy; rw [rq_negate]
end Go.Fb
namespace Go.Fb
open Go.Ev
def RK (x z : Int) : Prop := ∃ q m, m ≤ 9218868437227405312 ∧ x = fl q m ∧ ky q m = z
theorem RK.rng {x z : Int} (h : RK x z) : -9218868437227405312 ≤ z ∧ z ≤ 9218868437227405312 := by
  obtain ⟨q, m, hm, _, rfl⟩ := h
  unfold ky; split <;> omega
theorem exF_key {x : Rat} {mode : Int} {v : Int × Int} (h0 : x ≠ 0) (h : ExF x mode v) : ∃ z, RK v.1 z ∧ ExK x mode z := by
  obtain ⟨K, a, b, s, rfl⟩ := h
  refine ⟨_, ⟨_, _, rans_le, rfl, rfl⟩, .inr ⟨h0, K, a, b, s, ?_⟩⟩
  rw [rk_eq]
theorem addRK {s r : Bool} {k i : Nat} {mode : Int} {v : Int × Int} (h : AddV s k r i mode v) (hk : k ≤ 9218868437227405312) (hi : i ≤ 9218868437227405312) :
    v.1 = 9221120237041090560 ∨ ∃ z, RK v.1 z ∧ ((k = 9218868437227405312 ∧ z = ky s k) ∨ (k < 9218868437227405312 ∧ i = 9218868437227405312 ∧ z = ky r i) ∨ (k < 9218868437227405312 ∧ i < 9218868437227405312 ∧ ExK (fv s k + fv r i) mode z)) := by
  cases h with
  | nan h e => omega
  | bad h e => rw [e]; exact .inl rfl
  | infa h e => rw [e]; exact .inr ⟨_, ⟨s, _, Nat.le_refl _, rfl, rfl⟩, .inl ⟨h.1, by rw [h.1]⟩⟩
  | infb h e => rw [e]; exact .inr ⟨_, ⟨r, _, Nat.le_refl _, rfl, rfl⟩, .inr (.inl ⟨h.1, h.2, by rw [h.2]⟩)⟩
  | fin h w =>
    right
    rcases w with ⟨z, e⟩ | ⟨z, e⟩
    · have k0 : ∀ a : Bool, ky a 0 = 0 := fun a => by cases a <;> rfl
      rw [e]
      refine ⟨0, ?_, .inr (.inr ⟨h.1, h.2, .inl ⟨z, rfl⟩⟩)⟩
      split <;> exact ⟨_, 0, by omega, rfl, k0 _⟩
    · obtain ⟨y, y1, y2⟩ := exF_key z e
      exact ⟨y, y1, .inr (.inr ⟨h.1, h.2, y2⟩)⟩
theorem mulRK {s r : Bool} {k i : Nat} {mode : Int} {v : Int × Int} (h : MulV s k r i mode v) (hk : k ≤ 9218868437227405312) (hi : i ≤ 9218868437227405312) :
    (v.1 = 9221120237041090560 ∧ ((k = 9218868437227405312 ∧ i = 0) ∨ (k = 0 ∧ i = 9218868437227405312))) ∨ ∃ z, RK v.1 z ∧ (((k = 9218868437227405312 ∨ i = 9218868437227405312) ∧ k ≠ 0 ∧ i ≠ 0 ∧ z = ky (s != r) 9218868437227405312) ∨ (k < 9218868437227405312 ∧ i < 9218868437227405312 ∧ ExK (fv s k * fv r i) mode z)) := by
  cases h with
  | nan h e => omega
  | bad h e => rw [e]; exact .inl ⟨rfl, h⟩
  | inf h e => rw [e]; exact .inr ⟨_, ⟨_, _, Nat.le_refl _, rfl, rfl⟩, .inl ⟨by omega, by omega, by omega, rfl⟩⟩
  | zero h e =>
    rw [e]
    have k0 : ∀ a : Bool, ky a 0 = 0 := fun a => by cases a <;> rfl
    refine .inr ⟨0, ⟨_, 0, by omega, rfl, k0 _⟩, .inr ⟨h.1, h.2.1, .inl ⟨?_, rfl⟩⟩⟩
    rcases h.2.2 with g | g
    · rw [g, fv_zero, Rat.zero_mul]
    · rw [g, fv_zero, Rat.mul_zero]
  | fin h e =>
    have h1 := (fv_nz (s := s) h.1 h.2.2.1).2.1
    have h2 := (fv_nz (s := r) h.2.1 h.2.2.2).2.1
    obtain ⟨y, y1, y2⟩ := exF_key (fun g => by rcases Rat.mul_eq_zero.1 g with g | g; exact h1 g; exact h2 g) e
    exact .inr ⟨y, y1, .inr ⟨h.1, h.2.1, y2⟩⟩
theorem MulV.wd {s t : Bool} {k j : Nat} {mode : Int} {v : Int × Int} (h : MulV s k t j mode v) : Wd v.1 := by
  cases h with
  | nan h e => rw [e]; unfold Wd; dsimp only; omega
  | bad h e => rw [e]; unfold Wd; dsimp only; omega
  | inf h e => rw [e]; exact fl_wd (by omega)
  | zero h e => rw [e]; exact fl_wd (by omega)
  | fin h e => exact e.isF.wd
end Go.Fb
