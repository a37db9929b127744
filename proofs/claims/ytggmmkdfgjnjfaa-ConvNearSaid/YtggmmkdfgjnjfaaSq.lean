/- Layer 6: the laws hold, in plain Lean. Conditions: as each theorem states. -/
import Derived.Test.YtggmmkdfgjnjfaaPq
import Derived.Test.YtggmmkdfgjnjfaaSl
import Derived.Test.YtggmmkdfgjnjfaaSp
namespace Go.Fb
open Go.Ev
theorem works6 : l6_works = true ∧ l6_works_s = true := by decide +kernel
end Go.Fb
namespace Go.Fb
open Go.Ev
theorem pre6 {t : Tr Bool} (h : Tr.Is t true) : Tr.Is (.ast l6_works_s (.br (!l6_works) (.leaf false) t)) true :=
  Tr.is_ast works6.2 (Tr.is_br_f (by rw [works6.1]; rfl) h)
def IsF (x : Int) : Prop := ∃ s k, k ≤ 9218868437227405312 ∧ x = fl s k
theorem ExF.isF {x : Rat} {mode : Int} {v : Int × Int} (h : ExF x mode v) : IsF v.1 := by
  obtain ⟨K, a, b, _, rfl⟩ := h
  exact ⟨_, _, rans_le, rfl⟩
theorem IsF.wd {x : Int} (h : IsF x) : Wd x := by
  obtain ⟨s, k, hk, rfl⟩ := h
  exact fl_wd (by omega)
theorem AddV.wd {s t : Bool} {k j : Nat} {mode : Int} {v : Int × Int} (h : AddV s k t j mode v) : Wd v.1 := by
  cases h with
  | nan h e => rw [e]; unfold Wd; dsimp only; omega
  | bad h e => rw [e]; unfold Wd; dsimp only; omega
  | infa h e => rw [e]; exact fl_wd (by omega)
  | infb h e => rw [e]; exact fl_wd (by omega)
  | fin h w =>
    rcases w with ⟨_, e⟩ | ⟨_, e⟩
    · rw [e]; split <;> exact fl_wd (by omega)
    · exact e.isF.wd
end Go.Fb
namespace Go.Fb
open Go.Ev
theorem fvT : ∃ T, T = 1074 ∧ ∀ (s : Bool) (k : Nat), k < 9218868437227405312 → fv s k = rq s (kvN k) (2 ^ T) := ⟨1074, rfl, fun _ _ h => fv_eq h⟩
theorem mkRat_rq (n : Int) (d : Nat) : mkRat n d = rq (decide (n < 0)) n.natAbs d := by
  unfold rq
  congr 1
  unfold sg
  by_cases h : n < 0
  · rw [dt h, if_pos rfl]; omega
  · rw [df h, if_neg (by decide)]; omega
end Go.Fb
namespace Go.Fb
open Go.Ev
theorem AddW.unique {s t : Bool} {x : Rat} {mode : Int} {v w : Int × Int} (h : AddW s t x mode v) (g : AddW s t x mode w) : v = w := by
  rcases h with ⟨h1, h2⟩ | ⟨h1, h2⟩
  · rcases g with ⟨g1, g2⟩ | ⟨g1, g2⟩
    · rw [h2, g2]
    · exact absurd h1 g1
  · rcases g with ⟨g1, g2⟩ | ⟨g1, g2⟩
    · exact absurd g1 h1
    · exact h2.unique g2
theorem AddV.unique {s t : Bool} {k j : Nat} {mode : Int} {v w : Int × Int} (h : AddV s k t j mode v) (g : AddV s k t j mode w) : v = w := by
  cases h with
  | nan h e => cases g with
    | nan _ e' => rw [e, e']
    | bad g _ => omega
    | infa g _ => omega
    | infb g _ => omega
    | fin g _ => omega
  | bad h e => cases g with
    | nan g _ => omega
    | bad _ e' => rw [e, e']
    | infa g _ => exact absurd (g.2.2 h.2.1) h.2.2
    | infb g _ => omega
    | fin g _ => omega
  | infa h e => cases g with
    | nan g _ => omega
    | bad g _ => exact absurd (h.2.2 g.2.1) g.2.2
    | infa _ e' => rw [e, e']
    | infb g _ => omega
    | fin g _ => omega
  | infb h e => cases g with
    | nan g _ => omega
    | bad g _ => omega
    | infa g _ => omega
    | infb _ e' => rw [e, e']
    | fin g _ => omega
  | fin h w1 => cases g with
    | nan g _ => omega
    | bad g _ => omega
    | infa g _ => omega
    | infb g _ => omega
    | fin _ w2 => exact w1.unique w2
theorem AddW.symm {s t : Bool} {x : Rat} {mode : Int} {v : Int × Int} (h : AddW s t x mode v) : AddW t s x mode v := by
  rcases h with ⟨h1, h2⟩ | h
  · refine .inl ⟨h1, ?_⟩
    rw [h2]
    by_cases e : s = t
    · rw [if_pos e, if_pos e.symm, e]
    · rw [if_neg e, if_neg (fun g => e g.symm)]
  · exact .inr h
theorem AddV.symm {s t : Bool} {k j : Nat} {mode : Int} {v : Int × Int} (h : AddV s k t j mode v) : AddV t j s k mode v := by
  cases h with
  | nan h e => exact .nan (by omega) e
  | bad h e => exact .bad ⟨h.2.1, h.1, fun g => h.2.2 g.symm⟩ e
  | infa h e =>
    by_cases g : j = 9218868437227405312
    · exact .infa ⟨g, by omega, fun _ => (h.2.2 g).symm⟩ (by rw [e, h.2.2 g])
    · exact .infb ⟨by omega, h.1⟩ e
  | infb h e => exact .infa ⟨h.2, by omega, fun g => by omega⟩ e
  | fin h w => exact .fin ⟨h.2, h.1⟩ (by rw [Rat.add_comm]; exact w.symm)
theorem MulV.unique {s t : Bool} {k j : Nat} {mode : Int} {v w : Int × Int} (h : MulV s k t j mode v) (g : MulV s k t j mode w) : v = w := by
  cases h with
  | nan h e => cases g with
    | nan _ e' => rw [e, e']
    | bad g _ => omega
    | inf g _ => omega
    | zero g _ => omega
    | fin g _ => omega
  | bad h e => cases g with
    | nan g _ => omega
    | bad _ e' => rw [e, e']
    | inf g _ => omega
    | zero g _ => omega
    | fin g _ => omega
  | inf h e => cases g with
    | nan g _ => omega
    | bad g _ => omega
    | inf _ e' => rw [e, e']
    | zero g _ => omega
    | fin g _ => omega
  | zero h e => cases g with
    | nan g _ => omega
    | bad g _ => omega
    | inf g _ => omega
    | zero _ e' => rw [e, e']
    | fin g _ => omega
  | fin h e => cases g with
    | nan g _ => omega
    | bad g _ => omega
    | inf g _ => omega
    | zero g _ => omega
    | fin _ e' => exact e.unique e'
theorem bne_comm' (s t : Bool) : (s != t) = (t != s) := by cases s <;> cases t <;> rfl
theorem MulV.symm {s t : Bool} {k j : Nat} {mode : Int} {v : Int × Int} (h : MulV s k t j mode v) : MulV t j s k mode v := by
  cases h with
  | nan h e => exact .nan (by omega) e
  | bad h e => exact .bad (by omega) e
  | inf h e => exact .inf (by omega) (by rw [e, bne_comm'])
  | zero h e => exact .zero (by omega) (by rw [e, bne_comm'])
  | fin h e => exact .fin (by omega) (by rw [Rat.mul_comm]; exact e)
/-- the mode that turns up and down about -/
def otherM (mode : Int) : Int := if mode = 1 then 2 else if mode = 2 then 1 else mode
theorem way_other (neg : Bool) (mode : Int) : wayOf (!neg) (otherM mode) = wayOf neg mode := by
  unfold wayOf otherM
  by_cases h1 : mode = 1
  · subst h1; cases neg <;> rfl
  · by_cases h2 : mode = 2
    · subst h2; cases neg <;> rfl
    · simp [h1, h2]
theorem neg_lt {x : Rat} (h : x ≠ 0) : decide (-x < 0) = !decide (x < 0) := by
  by_cases g : x < 0
  · rw [dt g, df (show ¬ -x < 0 by grind)]; rfl
  · rw [df g, dt (show -x < 0 by grind)]; rfl
theorem xV_neg (S : Nat) (x : Rat) : xV S (-x) = xV S x := by
  unfold xV
  rw [Rat.neg_num, Rat.neg_den, Int.natAbs_neg]
theorem ExF.neg {x : Rat} {mode : Int} {v w : Int × Int} (h0 : x ≠ 0) (h : ExF x mode v) (g : ExF (-x) (otherM mode) w) : ∃ s k, k ≤ 9218868437227405312 ∧ v.1 = fl s k ∧ w.1 = fl (!s) k := by
  obtain ⟨K, a, b, s, rfl⟩ := h
  obtain ⟨J, c, d, t, rfl⟩ := g
  rw [xV_neg] at t ⊢
  obtain ⟨rfl, rfl, rfl⟩ := sit_inj s t
  refine ⟨_, _, rans_le, rfl, ?_⟩
  unfold rnd
  rw [neg_lt h0, way_other]
end Go.Fb
namespace Go.Fb
open Go.Ev
/-- a float that is no NaN, by its key with its sign -/
def RK (x z : Int) : Prop := ∃ q m, m ≤ 9218868437227405312 ∧ x = fl q m ∧ ky q m = z
theorem RK.rng {x z : Int} (h : RK x z) : -9218868437227405312 ≤ z ∧ z ≤ 9218868437227405312 := by
  obtain ⟨q, m, hm, _, rfl⟩ := h
  unfold ky; split <;> omega
theorem MulV.wd {s t : Bool} {k j : Nat} {mode : Int} {v : Int × Int} (h : MulV s k t j mode v) : Wd v.1 := by
  cases h with
  | nan h e => rw [e]; unfold Wd; dsimp only; omega
  | bad h e => rw [e]; unfold Wd; dsimp only; omega
  | inf h e => rw [e]; exact fl_wd (by omega)
  | zero h e => rw [e]; exact fl_wd (by omega)
  | fin h e => exact e.isF.wd
end Go.Fb
namespace Go.Fb
open Go.Ev
theorem RtOk.unique {m : Nat} {e : Int} {sh s sh' s' : Nat} {f f' : Int} {rest rest' : Bool} (a : RtOk m e sh s f rest) (b : RtOk m e sh' s' f' rest') : s = s' ∧ f = f' ∧ rest = rest' := by
  obtain ⟨L, l1, l2⟩ := a.len
  obtain ⟨L', l3, l4⟩ := b.len
  have := LenIs.unique l1 l3
  subst this
  have p1 := a.par
  have p2 := b.par
  have hsh : sh = sh' := by omega
  subst hsh
  have hs : s = s' := IsRt.unique ⟨a.lo, a.hi⟩ ⟨b.lo, b.hi⟩
  subst hs
  exact ⟨rfl, by omega, a.re.trans b.re.symm⟩
theorem kvN_mant {k : Nat} (h : k < 9218868437227405312) : kvN k = mant k * 2 ^ (expo k + 1074).toNat := by
  unfold kvN mant expo
  by_cases c : k < 4503599627370496
  · rw [if_pos c, if_pos c]
    by_cases k0 : k = 0
    · rw [if_pos k0, k0, Nat.zero_mul]
    · rw [if_neg k0, if_pos c]; simp
  · rw [if_neg c, if_neg c, if_pos h, if_neg (by omega), if_neg c, if_pos h]
    congr 2
    omega
end Go.Fb
namespace Go.Fb
open Go.Ev
theorem RtOk.lt {m : Nat} {e : Int} {sh s : Nat} {f : Int} {rest : Bool} (a : RtOk m e sh s f rest) : s < 18446744073709551616 := by
  obtain ⟨L, l1, l2⟩ := a.len
  have h1 := Nat.mul_lt_mul_of_pos_right l1.1 (Nat.two_pow_pos sh)
  rw [← Nat.pow_add] at h1
  have t := Nat.pow_le_pow_right (n := 2) (by decide) (show L + sh ≤ 127 by omega)
  rw [show (2 : Nat) ^ 127 = 170141183460469231731687303715884105728 from rfl] at t
  have h2 := a.lo
  rcases Nat.lt_or_ge s 18446744073709551616 with g | g
  · exact g
  · have := Nat.mul_le_mul g g
    omega
end Go.Fb
