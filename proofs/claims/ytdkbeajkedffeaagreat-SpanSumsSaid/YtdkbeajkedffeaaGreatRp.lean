/- Layer 3: plain laws of what the functions compute. Conditions: as each theorem states. -/
import Derived.Test.YtdkbeajkedffeaaGreatNq
import Derived.Test.YtdkbeajkedffeaaGreatRd
import Derived.Test.YtdkbeajkedffeaaGreatRl
namespace Go.Fb
open Go.Ev
def sg (neg : Bool) (n : Nat) : Int := if neg then -(n : Int) else n
def rq (neg : Bool) (n d : Nat) : Rat := mkRat (sg neg n) d
def val (a : RR) : Rat := rq a.neg (wv a.num) (wv a.den)
def vq (q : RQ) : Rat := rq q.neg (bv q.num) (bv q.den)
/-- a number in its one form, of at most k words each -/
def RIs (a : RR) (x : Rat) (k : Nat) : Prop := NumIs a.num x.num.natAbs k ∧ NumIs a.den x.den k ∧ a.neg = decide (x < 0)
/-- words, at most k -/
def RW (a : RR) (k : Nat) : Prop := Wds a.num ∧ Wds a.den ∧ a.num.length ≤ k ∧ a.den.length ≤ k
/-- a fraction of the document in its one form -/
def QIs (q : RQ) (x : Rat) (k : Nat) : Prop := bv q.num = x.num.natAbs ∧ LenIs x.num.natAbs q.num.length ∧ bv q.den = x.den ∧ LenIs x.den q.den.length ∧ q.neg = decide (x < 0) ∧ q.num.length ≤ k ∧ q.den.length ≤ k
theorem sg_natAbs (neg : Bool) (n : Nat) : (sg neg n).natAbs = n := by unfold sg; cases neg <;> simp
theorem sg_mul (s t : Bool) (n m : Nat) : sg s n * sg t m = sg (s != t) (n * m) := by
  cases s <;> cases t <;> simp [sg, Int.natCast_mul, Int.neg_mul, Int.mul_neg]
theorem sg_mulN (s : Bool) (n m : Nat) : sg s n * (m : Int) = sg s (n * m) := by
  cases s <;> simp [sg, Int.natCast_mul, Int.neg_mul]
theorem sg_neg (s : Bool) (n : Nat) : sg (!s) n = -sg s n := by cases s <;> simp [sg]
theorem rq_zero_num (neg : Bool) (d : Nat) : rq neg 0 d = 0 := by cases neg <;> simp [rq, sg]
theorem rq_num {neg : Bool} {n d : Nat} (hd : d ≠ 0) : (rq neg n d).num.natAbs = n / Nat.gcd n d := by
  unfold rq
  rw [Rat.num_mkRat, if_neg hd, sg_natAbs, Nat.gcd_comm]
  obtain ⟨k, hk⟩ := Nat.gcd_dvd_left n d
  rcases Nat.eq_zero_or_pos (Nat.gcd n d) with h0 | h0
  · rw [h0]; simp
  · generalize Nat.gcd n d = g at *
    rw [hk, Nat.mul_div_cancel_left _ h0]
    have e : sg neg (g * k) = (g : Int) * sg neg k := by cases neg <;> simp [sg, Int.natCast_mul, Int.mul_neg]
    rw [e, Int.mul_ediv_cancel_left _ (by omega), sg_natAbs]
theorem rq_den {neg : Bool} {n d : Nat} (hd : d ≠ 0) : (rq neg n d).den = d / Nat.gcd n d := by
  unfold rq
  rw [Rat.den_mkRat, if_neg hd, sg_natAbs, Nat.gcd_comm]
theorem rq_neg {neg : Bool} {n d : Nat} (hn : n ≠ 0) (hd : d ≠ 0) : neg = decide (rq neg n d < 0) := by
  have h1 : rq neg n d < 0 ↔ neg = true := by
    unfold rq
    rw [Rat.mkRat_eq_div]
    have hdp : (0 : Rat) < (d : Rat) := Rat.natCast_pos.2 (by omega)
    rw [Rat.div_lt_iff hdp, Rat.zero_mul]
    cases neg with
    | true =>
      simp only [sg, if_true, iff_true]
      have : (0 : Rat) < (n : Rat) := Rat.natCast_pos.2 (by omega)
      have e : ((-(n : Int) : Int) : Rat) = -(n : Rat) := by rw [Rat.intCast_neg, Rat.intCast_natCast]
      rw [e]; grind
    | false =>
      simp only [sg, Bool.false_eq_true, if_false, iff_false, Rat.not_lt]
      rw [Rat.intCast_natCast]
      exact Rat.natCast_nonneg
  cases neg with
  | true => exact (decide_eq_true (h1.2 rfl)).symm
  | false => exact (decide_eq_false fun h => by have := h1.1 h; cases this).symm
theorem rq_self (x : Rat) : rq (decide (x < 0)) x.num.natAbs x.den = x := by
  have : sg (decide (x < 0)) x.num.natAbs = x.num := by
    unfold sg
    by_cases h : x < 0
    · rw [decide_eq_true h, if_pos rfl]
      have : x.num < 0 := by
        rcases Int.lt_or_le x.num 0 with h2 | h2
        · exact h2
        · exact absurd (Rat.num_nonneg.1 h2) (Rat.not_le.2 h)
      omega
    · rw [decide_eq_false h, if_neg (by simp)]
      have := Rat.num_nonneg.2 (Rat.not_lt.1 h)
      omega
  unfold rq
  rw [this, Rat.mkRat_self]
theorem RIs.val {a : RR} {x : Rat} {k : Nat} (h : RIs a x k) : val a = x := by
  unfold Go.Fb.val
  rw [h.1.2.2.1, h.2.1.2.2.1, h.2.2, rq_self]
theorem RIs.RW {a : RR} {x : Rat} {k : Nat} (h : RIs a x k) : RW a k := ⟨h.1.1, h.2.1.1, h.1.2.2.2, h.2.1.2.2.2⟩
theorem RIs.le {a : RR} {x : Rat} {k m : Nat} (h : RIs a x k) (hm : k ≤ m) : RIs a x m :=
  ⟨⟨h.1.1, h.1.2.1, h.1.2.2.1, Nat.le_trans h.1.2.2.2 hm⟩, ⟨h.2.1.1, h.2.1.2.1, h.2.1.2.2.1, Nat.le_trans h.2.1.2.2.2 hm⟩, h.2.2⟩
theorem RW.le {a : RR} {k m : Nat} (h : RW a k) (hm : k ≤ m) : RW a m := ⟨h.1, h.2.1, Nat.le_trans h.2.2.1 hm, Nat.le_trans h.2.2.2 hm⟩
theorem QIs.val {q : RQ} {x : Rat} {k : Nat} (h : QIs q x k) : vq q = x := by
  unfold vq
  rw [h.1, h.2.2.1, h.2.2.2.2.1, rq_self]
/-- the one form is one -/
theorem RIs.unique {a b : RR} {x : Rat} {k m : Nat} (h : RIs a x k) (g : RIs b x m) : a = b := by
  obtain ⟨h1, h2, h3⟩ := h
  obtain ⟨g1, g2, g3⟩ := g
  have e1 : a.num = b.num := wv_inj h1.1 g1.1 h1.2.1 g1.2.1 (by rw [h1.2.2.1, g1.2.2.1])
  have e2 : a.den = b.den := wv_inj h2.1 g2.1 h2.2.1 g2.2.1 (by rw [h2.2.2.1, g2.2.2.1])
  cases a; cases b
  simp only at *
  subst e1 e2 h3 g3
  rfl
end Go.Fb
namespace Go.Fb
open Go.Ev
theorem rq_add (s t : Bool) (n m : Nat) {d e : Nat} (hd : d ≠ 0) (he : e ≠ 0) : rq s n d + rq t m e = mkRat (sg s (n * e) + sg t (m * d)) (d * e) := by
  unfold rq
  rw [Rat.mkRat_add_mkRat _ _ hd he, sg_mulN, sg_mulN]
theorem rq_mul (s t : Bool) (n m d e : Nat) : rq s n d * rq t m e = rq (s != t) (n * m) (d * e) := by
  unfold rq
  rw [Rat.mkRat_mul_mkRat, sg_mul]
theorem rq_negate (s : Bool) (n d : Nat) : rq (!s) n d = -rq s n d := by
  unfold rq
  rw [sg_neg, Rat.neg_mkRat]
theorem rq_inv (s : Bool) (n d : Nat) : rq s d n = (rq s n d)⁻¹ := by
  unfold rq
  rw [← Rat.divInt_ofNat, ← Rat.divInt_ofNat, Rat.inv_divInt]
  cases s with
  | false => rfl
  | true =>
    show Rat.divInt (-(d : Int)) (n : Int) = Rat.divInt (d : Int) (-(n : Int))
    rw [← Rat.neg_divInt_neg, Int.neg_neg]
end Go.Fb
namespace Go.Fb
open Go.Ev
theorem QIs.neg {a : RQ} {x : Rat} {k : Nat} (h : QIs a x k) : rq a.neg x.num.natAbs x.den = x := by rw [h.2.2.2.2.1, rq_self]
end Go.Fb
