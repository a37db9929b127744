/- Layer 3: plain laws of what the functions compute. Conditions: as each theorem states. -/
import Derived.Test.YtdkbeajkedffeaaNq
import Derived.Test.YtdkbeajkedffeaaRd
import Derived.Test.YtdkbeajkedffeaaRl
namespace Go.Fb
open Go.Ev
def sg (neg : Bool) (n : Nat) : Int := if neg then -(n : Int) else n
def rq (neg : Bool) (n d : Nat) : Rat := mkRat (sg neg n) d
def val (a : RR) : Rat := rq a.neg (wv a.num) (wv a.den)
def vq (q : RQ) : Rat := rq q.neg (bv q.num) (bv q.den)
/-- a number in its one form, of at most k words each -/
def RIs (a : RR) (x : Rat) (k : Nat) : Prop := NumIs a.num x.num.natAbs k ∧ NumIs a.den x.den k ∧ a.neg = decide (x < 0)
/-- a fraction of the document in its one form -/
def QIs (q : RQ) (x : Rat) (k : Nat) : Prop := bv q.num = x.num.natAbs ∧ LenIs x.num.natAbs q.num.length ∧ bv q.den = x.den ∧ LenIs x.den q.den.length ∧ q.neg = decide (x < 0) ∧ q.num.length ≤ k ∧ q.den.length ≤ k
theorem rq_self (x : Rat) : rq (decide (x < 0)) x.num.natAbs x.den = x := by
  have : sg (decide (x < 0)) x.num.natAbs = x.num := by
    unfold sg
    by_cases h : x < 0
    · rw [decide_eq_true h, if_pos rfl]
      have : x.num < 0 := by
        rcases Int.lt_or_le x.num 0 with h2 | h2
        · exact h2
        · exact absurd (Rat.num_nonneg.1 h2) (Rat.not_le.2 h)
      omega
    · rw [decide_eq_false h, if_neg (by simp)]
      have := Rat.num_nonneg.2 (Rat.not_lt.1 h)
      omega
  unfold rq
  rw [this, Rat.mkRat_self]
theorem RIs.val {a : RR} {x : Rat} {k : Nat} (h : RIs a x k) : val a = x := by
  unfold Go.Fb.val
  rw [h.1.2.2.1, h.2.1.2.2.1, h.2.2, rq_self]
theorem QIs.val {q : RQ} {x : Rat} {k : Nat} (h : QIs q x k) : vq q = x := by
  unfold vq
  rw [h.1, h.2.2.1, h.2.2.2.2.1, rq_self]
end Go.Fb
namespace Go.Fb
open Go.Ev
end Go.Fb
namespace Go.Fb
open Go.Ev
theorem QIs.neg {a : RQ} {x : Rat} {k : Nat} (h : QIs a x k) : rq a.neg x.num.natAbs x.den = x := by rw [h.2.2.2.2.1, rq_self]
end Go.Fb
