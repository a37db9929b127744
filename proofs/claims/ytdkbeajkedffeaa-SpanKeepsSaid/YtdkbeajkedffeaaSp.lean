/- Layer 6: plain laws of what the functions compute. Conditions: as each theorem states. -/
import Derived.Test.YtdkbeajkedffeaaUq
import Derived.Test.YtdkbeajkedffeaaSd
namespace Go.Fb
open Go.Ev
def ExF (x : Rat) (mode : Int) (v : Int × Int) : Prop := ∃ K a b, Sit 3925 (xV 3925 x) K a b ∧ v = rnd (decide (x < 0)) K a b (smOf 3925 (xV 3925 x)) mode
end Go.Fb
namespace Go.Fb
open Go.Ev
end Go.Fb
namespace Go.Fb
open Go.Ev
inductive Kind (k : Nat) : Prop
  | nan (h : 9218868437227405312 < k) (c4 : (cls k == 4) = true) (c3 : (cls k == 3) = false) (c0 : (cls k == 0) = false)
  | inf (h : k = 9218868437227405312) (c4 : (cls k == 4) = false) (c3 : (cls k == 3) = true) (c0 : (cls k == 0) = false)
  | zero (h : k = 0) (c4 : (cls k == 4) = false) (c3 : (cls k == 3) = false) (c0 : (cls k == 0) = true)
  | fin (h : k < 9218868437227405312) (h0 : k ≠ 0) (c4 : (cls k == 4) = false) (c3 : (cls k == 3) = false) (c0 : (cls k == 0) = false)
theorem kind (k : Nat) : Kind k := by
  rcases cls_cases k with ⟨h, g⟩ | ⟨h, g⟩ | ⟨h, g⟩ | ⟨h, g⟩ | ⟨h, g⟩
  · exact .inf g (bf (by omega)) (bt h) (bf (by omega))
  · exact .nan g (bt h) (bf (by omega)) (bf (by omega))
  · exact .zero g (bf (by omega)) (bf (by omega)) (bt h)
  · exact .fin (by omega) (by omega) (bf (by omega)) (bf (by omega)) (bf (by omega))
  · exact .fin (by omega) (by omega) (bf (by omega)) (bf (by omega)) (bf (by omega))
inductive MulV (s : Bool) (k : Nat) (t : Bool) (j : Nat) (mode : Int) (v : Int × Int) : Prop
  | nan (h : 9218868437227405312 < k ∨ 9218868437227405312 < j) (e : v = (9221120237041090560, 0))
  | bad (h : (k = 9218868437227405312 ∧ j = 0) ∨ (k = 0 ∧ j = 9218868437227405312)) (e : v = (9221120237041090560, 16))
  | inf (h : (k = 9218868437227405312 ∧ j ≤ 9218868437227405312 ∧ j ≠ 0) ∨ (j = 9218868437227405312 ∧ k ≤ 9218868437227405312 ∧ k ≠ 0)) (e : v = (fl (s != t) 9218868437227405312, 0))
  | zero (h : k < 9218868437227405312 ∧ j < 9218868437227405312 ∧ (k = 0 ∨ j = 0)) (e : v = (fl (s != t) 0, 0))
  | fin (h : k < 9218868437227405312 ∧ j < 9218868437227405312 ∧ k ≠ 0 ∧ j ≠ 0) (e : ExF (fv s k * fv t j) mode v)
end Go.Fb
namespace Go.Fb
open Go.Ev
end Go.Fb
namespace Go.Fb
open Go.Ev
end Go.Fb
namespace Go.Fb
open Go.Ev
/-- what a sum is rounded to -/
def AddW (s t : Bool) (x : Rat) (mode : Int) (v : Int × Int) : Prop :=
  (x = 0 ∧ v = if s = t then (fl s 0, 0) else (fl (mode == 2) 0, 0)) ∨ (x ≠ 0 ∧ ExF x mode v)
end Go.Fb
namespace Go.Fb
open Go.Ev
inductive AddV (s : Bool) (k : Nat) (t : Bool) (j : Nat) (mode : Int) (v : Int × Int) : Prop
  | nan (h : 9218868437227405312 < k ∨ 9218868437227405312 < j) (e : v = (9221120237041090560, 0))
  | bad (h : k = 9218868437227405312 ∧ j = 9218868437227405312 ∧ s ≠ t) (e : v = (9221120237041090560, 16))
  | infa (h : k = 9218868437227405312 ∧ j ≤ 9218868437227405312 ∧ (j = 9218868437227405312 → s = t)) (e : v = (fl s 9218868437227405312, 0))
  | infb (h : k < 9218868437227405312 ∧ j = 9218868437227405312) (e : v = (fl t 9218868437227405312, 0))
  | fin (h : k < 9218868437227405312 ∧ j < 9218868437227405312) (w : AddW s t (fv s k + fv t j) mode v)
end Go.Fb
