/- Layer 5: plain laws of what the functions compute. Conditions: as each theorem states. -/
import Derived.Test.YtdkbeajkedffeaaPp
import Derived.Test.YtdkbeajkedffeaaUd
namespace Go.Fb
open Go.Ev
/-- a number above nought, in units of 2^-S: P / Q, and, if rho, a little more -/
structure Xn where
  P : Nat
  Q : Nat
  rho : Bool
/-- how it lies against y units -/
def cut (x : Xn) (y : Nat) : Int := if x.P < x.Q * y then -1 else if x.Q * y < x.P then 1 else if x.rho then 1 else 0
/-- a key's place, in units of 2^-(S + 1075) -/
def pos (S k : Nat) : Nat := 2 * kvN k * 2 ^ S
def midp (S k : Nat) : Nat := (kvN k + kvN (k + 1)) * 2 ^ S
/-- where a number lies: the key below, whether the middle is reached, whether there is more -/
def Sit (S : Nat) (x : Xn) (K : Nat) (h r : Bool) : Prop :=
  0 ≤ cut x (pos S K) ∧ cut x (pos S (K + 1)) < 0 ∧ (h = decide (0 ≤ cut x (midp S K))) ∧ (r = if h then decide (0 < cut x (midp S K)) else decide (0 < cut x (pos S K)))
theorem cut_mono {x : Xn} {y z : Nat} (hyz : y ≤ z) (h : 0 ≤ cut x z) : 0 ≤ cut x y := by
  unfold cut at *
  have := Nat.mul_le_mul_left x.Q hyz
  split at h
  · omega
  · split
    · omega
    · split <;> (try split) <;> omega
theorem pos_mono {S j k : Nat} (h : j ≤ k) : pos S j ≤ pos S k := by
  unfold pos
  have : kvN j ≤ kvN k := by
    rcases Nat.lt_or_ge j k with g | g
    · exact Nat.le_of_lt (kvN_mono g)
    · have : j = k := by omega
      rw [this]; exact Nat.le_refl _
  exact Nat.mul_le_mul_right _ (by omega)
/-- there is one key below -/
theorem sit_key {S : Nat} {x : Xn} {K J : Nat} {h r h' r' : Bool} (a : Sit S x K h r) (b : Sit S x J h' r') : K = J := by
  rcases Nat.lt_trichotomy K J with g | g | g
  · have := cut_mono (pos_mono (S := S) (show K + 1 ≤ J by omega)) b.1
    have := a.2.1; omega
  · exact g
  · have := cut_mono (pos_mono (S := S) (show J + 1 ≤ K by omega)) a.1
    have := b.2.1; omega
theorem sit_inj {S : Nat} {x : Xn} {K J : Nat} {h r h' r' : Bool} (a : Sit S x K h r) (b : Sit S x J h' r') : K = J ∧ h = h' ∧ r = r' := by
  have e := sit_key a b
  subst e
  have e2 : h = h' := a.2.2.1.trans b.2.2.1.symm
  subst e2
  exact ⟨rfl, rfl, a.2.2.2.trans b.2.2.2.symm⟩
/-- the key that a number is rounded to -/
def rkey (K : Nat) (h r : Bool) (way : Int) : Nat :=
  if way = 1 then (if h || r then K + 1 else K)
  else if way = 2 then K
  else if h && (r || decide (K % 2 = 1)) then K + 1 else K
/-- the key and the flags -/
def rans (K : Nat) (h r small : Bool) (way : Int) : Nat × Int :=
  if 9218868437227405312 ≤ rkey K h r way then (if way = 2 then 9218868437227405311 else 9218868437227405312, 5)
  else (rkey K h r way, if h || r then (if small then 3 else 1) else 0)
/-- the mode that a magnitude is rounded in -/
def wayOf (neg : Bool) (mode : Int) : Int := if neg = true ∧ mode = 1 then 2 else if neg = true ∧ mode = 2 then 1 else mode
end Go.Fb
namespace Go.Fb
open Go.Ev
end Go.Fb
namespace Go.Fb
open Go.Ev
/-- the answer out of the last bits and what lies behind -/
def tail (neg : Bool) (q : Int) (w : Nat) (h r small : Bool) (way : Int) : Int × Int :=
  let a := rans (4503599627370496 * (q + 1074).toNat + w) h r small way
  (fl neg a.1, a.2)
end Go.Fb
namespace Go.Fb
open Go.Ev
end Go.Fb
namespace Go.Fb
open Go.Ev
end Go.Fb
namespace Go.Fb
open Go.Ev
/-- a number that is not below M units, and below M + 1 of them; rest: it is more than M -/
structure In (x : Xn) (U M : Nat) (rest : Bool) : Prop where
  q : 0 < x.Q
  u : 0 < U
  lo : x.Q * (M * U) ≤ x.P
  hi : x.P < x.Q * ((M + 1) * U)
  re : rest = true ↔ (x.rho = true ∨ x.Q * (M * U) < x.P)
theorem cut_at {x : Xn} {U M : Nat} {rest : Bool} (h : In x U M rest) : 0 < cut x (M * U) ↔ rest = true := by
  rw [h.re]
  have := h.lo
  unfold cut
  rw [if_neg (by omega)]
  split
  · rename_i g
    exact ⟨fun _ => .inr g, fun _ => by decide⟩
  · rename_i g
    split
    · rename_i g2
      exact ⟨fun _ => .inl g2, fun _ => by decide⟩
    · rename_i g2
      exact ⟨fun h => absurd h (by decide), fun h => by rcases h with h | h <;> contradiction⟩
end Go.Fb
namespace Go.Fb
open Go.Ev
end Go.Fb
namespace Go.Fb
open Go.Ev
end Go.Fb
namespace Go.Fb
open Go.Ev
end Go.Fb
namespace Go.Fb
open Go.Ev
end Go.Fb
namespace Go.Fb
open Go.Ev
theorem rans_le {K : Nat} {h r sm : Bool} {way : Int} : (rans K h r sm way).1 ≤ 9218868437227405312 := by
  unfold rans
  split
  · dsimp only; split <;> omega
  · dsimp only; omega
/-- what stands for a number, with its sign -/
def rnd (neg : Bool) (K : Nat) (h r sm : Bool) (mode : Int) : Int × Int := (fl neg (rans K h r sm (wayOf neg mode)).1, (rans K h r sm (wayOf neg mode)).2)
def smOf (S : Nat) (X : Xn) : Bool := decide (cut X (2 ^ (S + 53)) < 0)
end Go.Fb
namespace Go.Fb
open Go.Ev
/-- a fraction -/
def xQ (S N D : Nat) : Xn := ⟨N * 2 ^ (S + 1075), D, false⟩
end Go.Fb
