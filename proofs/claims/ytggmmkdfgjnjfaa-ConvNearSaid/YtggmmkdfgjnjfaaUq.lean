/- Layer 5: the laws hold, in plain Lean. Conditions: as each theorem states. -/
import Derived.Test.YtggmmkdfgjnjfaaUl
import Derived.Test.YtggmmkdfgjnjfaaUp
namespace Go.Fb
open Go.Ev
end Go.Fb
namespace Go.Fb
open Go.Ev
def xV (S : Nat) (x : Rat) : Xn := xQ S x.num.natAbs x.den
theorem xV_rq {s : Bool} {N D : Nat} (hN : N ≠ 0) (hD : D ≠ 0) (S y : Nat) : cut (xV S (rq s N D)) y = cut (xQ S N D) y := by
  unfold xV
  rw [rq_num hD, rq_den hD]
  have hg : 0 < Nat.gcd N D := Nat.gcd_pos_of_pos_left _ (by omega)
  have e1 := Nat.div_mul_cancel (Nat.gcd_dvd_left N D)
  have e2 := Nat.div_mul_cancel (Nat.gcd_dvd_right N D)
  have := xQ_scale (S := S) (N := N / Nat.gcd N D) (D := D / Nat.gcd N D) hg y
  rw [e1, e2] at this
  exact this.symm
theorem smOf_congr {S : Nat} {X Y : Xn} (h : ∀ y, cut X y = cut Y y) : smOf S X = smOf S Y := by unfold smOf; rw [h]
theorem sit_self {S : Nat} {X : Xn} {k : Nat} (hq : 0 < X.Q) (hp : X.P = X.Q * pos S k) (hr : X.rho = false) : Sit S X k false false := by
  have lt : ∀ y, pos S k < y → cut X y < 0 := fun y hy => by
    have := Nat.mul_lt_mul_of_pos_left hy hq
    unfold cut
    rw [if_pos (by omega)]
    decide
  have e0 : cut X (pos S k) = 0 := by
    unfold cut
    rw [if_neg (by omega), if_neg (by omega), hr]
    rfl
  have p0 : 0 < 2 ^ S := Nat.two_pow_pos S
  refine ⟨by omega, lt _ ?_, ?_, ?_⟩
  · unfold pos
    have := kvN_step k
    exact Nat.mul_lt_mul_of_pos_right (by omega) p0
  · have := lt _ (pos_lt_mid S k)
    exact (decide_eq_false (by omega)).symm
  · rw [e0]; rfl
theorem rnd_self {neg : Bool} {k : Nat} (hk : k < 9218868437227405312) (sm : Bool) (mode : Int) : rnd neg k false false sm mode = (fl neg k, 0) := by
  unfold rnd
  have hu : upOf (decide (k % 2 = 1)) false false (wayOf neg mode) = false := by unfold upOf; split; rfl; split <;> rfl
  rw [rans_under (J := k) (by rw [hu]; rfl) hk]
  rfl
theorem pos_xQ {S T k : Nat} (hT : T = 1074) : (xQ S (kvN k) (2 ^ T)).P = (xQ S (kvN k) (2 ^ T)).Q * pos S k := by
  unfold xQ pos
  dsimp only
  rw [show S + 1075 = T + S + 1 by omega, Nat.pow_succ, Nat.pow_add]
  simp only [Nat.mul_assoc, Nat.mul_comm, Nat.mul_left_comm]
theorem xQ_pos (S N T : Nat) : 0 < (xQ S N (2 ^ T)).Q := Nat.two_pow_pos T
theorem fv_nz {s : Bool} {k : Nat} (h : k < 9218868437227405312) (h0 : k ≠ 0) : kvN k ≠ 0 ∧ fv s k ≠ 0 ∧ decide (fv s k < 0) = s ∧ ∀ S, Sit S (xV S (fv s k)) k false false := by
  have hk : kvN k ≠ 0 := by have := kvN_mono (show 0 < k by omega); omega
  have hp : (2 : Nat) ^ 1074 ≠ 0 := Nat.ne_of_gt (Nat.two_pow_pos 1074)
  refine ⟨hk, ?_, ?_, ?_⟩
  · rw [fv_eq h]
    intro g
    unfold rq at g
    have := (Rat.mkRat_eq_zero hp).1 g
    unfold sg at this
    split at this <;> omega
  · rw [fv_eq h]
    exact (rq_neg hk hp).symm
  · intro S
    rw [fv_eq h]
    exact sit_congr (fun y => (xV_rq hk hp S y).symm) (sit_self (xQ_pos S (kvN k) 1074) (pos_xQ (T := 1074) rfl) rfl)
end Go.Fb
namespace Go.Fb
open Go.Ev
end Go.Fb
namespace Go.Fb
open Go.Ev
end Go.Fb
