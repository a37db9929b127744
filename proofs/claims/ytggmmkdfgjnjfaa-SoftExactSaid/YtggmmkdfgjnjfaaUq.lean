/- Layer 5: the laws hold, in plain Lean. Conditions: as each theorem states. -/
import Derived.Test.YtggmmkdfgjnjfaaUl
import Derived.Test.YtggmmkdfgjnjfaaUp
namespace Go.Fb
open Go.Ev
end Go.Fb
namespace Go.Fb
open Go.Ev
def xV (S : Nat) (x : Rat) : Xn := xQ S x.num.natAbs x.den
theorem xV_rq {s : Bool} {N D : Nat} (hN : N ≠ 0) (hD : D ≠ 0) (S y : Nat) : cut (xV S (rq s N D)) y = cut (xQ S N D) y := by
  unfold xV
  rw [rq_num hD, rq_den hD]
  have hg : 0 < Nat.gcd N D := Nat.gcd_pos_of_pos_left _ (by omega)
  have e1 := Nat.div_mul_cancel (Nat.gcd_dvd_left N D)
  have e2 := Nat.div_mul_cancel (Nat.gcd_dvd_right N D)
  have := xQ_scale (S := S) (N := N / Nat.gcd N D) (D := D / Nat.gcd N D) hg y
  rw [e1, e2] at this
  exact this.symm
theorem smOf_congr {S : Nat} {X Y : Xn} (h : ∀ y, cut X y = cut Y y) : smOf S X = smOf S Y := by unfold smOf; rw [h]
theorem val_nz {r : RR} (h : val r ≠ 0) : wv r.num ≠ 0 ∧ wv r.den ≠ 0 := by
  unfold val at h
  constructor
  · intro g; rw [g, rq_zero_num] at h; exact h rfl
  · intro g; rw [g, rq_zero_den] at h; exact h rfl
theorem exact_val {r : RR} {k : Nat} (h : RW r k) (hk : k ≤ 1000) (h0 : val r ≠ 0) {E : Nat} (hE : E ≤ 4900) (hn : wv r.num < 2 ^ E) (hd : wv r.den < 2 ^ E) (mode : Int) {S : Nat} (hS : 3925 ≤ S) :
    ∃ K a b, Sit S (xV S (val r)) K a b ∧ Tr.Is (n_Frac_t r.neg r.num r.den mode) (rnd (decide (val r < 0)) K a b (smOf S (xV S (val r))) mode) := by
  obtain ⟨z1, z2⟩ := val_nz h0
  obtain ⟨K, a, b, s, t⟩ := frac_is h.1 h.2.1 (Nat.le_trans h.2.2.1 hk) (Nat.le_trans h.2.2.2 hk) z1 z2 hE hn hd r.neg mode hS
  have c : ∀ y, cut (xQ S (wv r.num) (wv r.den)) y = cut (xV S (val r)) y := fun y => (xV_rq z1 z2 S y).symm
  refine ⟨K, a, b, sit_congr c s, ?_⟩
  have en : r.neg = decide (val r < 0) := rq_neg z1 z2
  rw [smOf_congr c] at t
  rw [← en]
  exact t
theorem exact_tree {r : RR} {mode : Int} {v : Int × Int} (h : Tr.Is (n_Frac_t r.neg r.num r.den mode) v) : Tr.Is (n_Exact_t r mode) v := Tr.is_ast h.2 (Tr.is_leaf h.1)
theorem sit_self {S : Nat} {X : Xn} {k : Nat} (hq : 0 < X.Q) (hp : X.P = X.Q * pos S k) (hr : X.rho = false) : Sit S X k false false := by
  have lt : ∀ y, pos S k < y → cut X y < 0 := fun y hy => by
    have := Nat.mul_lt_mul_of_pos_left hy hq
    unfold cut
    rw [if_pos (by omega)]
    decide
  have e0 : cut X (pos S k) = 0 := by
    unfold cut
    rw [if_neg (by omega), if_neg (by omega), hr]
    rfl
  have p0 : 0 < 2 ^ S := Nat.two_pow_pos S
  refine ⟨by omega, lt _ ?_, ?_, ?_⟩
  · unfold pos
    have := kvN_step k
    exact Nat.mul_lt_mul_of_pos_right (by omega) p0
  · have := lt _ (pos_lt_mid S k)
    exact (decide_eq_false (by omega)).symm
  · rw [e0]; rfl
theorem rnd_self {neg : Bool} {k : Nat} (hk : k < 9218868437227405312) (sm : Bool) (mode : Int) : rnd neg k false false sm mode = (fl neg k, 0) := by
  unfold rnd
  have hu : upOf (decide (k % 2 = 1)) false false (wayOf neg mode) = false := by unfold upOf; split; rfl; split <;> rfl
  rw [rans_under (J := k) (by rw [hu]; rfl) hk]
  rfl
theorem pos_xQ {S T k : Nat} (hT : T = 1074) : (xQ S (kvN k) (2 ^ T)).P = (xQ S (kvN k) (2 ^ T)).Q * pos S k := by
  unfold xQ pos
  dsimp only
  rw [show S + 1075 = T + S + 1 by omega, Nat.pow_succ, Nat.pow_add]
  simp only [Nat.mul_assoc, Nat.mul_comm, Nat.mul_left_comm]
theorem xQ_pos (S N T : Nat) : 0 < (xQ S N (2 ^ T)).Q := Nat.two_pow_pos T
theorem fv_nz {s : Bool} {k : Nat} (h : k < 9218868437227405312) (h0 : k ≠ 0) : kvN k ≠ 0 ∧ fv s k ≠ 0 ∧ decide (fv s k < 0) = s ∧ ∀ S, Sit S (xV S (fv s k)) k false false := by
  have hk : kvN k ≠ 0 := by have := kvN_mono (show 0 < k by omega); omega
  have hp : (2 : Nat) ^ 1074 ≠ 0 := Nat.ne_of_gt (Nat.two_pow_pos 1074)
  refine ⟨hk, ?_, ?_, ?_⟩
  · rw [fv_eq h]
    intro g
    unfold rq at g
    have := (Rat.mkRat_eq_zero hp).1 g
    unfold sg at this
    split at this <;> omega
  · rw [fv_eq h]
    exact (rq_neg hk hp).symm
  · intro S
    rw [fv_eq h]
    exact sit_congr (fun y => (xV_rq hk hp S y).symm) (sit_self (xQ_pos S (kvN k) 1074) (pos_xQ (T := 1074) rfl) rfl)
end Go.Fb
namespace Go.Fb
open Go.Ev
theorem mant_zero {k : Nat} (h : k < 9218868437227405312) : (mant k = 0) ↔ k = 0 := by unfold mant; split <;> (try split) <;> omega
theorem kvN_lt2 {k E : Nat} (h : k < 9218868437227405312) (hE : 2099 ≤ E) : kvN k < 2 ^ E := by
  obtain ⟨T, hT⟩ : ∃ T, T = 2046 := ⟨_, rfl⟩
  have : kvN k < 9007199254740992 * 2 ^ T := by
    unfold kvN
    have p := Nat.two_pow_pos T
    split
    · omega
    · refine Nat.lt_of_lt_of_le (Nat.mul_lt_mul_of_pos_right (show 4503599627370496 + k % 4503599627370496 < 9007199254740992 by omega) (Nat.two_pow_pos _)) (Nat.mul_le_mul_left _ (Nat.pow_le_pow_right (by decide) (by omega)))
  refine Nat.lt_of_lt_of_le this ?_
  rw [show (9007199254740992 : Nat) = 2 ^ 53 from rfl, ← Nat.pow_add]
  exact Nat.pow_le_pow_right (by decide) (by omega)
theorem rq_num_le (s : Bool) (N : Nat) {D : Nat} (hD : D ≠ 0) : (rq s N D).num.natAbs ≤ N ∧ (rq s N D).den ≤ D := by
  rw [rq_num hD, rq_den hD]
  exact ⟨Nat.div_le_self _ _, Nat.div_le_self _ _⟩
theorem pow_lt_of {T E : Nat} (h : T < E) : 2 ^ T < 2 ^ E := Nat.pow_lt_pow_right (by decide) h
theorem fv_zero (s : Bool) : fv s 0 = 0 := by
  rw [fv_eq (by omega), kvN_zero, rq_zero_num]
end Go.Fb
namespace Go.Fb
open Go.Ev
end Go.Fb
