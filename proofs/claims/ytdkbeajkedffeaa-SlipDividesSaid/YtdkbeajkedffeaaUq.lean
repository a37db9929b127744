/- Layer 5: the laws hold, in plain Lean. Conditions: as each theorem states. -/
import Derived.Test.YtdkbeajkedffeaaUl
import Derived.Test.YtdkbeajkedffeaaUp
namespace Go.Fb
open Go.Ev
end Go.Fb
namespace Go.Fb
open Go.Ev
def xV (S : Nat) (x : Rat) : Xn := xQ S x.num.natAbs x.den
theorem xV_rq {s : Bool} {N D : Nat} (hN : N ≠ 0) (hD : D ≠ 0) (S y : Nat) : cut (xV S (rq s N D)) y = cut (xQ S N D) y := by
  unfold xV
  rw [rq_num hD, rq_den hD]
  have hg : 0 < Nat.gcd N D := Nat.gcd_pos_of_pos_left _ (by omega)
  have e1 := Nat.div_mul_cancel (Nat.gcd_dvd_left N D)
  have e2 := Nat.div_mul_cancel (Nat.gcd_dvd_right N D)
  have := xQ_scale (S := S) (N := N / Nat.gcd N D) (D := D / Nat.gcd N D) hg y
  rw [e1, e2] at this
  exact this.symm
theorem smOf_congr {S : Nat} {X Y : Xn} (h : ∀ y, cut X y = cut Y y) : smOf S X = smOf S Y := by unfold smOf; rw [h]
theorem sit_self {S : Nat} {X : Xn} {k : Nat} (hq : 0 < X.Q) (hp : X.P = X.Q * pos S k) (hr : X.rho = false) : Sit S X k false false := by
  have lt : ∀ y, pos S k < y → cut X y < 0 := fun y hy => by
    have := Nat.mul_lt_mul_of_pos_left hy hq
    unfold cut
    rw [if_pos (by omega)]
    decide
  have e0 : cut X (pos S k) = 0 := by
    unfold cut
    rw [if_neg (by omega), if_neg (by omega), hr]
    rfl
  have p0 : 0 < 2 ^ S := Nat.two_pow_pos S
  refine ⟨by omega, lt _ ?_, ?_, ?_⟩
  · unfold pos
    have := kvN_step k
    exact Nat.mul_lt_mul_of_pos_right (by omega) p0
  · have := lt _ (pos_lt_mid S k)
    exact (decide_eq_false (by omega)).symm
  · rw [e0]; rfl
theorem rnd_self {neg : Bool} {k : Nat} (hk : k < 9218868437227405312) (sm : Bool) (mode : Int) : rnd neg k false false sm mode = (fl neg k, 0) := by
  unfold rnd
  have hu : upOf (decide (k % 2 = 1)) false false (wayOf neg mode) = false := by unfold upOf; split; rfl; split <;> rfl
  rw [rans_under (J := k) (by rw [hu]; rfl) hk]
  rfl
theorem pos_xQ {S T k : Nat} (hT : T = 1074) : (xQ S (kvN k) (2 ^ T)).P = (xQ S (kvN k) (2 ^ T)).Q * pos S k := by
  unfold xQ pos
  dsimp only
  rw [show S + 1075 = T + S + 1 by omega, Nat.pow_succ, Nat.pow_add]
  simp only [Nat.mul_assoc, Nat.mul_comm, Nat.mul_left_comm]
theorem xQ_pos (S N T : Nat) : 0 < (xQ S N (2 ^ T)).Q := Nat.two_pow_pos T
theorem fv_nz {s : Bool} {k : Nat} (h : k < 9218868437227405312) (h0 : k ≠ 0) : kvN k ≠ 0 ∧ fv s k ≠ 0 ∧ decide (fv s k < 0) = s ∧ ∀ S, Sit S (xV S (fv s k)) k false false := by
  have hk : kvN k ≠ 0 := by have := kvN_mono (show 0 < k by omega); omega
  have hp : (2 : Nat) ^ 1074 ≠ 0 := Nat.ne_of_gt (Nat.two_pow_pos 1074)
  refine ⟨hk, ?_, ?_, ?_⟩
  · rw [fv_eq h]
    intro g
    unfold rq at g
    have := (Rat.mkRat_eq_zero hp).1 g
    unfold sg at this
    split at this <;> omega
  · rw [fv_eq h]
    exact (rq_neg hk hp).symm
  · intro S
    rw [fv_eq h]
    exact sit_congr (fun y => (xV_rq hk hp S y).symm) (sit_self (xQ_pos S (kvN k) 1074) (pos_xQ (T := 1074) rfl) rfl)
end Go.Fb
namespace Go.Fb
open Go.Ev
theorem mant_zero {k : Nat} (h : k < 9218868437227405312) : (mant k = 0) ↔ k = 0 := by unfold mant; split <;> (try split) <;> omega
theorem fv_zero (s : Bool) : fv s 0 = 0 := by
  rw [fv_eq (by omega), kvN_zero, rq_zero_num]
end Go.Fb
namespace Go.Fb
open Go.Ev
def XLe (X Y : Xn) : Prop := ∀ t, (0 ≤ cut X t → 0 ≤ cut Y t) ∧ (0 < cut X t → 0 < cut Y t)
def rk (K : Nat) (h r : Bool) (way : Int) : Nat := (rans K h r false way).1
theorem rk_eq {K : Nat} {h r sm : Bool} {way : Int} : (rans K h r sm way).1 = rk K h r way := by
  unfold rk rans
  split <;> rfl
theorem rkey_mono {S : Nat} {X Y : Xn} {K J : Nat} {h r h' r' : Bool} (a : Sit S X K h r) (b : Sit S Y J h' r') (hX : 0 < X.Q) (hY : 0 < Y.Q) (le : XLe X Y) (way : Int) : rkey K h r way ≤ rkey J h' r' way := by
  have e1 := sit_exact a hX
  have e2 := sit_exact b hY
  rw [rkey_up, rkey_up]
  have hKJ : K ≤ J := by
    rcases Nat.lt_or_ge J K with g | g
    · have := cut_mono (pos_mono (S := S) (show J + 1 ≤ K by omega)) a.1
      have := (le _).1 this
      have := b.2.1; omega
    · exact g
  rcases Nat.lt_or_ge K J with g | g
  · split <;> split <;> omega
  · have : K = J := by omega
    subst this
    have m1 : (h || r) = true → (h' || r') = true := fun g => by
      rw [g] at e1
      have : cut X (pos S K) ≠ 0 := by simpa using e1
      have := a.1
      have := (le (pos S K)).2 (by omega)
      cases g2 : (h' || r') with
      | true => rfl
      | false => rw [g2] at e2; have : cut Y (pos S K) = 0 := by simpa using e2
                 omega
    have m2 : h = true → h' = true := fun g => by
      rw [a.2.2.1] at g
      rw [b.2.2.1]
      exact decide_eq_true ((le _).1 (of_decide_eq_true g))
    have m3 : h = true → r = true → r' = true := fun g g2 => by
      have g' := m2 g
      have a4 := a.2.2.2
      have b4 := b.2.2.2
      rw [g, g2, if_pos rfl] at a4
      rw [g', if_pos rfl] at b4
      rw [b4]
      exact decide_eq_true ((le _).2 (of_decide_eq_true a4.symm))
    have : upOf (decide (K % 2 = 1)) h r way = true → upOf (decide (K % 2 = 1)) h' r' way = true := by
      unfold upOf
      by_cases w1 : way = 1
      · rw [if_pos w1, if_pos w1]; exact m1
      · rw [if_neg w1, if_neg w1]
        by_cases w2 : way = 2
        · rw [if_pos w2, if_pos w2]; exact id
        · rw [if_neg w2, if_neg w2]
          intro g
          cases h with
          | false => contradiction
          | true =>
            rw [m2 rfl]
            cases r with
            | true => rw [m3 rfl rfl]; rfl
            | false =>
              have : decide (K % 2 = 1) = true := g
              rw [this]; cases r' <;> rfl
    cases g1 : upOf (decide (K % 2 = 1)) h r way with
    | true => rw [this g1]; exact Nat.le_refl _
    | false => rw [if_neg (by decide)]; split <;> omega
theorem rk_of (K : Nat) (h r : Bool) (way : Int) : rk K h r way = if 9218868437227405312 ≤ rkey K h r way then (if way = 2 then 9218868437227405311 else 9218868437227405312) else rkey K h r way := by
  unfold rk rans
  split <;> rfl
theorem rk_mono {S : Nat} {X Y : Xn} {K J : Nat} {h r h' r' : Bool} (a : Sit S X K h r) (b : Sit S Y J h' r') (hX : 0 < X.Q) (hY : 0 < Y.Q) (le : XLe X Y) (way : Int) : rk K h r way ≤ rk J h' r' way := by
  have := rkey_mono a b hX hY le way
  rw [rk_of, rk_of]
  split <;> split <;> (try split) <;> omega
def ExK (x : Rat) (mode : Int) (z : Int) : Prop := (x = 0 ∧ z = 0) ∨ (x ≠ 0 ∧ ∃ K a b, Sit 3925 (xV 3925 x) K a b ∧ z = ky (decide (x < 0)) (rk K a b (wayOf (decide (x < 0)) mode)))
theorem xV_q (S : Nat) (x : Rat) : 0 < (xV S x).Q := Nat.pos_of_ne_zero x.den_nz
theorem xle_of {N1 D1 N2 D2 : Nat} (h1 : 0 < D1) (h2 : 0 < D2) (h : N1 * D2 ≤ N2 * D1) (S : Nat) : XLe (xQ S N1 D1) (xQ S N2 D2) := by
  intro t
  have p := Nat.two_pow_pos (S + 1075)
  have e : ∀ (N D : Nat) , (0 ≤ cut (xQ S N D) t ↔ D * t ≤ N * 2 ^ (S + 1075)) ∧ (0 < cut (xQ S N D) t ↔ D * t < N * 2 ^ (S + 1075)) := fun N D => by
    unfold cut xQ
    dsimp only
    simp only [Bool.false_eq_true, if_false]
    constructor
    · split
      · exact ⟨fun g => absurd g (by decide), fun g => by omega⟩
      · exact ⟨fun _ => by omega, fun _ => by split <;> decide⟩
    · split
      · exact ⟨fun g => absurd g (by decide), fun g => by omega⟩
      · split
        · exact ⟨fun _ => by omega, fun _ => by decide⟩
        · exact ⟨fun g => absurd g (by decide), fun g => by omega⟩
  have key : N1 * 2 ^ (S + 1075) * D2 ≤ N2 * 2 ^ (S + 1075) * D1 := by
    have := Nat.mul_le_mul_right (2 ^ (S + 1075)) h
    rw [Nat.mul_right_comm N1, Nat.mul_right_comm N2]
    exact this
  rw [(e N1 D1).1, (e N2 D2).1, (e N1 D1).2, (e N2 D2).2]
  clear e
  generalize N1 * 2 ^ (S + 1075) = P1 at *
  generalize N2 * 2 ^ (S + 1075) = P2 at *
  have c : D2 * t * D1 = D1 * t * D2 := by simp only [Nat.mul_comm, Nat.mul_left_comm]
  constructor
  · intro g
    refine Nat.le_of_mul_le_mul_right (c := D1) ?_ h1
    rw [c]
    exact Nat.le_trans (Nat.mul_le_mul_right D2 g) key
  · intro g
    refine Nat.lt_of_mul_lt_mul_right (a := D1) ?_
    rw [c]
    exact Nat.lt_of_lt_of_le (Nat.mul_lt_mul_of_pos_right g h2) key
theorem xV_le {x y : Rat} (h : x.num.natAbs * y.den ≤ y.num.natAbs * x.den) (S : Nat) : XLe (xV S x) (xV S y) :=
  xle_of (Nat.pos_of_ne_zero x.den_nz) (Nat.pos_of_ne_zero y.den_nz) h S
theorem abs_le {x y : Rat} (h : x ≤ y) : (0 ≤ x → x.num.natAbs * y.den ≤ y.num.natAbs * x.den) ∧ (y ≤ 0 → y.num.natAbs * x.den ≤ x.num.natAbs * y.den) := by
  have l := (Rat.le_iff x y).1 h
  constructor
  · intro hx
    have h1 : 0 ≤ x.num := Rat.num_nonneg.2 hx
    have h2 : 0 ≤ y.num := Rat.num_nonneg.2 (Rat.le_trans hx h)
    obtain ⟨n, hn⟩ := Int.eq_ofNat_of_zero_le h1
    obtain ⟨m, hm⟩ := Int.eq_ofNat_of_zero_le h2
    rw [hn, hm] at l ⊢
    simp only [Int.natAbs_natCast]
    exact_mod_cast l
  · intro hy
    have h2 : 0 ≤ (-y).num := Rat.num_nonneg.2 (by grind)
    have h1 : 0 ≤ (-x).num := Rat.num_nonneg.2 (by grind)
    rw [Rat.neg_num] at h1 h2
    obtain ⟨n, hn⟩ := Int.eq_ofNat_of_zero_le h1
    obtain ⟨m, hm⟩ := Int.eq_ofNat_of_zero_le h2
    have e1 : x.num = -(n : Int) := by omega
    have e2 : y.num = -(m : Int) := by omega
    rw [e1, e2] at l ⊢
    simp only [Int.natAbs_neg, Int.natAbs_natCast]
    rw [Int.neg_mul, Int.neg_mul] at l
    have l := Int.neg_le_neg_iff.1 l
    exact_mod_cast l
theorem exk_mono {x y : Rat} (h : x ≤ y) {mode z w : Int} (a : ExK x mode z) (b : ExK y mode w) : z ≤ w := by
  have ab := abs_le h
  rcases a with ⟨a1, a2⟩ | ⟨a1, K, a2, a3, a4, a5⟩
  · rcases b with ⟨b1, b2⟩ | ⟨b1, J, b2, b3, b4, b5⟩
    · omega
    · have : ¬ y < 0 := by rw [a1] at h; exact Rat.not_lt.2 h
      rw [df this] at b5
      rw [a2, b5]
      unfold ky; simp
  · rcases b with ⟨b1, b2⟩ | ⟨b1, J, b2, b3, b4, b5⟩
    · have : x < 0 := by rw [b1] at h; exact Rat.lt_of_le_of_ne h a1
      rw [dt this] at a5
      rw [b2, a5]
      unfold ky; simp <;> omega
    · by_cases hx : x < 0
      · rw [dt hx] at a5
        by_cases hy : y < 0
        · rw [dt hy] at b5
          have := rk_mono b4 a4 (xV_q _ _) (xV_q _ _) (xV_le (ab.2 (Rat.le_of_lt hy)) _) (wayOf true mode)
          rw [a5, b5]; unfold ky; simp <;> omega
        · rw [df hy] at b5
          rw [a5, b5]; unfold ky; simp <;> omega
      · have hy : ¬ y < 0 := fun g => hx (by grind)
        rw [df hx] at a5
        rw [df hy] at b5
        have := rk_mono a4 b4 (xV_q _ _) (xV_q _ _) (xV_le (ab.1 (Rat.not_lt.1 hx)) _) (wayOf false mode)
        rw [a5, b5]; unfold ky; simp <;> omega
end Go.Fb
