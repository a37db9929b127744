/- Layer 5: the laws hold, in plain Lean. Conditions: as each theorem states. -/
import Derived.Test.YtggmmkdfgjnjfaaUl
import Derived.Test.YtggmmkdfgjnjfaaUp
namespace Go.Fb
open Go.Ev
theorem works5 : l5_works = true ∧ l5_works_s = true := by decide +kernel
end Go.Fb
namespace Go.Fb
open Go.Ev
def xV (S : Nat) (x : Rat) : Xn := xQ S x.num.natAbs x.den
theorem xV_rq {s : Bool} {N D : Nat} (hN : N ≠ 0) (hD : D ≠ 0) (S y : Nat) : cut (xV S (rq s N D)) y = cut (xQ S N D) y := by
  unfold xV
  rw [rq_num hD, rq_den hD]
  have hg : 0 < Nat.gcd N D := Nat.gcd_pos_of_pos_left _ (by omega)
  have e1 := Nat.div_mul_cancel (Nat.gcd_dvd_left N D)
  have e2 := Nat.div_mul_cancel (Nat.gcd_dvd_right N D)
  have := xQ_scale (S := S) (N := N / Nat.gcd N D) (D := D / Nat.gcd N D) hg y
  rw [e1, e2] at this
  exact this.symm
theorem smOf_congr {S : Nat} {X Y : Xn} (h : ∀ y, cut X y = cut Y y) : smOf S X = smOf S Y := by unfold smOf; rw [h]
theorem val_nz {r : RR} (h : val r ≠ 0) : wv r.num ≠ 0 ∧ wv r.den ≠ 0 := by
  unfold val at h
  constructor
  · intro g; rw [g, rq_zero_num] at h; exact h rfl
  · intro g; rw [g, rq_zero_den] at h; exact h rfl
theorem val_z {r : RR} (h : val r = 0) : wv r.num = 0 ∨ wv r.den = 0 := by
  rcases Nat.eq_zero_or_pos (wv r.den) with g | g
  · exact .inr g
  · left
    unfold val rq at h
    have := (Rat.mkRat_eq_zero (by omega)).1 h
    unfold sg at this
    split at this <;> omega
theorem exact_zero {r : RR} {k : Nat} (h : RW r k) (hk : k ≤ 1000) (h0 : val r = 0) (mode : Int) : Tr.Is (n_Frac_t r.neg r.num r.den mode) (0, 0) :=
  frac_zero h.1 h.2.1 (Nat.le_trans h.2.2.1 hk) (Nat.le_trans h.2.2.2 hk) (val_z h0) _ _
theorem exact_val {r : RR} {k : Nat} (h : RW r k) (hk : k ≤ 1000) (h0 : val r ≠ 0) {E : Nat} (hE : E ≤ 4900) (hn : wv r.num < 2 ^ E) (hd : wv r.den < 2 ^ E) (mode : Int) {S : Nat} (hS : 3925 ≤ S) :
    ∃ K a b, Sit S (xV S (val r)) K a b ∧ Tr.Is (n_Frac_t r.neg r.num r.den mode) (rnd (decide (val r < 0)) K a b (smOf S (xV S (val r))) mode) := by
  obtain ⟨z1, z2⟩ := val_nz h0
  obtain ⟨K, a, b, s, t⟩ := frac_is h.1 h.2.1 (Nat.le_trans h.2.2.1 hk) (Nat.le_trans h.2.2.2 hk) z1 z2 hE hn hd r.neg mode hS
  have c : ∀ y, cut (xQ S (wv r.num) (wv r.den)) y = cut (xV S (val r)) y := fun y => (xV_rq z1 z2 S y).symm
  refine ⟨K, a, b, sit_congr c s, ?_⟩
  have en : r.neg = decide (val r < 0) := rq_neg z1 z2
  rw [smOf_congr c] at t
  rw [← en]
  exact t
theorem exact_tree {r : RR} {mode : Int} {v : Int × Int} (h : Tr.Is (n_Frac_t r.neg r.num r.den mode) v) : Tr.Is (n_Exact_t r mode) v := Tr.is_ast h.2 (Tr.is_leaf h.1)
end Go.Fb
namespace Go.Fb
open Go.Ev
theorem fv_zero (s : Bool) : fv s 0 = 0 := by
  rw [fv_eq (by omega), kvN_zero, rq_zero_num]
end Go.Fb
namespace Go.Fb
open Go.Ev
/-- the key alone -/
def rk (K : Nat) (h r : Bool) (way : Int) : Nat := (rans K h r false way).1
theorem rk_eq {K : Nat} {h r sm : Bool} {way : Int} : (rans K h r sm way).1 = rk K h r way := by
  unfold rk rans
  split <;> rfl
theorem rk_of (K : Nat) (h r : Bool) (way : Int) : rk K h r way = if 9218868437227405312 ≤ rkey K h r way then (if way = 2 then 9218868437227405311 else 9218868437227405312) else rkey K h r way := by
  unfold rk rans
  split <;> rfl
theorem xV_q (S : Nat) (x : Rat) : 0 < (xV S x).Q := Nat.pos_of_ne_zero x.den_nz
end Go.Fb
namespace Go.Fb
open Go.Ev
def T5 : Nat := 1074
theorem fv5 {s : Bool} {k : Nat} (h : k < 9218868437227405312) : fv s k = rq s (kvN k) (2 ^ T5) := by
  have e := fv_eq (s := s) h
  rw [show (1074 : Nat) = T5 from rfl] at e
  exact e
theorem nz2 (n : Nat) : 2 ^ n ≠ 0 := Nat.ne_of_gt (Nat.two_pow_pos n)
theorem rq_lt2 {a b c d : Nat} (hb : b ≠ 0) (hd : d ≠ 0) : rq false a b < rq false c d ↔ a * d < c * b := by
  rw [← rq_scale false hd (n := a) (d := b), ← rq_scale false hb (n := c) (d := d), Nat.mul_comm d b, rq_lt (Nat.mul_ne_zero hb hd)]
  unfold sg
  simp only [Bool.false_eq_true, if_false]
  omega
theorem rq_le2 {a b c d : Nat} (hb : b ≠ 0) (hd : d ≠ 0) : rq false a b ≤ rq false c d ↔ a * d ≤ c * b := by
  rw [← Rat.not_lt, rq_lt2 hd hb]
  omega
def HQ (c : Nat) : Rat := rq false c (2 ^ (T5 + 1))
theorem HQ_add (a b : Nat) : HQ (a + b) = HQ a + HQ b := by
  unfold HQ
  rw [rq, rq, rq, Rat.mkRat_add_mkRat _ _ (nz2 _) (nz2 _)]
  unfold sg
  simp only [Bool.false_eq_true, if_false]
  rw [← Int.add_mul, Rat.mkRat_mul_right (nz2 _)]
  congr 1
theorem HQ_mono {a b : Nat} (h : a ≤ b) : HQ a ≤ HQ b := (rq_le2 (nz2 _) (nz2 _)).2 (Nat.mul_le_mul_right _ h)
theorem fv_H {k : Nat} (h : k < 9218868437227405312) : fv false k = HQ (kvN k) + HQ (kvN k) := by
  rw [← HQ_add, fv5 h]
  unfold HQ
  rw [← rq_scale false (c := 2) (by decide) (n := kvN k), ← Nat.pow_succ, Nat.mul_two]
theorem fv_Ht {k : Nat} (h : k < 9218868437227405312) : fv true k = -(HQ (kvN k) + HQ (kvN k)) := by
  rw [← fv_H h, fv5 h, fv5 h]
  exact rq_negate false _ _
theorem abs_xq (x : Rat) : absQ x = rq false x.num.natAbs x.den := by
  rw [rq_false (neg := decide (x < 0)), rq_self]
theorem cut_H (x : Rat) (S c : Nat) : (0 ≤ cut (xV S x) (c * 2 ^ S) ↔ HQ c ≤ absQ x) ∧ (0 < cut (xV S x) (c * 2 ^ S) ↔ HQ c < absQ x) := by
  have hd := x.den_nz
  have pS := Nat.two_pow_pos S
  rw [abs_xq]
  unfold HQ
  rw [rq_le2 (nz2 _) hd, rq_lt2 (nz2 _) hd]
  have e1 : x.num.natAbs * 2 ^ (S + 1075) = x.num.natAbs * 2 ^ (T5 + 1) * 2 ^ S := by
    rw [Nat.mul_assoc, ← Nat.pow_add, show T5 + 1 + S = S + 1075 by unfold T5; omega]
  have e2 : x.den * (c * 2 ^ S) = c * x.den * 2 ^ S := by simp only [Nat.mul_assoc, Nat.mul_left_comm]
  have e3 : cut (xV S x) (c * 2 ^ S) = if x.num.natAbs * 2 ^ (T5 + 1) < c * x.den then -1 else if c * x.den < x.num.natAbs * 2 ^ (T5 + 1) then 1 else 0 := by
    unfold cut xV xQ
    dsimp only
    rw [e1, e2]
    simp only [Nat.mul_lt_mul_right pS, Bool.false_eq_true, if_false]
  rw [e3]
  generalize x.num.natAbs * 2 ^ (T5 + 1) = P at *
  generalize c * x.den = Q at *
  constructor
  · split
    · constructor
      · intro h; omega
      · intro h; omega
    · split
      · constructor
        · intro _; omega
        · intro _; decide
      · constructor
        · intro _; omega
        · intro _; decide
  · split
    · constructor
      · intro h; omega
      · intro h; omega
    · split
      · constructor
        · intro _; omega
        · intro _; decide
      · constructor
        · intro h; omega
        · intro h; omega
/-- where a number lies between two keys, in numbers -/
structure Near (x : Rat) (K : Nat) (h r : Bool) : Prop where
  lo : HQ (kvN K) + HQ (kvN K) ≤ absQ x
  hi : absQ x < HQ (kvN (K + 1)) + HQ (kvN (K + 1))
  ex : (h || r) = false → absQ x = HQ (kvN K) + HQ (kvN K)
  up : h = true → HQ (kvN K) + HQ (kvN (K + 1)) ≤ absQ x
  dn : h = false → absQ x < HQ (kvN K) + HQ (kvN (K + 1))
  tie : h = true → r = false → absQ x = HQ (kvN K) + HQ (kvN (K + 1))
theorem near_of {x : Rat} {S K : Nat} {h r : Bool} (s : Sit S (xV S x) K h r) : Near x K h r := by
  have p : ∀ j, pos S j = (kvN j + kvN j) * 2 ^ S := fun j => by unfold pos; rw [Nat.two_mul]
  have a := cut_H x S (kvN K + kvN K)
  have b := cut_H x S (kvN (K + 1) + kvN (K + 1))
  have c := cut_H x S (kvN K + kvN (K + 1))
  have ex := sit_exact s (xV_q S x)
  obtain ⟨s1, s2, s3, s4⟩ := s
  rw [p] at s1 s2 ex s4
  unfold midp at s3 s4
  rw [HQ_add] at a b c
  refine ⟨a.1.1 s1, ?_, ?_, ?_, ?_, ?_⟩
  · refine Rat.not_le.1 fun g => ?_
    have := b.1.2 g; omega
  · intro g
    rw [g] at ex
    have z : cut (xV S x) ((kvN K + kvN K) * 2 ^ S) = 0 := by simpa using ex
    have h1 := a.1.1 s1
    refine Rat.le_antisymm (Rat.not_lt.1 fun g2 => ?_) h1
    have := a.2.2 g2; omega
  · intro g
    rw [g] at s3
    exact c.1.1 (of_decide_eq_true s3.symm)
  · intro g
    rw [g] at s3
    refine Rat.not_le.1 fun g2 => ?_
    exact absurd (c.1.2 g2) (of_decide_eq_false s3.symm)
  · intro g g2
    rw [g] at s3
    rw [g, g2, if_pos rfl] at s4
    have h1 := c.1.1 (of_decide_eq_true s3.symm)
    refine Rat.le_antisymm (Rat.not_lt.1 fun g3 => ?_) h1
    exact absurd (c.2.2 g3) (of_decide_eq_false s4.symm)
/-- the nearest key is nearest -/
theorem nearest {x : Rat} {K : Nat} {h r : Bool} (n : Near x K h r) (j : Nat) : absQ (HQ (kvN (rkey K h r 0)) + HQ (kvN (rkey K h r 0)) - absQ x) ≤ absQ (HQ (kvN j) + HQ (kvN j) - absQ x) := by
  obtain ⟨n1, n2, n3, n4, n5, n6⟩ := n
  have mono : ∀ a b : Nat, a ≤ b → HQ (kvN a) ≤ HQ (kvN b) := fun a b hab => HQ_mono (by
    rcases Nat.lt_or_ge a b with g | g
    · exact Nat.le_of_lt (kvN_mono g)
    · have : a = b := by omega
      rw [this]; exact Nat.le_refl _)
  generalize absQ x = a at *
  have key : (rkey K h r 0 = K ∧ a ≤ HQ (kvN K) + HQ (kvN (K + 1))) ∨ (rkey K h r 0 = K + 1 ∧ HQ (kvN K) + HQ (kvN (K + 1)) ≤ a) := by
    rw [rkey_up]
    have e : upOf (decide (K % 2 = 1)) h r 0 = (h && (r || decide (K % 2 = 1))) := rfl
    rw [e]
    cases h with
    | false => exact .inl ⟨rfl, Rat.le_of_lt (n5 rfl)⟩
    | true =>
      cases r with
      | true => exact .inr ⟨rfl, n4 rfl⟩
      | false =>
        have t := n6 rfl rfl
        cases decide (K % 2 = 1) with
        | true => exact .inr ⟨rfl, by rw [t]; exact Rat.le_refl⟩
        | false => exact .inl ⟨rfl, by rw [t]; exact Rat.le_refl⟩
  clear n3 n4 n5 n6
  unfold absQ
  rcases key with ⟨e, k⟩ | ⟨e, k⟩
  all_goals
    rw [e]
    clear e
    rcases Nat.lt_or_ge K j with g | g
    · have m := mono (K + 1) j g
      clear mono g
      generalize HQ (kvN j) = w at *
      generalize HQ (kvN (K + 1)) = q at *
      generalize HQ (kvN K) = p at *
      split <;> split <;> grind
    · have m := mono j K g
      clear mono g
      generalize HQ (kvN j) = w at *
      generalize HQ (kvN (K + 1)) = q at *
      generalize HQ (kvN K) = p at *
      split <;> split <;> grind
end Go.Fb
namespace Go.Fb
open Go.Ev
theorem rh1_walk {r : RR} {g d u n : Int} (l1 : r.num.length ≤ 6) (l2 : r.den.length ≤ 6) (s2 : n_Exact_s r 2 = true) (s1 : n_Exact_s r 1 = true) (s0 : n_Exact_s r 0 = true)
    (e2 : (n_Exact r 2).fst = d) (e1 : (n_Exact r 1).fst = u) (e0 : (n_Exact r 0).fst = n) (vd : p_Value_s d = true) (vu : p_Value_s u = true)
    (c1 : (p_Value d).snd = true → q_Cmp_s (p_Value d).fst r = true ∧ ¬ q_Cmp (p_Value d).fst r > 0) (c2 : (p_Value u).snd = true → q_Cmp_s (p_Value u).fst r = true ∧ ¬ q_Cmp (p_Value u).fst r < 0)
    (c3 : (p_Value d).snd = false → d = p_Inf true) (c4 : (p_Value u).snd = false → u = p_Inf false) :
    Tr.Is (rh1_t r g) (none, g, l5_works, d, u, n, r.neg, r.num, r.den) := by
  unfold rh1_t rh1_T
  rw [e2, e1, e0]
  dsimp only
  refine Tr.is_ast works5.2 (Tr.is_br_f (by rw [works5.1]; rfl) (Tr.is_br_f (df (by omega)) (Tr.is_br_f (df (by omega)) (Tr.is_ast s2 (Tr.is_ast s1 (Tr.is_ast s0 (Tr.is_ast vd (Tr.is_ast vu ?_))))))))
  cases hd : (p_Value d).snd with
  | true =>
    obtain ⟨a1, a2⟩ := c1 hd
    refine Tr.is_br_t rfl (Tr.is_ast a1 (Tr.is_br_f (df a2) ?_))
    cases hu : (p_Value u).snd with
    | true =>
      obtain ⟨b1, b2⟩ := c2 hu
      exact Tr.is_br_t rfl (Tr.is_ast b1 (Tr.is_br_f (df b2) (Tr.is_br_f rfl (Tr.is_br_f rfl (Tr.is_leaf rfl)))))
    | false => exact Tr.is_br_f rfl (Tr.is_br_f rfl (Tr.is_br_t rfl (Tr.is_br_f (nbf (c4 hu)) (Tr.is_leaf rfl))))
  | false =>
    refine Tr.is_br_f rfl ?_
    cases hu : (p_Value u).snd with
    | true =>
      obtain ⟨b1, b2⟩ := c2 hu
      exact Tr.is_br_t rfl (Tr.is_ast b1 (Tr.is_br_f (df b2) (Tr.is_br_t rfl (Tr.is_br_f (nbf (c3 hd)) (Tr.is_br_f rfl (Tr.is_leaf rfl))))))
    | false => exact Tr.is_br_f rfl (Tr.is_br_t rfl (Tr.is_br_f (nbf (c3 hd)) (Tr.is_br_t rfl (Tr.is_br_f (nbf (c4 hu)) (Tr.is_leaf rfl)))))
theorem rh2_walk {g : Int} {wk : Bool} {d u n : Int} {ng : Bool} {nu de : List Int} (h1 : n = d ∨ n = u) (h2 : d = u ∨ p_Next d = u) : Tr.Is (rh2_t g wk d u n ng nu de) (none, g, wk, d, u, n, ng, nu, de) := by
  unfold rh2_t rh2_T
  dsimp only
  by_cases c : n = d
  · refine Tr.is_br_f (nbf c) ?_
    by_cases e : d = u
    · exact Tr.is_br_f (nbf e) (Tr.is_leaf rfl)
    · exact Tr.is_br_t (nbt e) (Tr.is_br_f (nbf (h2.resolve_left e)) (Tr.is_leaf rfl))
  · refine Tr.is_br_t (nbt c) (Tr.is_br_f (nbf (h1.resolve_left c)) ?_)
    by_cases e : d = u
    · exact Tr.is_br_f (nbf e) (Tr.is_leaf rfl)
    · exact Tr.is_br_t (nbt e) (Tr.is_br_f (nbf (h2.resolve_left e)) (Tr.is_leaf rfl))
theorem rh3_walk {g : Int} {d u n : Int} {r : RR} (vn : p_Value_s n = true) (vg : p_Value_s g = true)
    (h : (p_Value n).snd = true → (p_Value g).snd = true → q_Sub_s (p_Value n).fst r = true ∧ q_Abs_s (q_Sub (p_Value n).fst r) = true ∧ q_Sub_s (p_Value g).fst r = true ∧ q_Abs_s (q_Sub (p_Value g).fst r) = true ∧
      q_Cmp_s (q_Abs (q_Sub (p_Value n).fst r)) (q_Abs (q_Sub (p_Value g).fst r)) = true ∧ q_Cmp (q_Abs (q_Sub (p_Value n).fst r)) (q_Abs (q_Sub (p_Value g).fst r)) ≤ 0) :
    Tr.Is (rh3_t g l5_works d u n r.neg r.num r.den) (some true, rh_z) := by
  unfold rh3_t rh3_T
  refine Tr.is_ast vn (Tr.is_ast vg (Tr.is_br_t works5.1 ?_))
  cases hn : (p_Value n).snd with
  | false => exact Tr.is_br_t rfl (Tr.is_leaf rfl)
  | true =>
    refine Tr.is_br_f rfl ?_
    cases hg : (p_Value g).snd with
    | false => exact Tr.is_br_t rfl (Tr.is_leaf rfl)
    | true =>
      obtain ⟨a1, a2, a3, a4, a5, a6⟩ := h hn hg
      exact Tr.is_br_f rfl (Tr.is_ast a1 (Tr.is_ast a2 (Tr.is_ast a3 (Tr.is_ast a4 (Tr.is_ast a5 (Tr.is_leaf (by rw [show RR.mk r.neg r.num r.den = r from rfl, dt a6])))))))
theorem value_any {s : Bool} {k : Nat} (hk : k < 9223372036854775808) : p_Value_s (fl s k) = true ∧ ((p_Value (fl s k)).snd = true → k < 9218868437227405312) := by
  by_cases h : k < 9218868437227405312
  · exact ⟨(value_spec (s := s) h).1, fun _ => h⟩
  · obtain ⟨a, b⟩ := value_none (s := s) hk (by omega)
    exact ⟨a, fun g => by rw [b] at g; contradiction⟩
theorem cmpQ_ng {x y : Rat} (h : x ≤ y) : ¬ cmpQ x y > 0 := by
  unfold cmpQ
  by_cases h1 : x < y
  · rw [if_pos h1]; decide
  · rw [if_neg h1, if_pos (Rat.le_antisymm h (Rat.not_lt.1 h1))]; decide
theorem cmpQ_nl {x y : Rat} (h : y ≤ x) : ¬ cmpQ x y < 0 := by
  unfold cmpQ
  rw [if_neg (Rat.not_lt.2 h)]
  split <;> decide
/-- the last piece, by how far both lie -/
theorem rh3_of {r : RR} (hw : RW r 6) {s t : Bool} {m j : Nat} (hm : m < 9223372036854775808) (hj : j < 9223372036854775808) {d u : Int} (h : m < 9218868437227405312 → j < 9218868437227405312 → absQ (fv s m - val r) ≤ absQ (fv t j - val r)) :
    Tr.Is (rh3_t (fl t j) l5_works d u (fl s m) r.neg r.num r.den) (some true, rh_z) := by
  obtain ⟨a1, a2⟩ := value_any (s := s) hm
  obtain ⟨b1, b2⟩ := value_any (s := t) hj
  refine rh3_walk a1 b1 fun hn hg => ?_
  obtain ⟨_, z, z2, z3⟩ := value_spec (s := s) (a2 hn)
  obtain ⟨_, w, w2, w3⟩ := value_spec (s := t) (b2 hg)
  have hw3 := hw.le (show 6 ≤ 300 by omega)
  obtain ⟨c1, c2⟩ := qsub_spec z3.RW hw3 (by omega) (by omega)
  obtain ⟨d1, d2⟩ := qsub_spec w3.RW hw3 (by omega) (by omega)
  obtain ⟨e1, e2⟩ := abs_spec c2.RW (by omega) (by omega)
  obtain ⟨f1, f2⟩ := abs_spec d2.RW (by omega) (by omega)
  obtain ⟨g1, g2⟩ := qcmp_spec e2.RW f2.RW (by omega) (by omega)
  rw [e2.val, f2.val, c2.val, d2.val, z3.val, w3.val] at g2
  rw [z2, w2]
  refine ⟨c1, e1, d1, f1, g1, ?_⟩
  rw [g2]
  have := cmpQ_ng (h (a2 hn) (b2 hg))
  omega
theorem rh1_of {r : RR} (hw : RW r 6) {sd su : Bool} {kd ku : Nat} {g n : Int} {a b c : Int} (hd : kd ≤ 9218868437227405312) (hu : ku ≤ 9218868437227405312) (t2 : Tr.Is (n_Exact_t r 2) (fl sd kd, a)) (t1 : Tr.Is (n_Exact_t r 1) (fl su ku, b)) (t0 : Tr.Is (n_Exact_t r 0) (n, c))
    (c1 : kd < 9218868437227405312 → fv sd kd ≤ val r) (c2 : ku < 9218868437227405312 → val r ≤ fv su ku) (c3 : kd = 9218868437227405312 → sd = true) (c4 : ku = 9218868437227405312 → su = false) :
    Tr.Is (rh1_t r g) (none, g, l5_works, fl sd kd, fl su ku, n, r.neg, r.num, r.den) := by
  have hw3 := hw.le (show 6 ≤ 300 by omega)
  obtain ⟨v1, v2⟩ := value_any (s := sd) (k := kd) (by omega)
  obtain ⟨w1, w2⟩ := value_any (s := su) (k := ku) (by omega)
  refine rh1_walk hw.2.2.1 hw.2.2.2 t2.2 t1.2 t0.2 (congrArg Prod.fst t2.1) (congrArg Prod.fst t1.1) (congrArg Prod.fst t0.1) v1 w1 (fun h => ?_) (fun h => ?_) (fun h => ?_) (fun h => ?_)
  · obtain ⟨_, z, z2, z3⟩ := value_spec (s := sd) (v2 h)
    obtain ⟨q1, q2⟩ := qcmp_spec z3.RW hw3 (by omega) (by omega)
    rw [z3.val] at q2
    rw [z2]
    exact ⟨q1, by rw [q2]; exact cmpQ_ng (c1 (v2 h))⟩
  · obtain ⟨_, z, z2, z3⟩ := value_spec (s := su) (w2 h)
    obtain ⟨q1, q2⟩ := qcmp_spec z3.RW hw3 (by omega) (by omega)
    rw [z3.val] at q2
    rw [z2]
    exact ⟨q1, by rw [q2]; exact cmpQ_nl (c2 (w2 h))⟩
  · have : kd = 9218868437227405312 := by
      rcases Nat.lt_or_ge kd 9218868437227405312 with q | q
      · obtain ⟨_, z, z2, z3⟩ := value_spec (s := sd) q
        rw [z2] at h; cases h
      · omega
    rw [inf_spec, c3 this, this]
  · have : ku = 9218868437227405312 := by
      rcases Nat.lt_or_ge ku 9218868437227405312 with q | q
      · obtain ⟨_, z, z2, z3⟩ := value_spec (s := su) q
        rw [z2] at h; cases h
      · omega
    rw [inf_spec, c4 this, this]
end Go.Fb
namespace Go.Fb
open Go.Ev
/-- what the law's contract asks for -/
def RhOk (r : RR) (g : Int) : Prop := ((rh1_t r g).safe = true ∧ (rh1_t r g).val = (some true, rh_z)) ∨ ∃ g' wk d u n ng nu de, ((rh1_t r g).safe = true ∧ (rh1_t r g).val = (none, g', wk, d, u, n, ng, nu, de)) ∧
      ((rh2_t g' wk d u n ng nu de).safe = true ∧ (rh2_t g' wk d u n ng nu de).val = (none, g', wk, d, u, n, ng, nu, de)) ∧ ((rh3_t g' wk d u n ng nu de).safe = true ∧ (rh3_t g' wk d u n ng nu de).val = (some true, rh_z))
theorem rh_join {r : RR} {g d u n : Int} (a : Tr.Is (rh1_t r g) (none, g, l5_works, d, u, n, r.neg, r.num, r.den)) (b : Tr.Is (rh2_t g l5_works d u n r.neg r.num r.den) (none, g, l5_works, d, u, n, r.neg, r.num, r.den))
    (c : Tr.Is (rh3_t g l5_works d u n r.neg r.num r.den) (some true, rh_z)) : RhOk r g :=
  .inr ⟨g, l5_works, d, u, n, r.neg, r.num, r.den, ⟨a.2, a.1⟩, ⟨b.2, b.1⟩, ⟨c.2, c.1⟩⟩
theorem rh_long {r : RR} {g : Int} (h : 6 < r.num.length ∨ 6 < r.den.length) : RhOk r g := by
  refine .inl ?_
  have t : Tr.Is (rh1_t r g) (some true, rh_z) := by
    unfold rh1_t rh1_T
    refine Tr.is_ast works5.2 (Tr.is_br_f (by rw [works5.1]; rfl) ?_)
    by_cases c : 6 < r.num.length
    · exact Tr.is_br_t (dt (by omega)) (Tr.is_leaf (by rw [works5.1]))
    · exact Tr.is_br_f (df (by omega)) (Tr.is_br_t (dt (by omega)) (Tr.is_leaf (by rw [works5.1])))
  exact ⟨t.2, t.1⟩
theorem fv_sign {s : Bool} {k : Nat} (h : k < 9218868437227405312) : fv s k = if s then -(HQ (kvN k) + HQ (kvN k)) else HQ (kvN k) + HQ (kvN k) := by
  cases s
  · exact fv_H h
  · exact fv_Ht h
theorem HQ_zero : HQ 0 = 0 := by unfold HQ; exact rq_zero_num false _
theorem HQ_nonneg (c : Nat) : 0 ≤ HQ c := by
  have h : HQ 0 ≤ HQ c := HQ_mono (Nat.zero_le c)
  exact HQ_zero ▸ h
/-- far from a number is who has the other sign -/
theorem far_sign {x p w : Rat} {s t : Bool} (hs : s = decide (x < 0)) (h0 : absQ (p - absQ x) ≤ absQ (0 - absQ x)) (h1 : absQ (p - absQ x) ≤ absQ (w - absQ x)) (hw : 0 ≤ w) :
    absQ ((if s then -p else p) - x) ≤ absQ ((if t then -w else w) - x) := by
  have e0 : absQ (0 - absQ x) = absQ x := by unfold absQ; split <;> split <;> grind
  by_cases hx : x < 0
  · have e : s = true := by rw [hs]; exact dt hx
    rw [e]
    simp only [if_true]
    have ex : absQ x = -x := if_pos hx
    rw [ex] at h0 h1 e0
    rw [e0] at h0
    have e1 : absQ (-p - x) = absQ (p - -x) := by unfold absQ; split <;> split <;> grind
    rw [e1]
    cases t
    · simp only [Bool.false_eq_true, if_false]
      refine Rat.le_trans h0 ?_
      unfold absQ; split <;> grind
    · simp only [if_true]
      have e2 : absQ (-w - x) = absQ (w - -x) := by unfold absQ; split <;> split <;> grind
      rw [e2]; exact h1
  · have e : s = false := by rw [hs]; exact df hx
    rw [e]
    simp only [Bool.false_eq_true, if_false]
    have ex : absQ x = x := if_neg hx
    rw [ex] at h0 h1 e0
    rw [e0] at h0
    cases t
    · simp only [Bool.false_eq_true, if_false]; exact h1
    · simp only [if_true]
      refine Rat.le_trans h0 ?_
      unfold absQ; split <;> grind
theorem RoundHolds_ok {r : RR} (h1 : Wds r.num) (h2 : Wds r.den) {g : Int} (hg : Wd g) : RhOk r g := by
  by_cases l1 : 6 < r.num.length
  · exact rh_long (.inl l1)
  by_cases l2 : 6 < r.den.length
  · exact rh_long (.inr l2)
  have hw : RW r 6 := ⟨h1, h2, by omega, by omega⟩
  obtain ⟨t, j, hj, rfl⟩ := fl_of hg
  by_cases h0 : val r = 0
  · have z := fun mode => exact_tree (exact_zero hw (by omega) h0 mode)
    have fz := fv_zero false
    refine rh_join (rh1_of hw (sd := false) (su := false) (kd := 0) (ku := 0) (by omega) (by omega) (z 2) (z 1) (z 0) (fun _ => by rw [fz, h0]; exact Rat.le_refl) (fun _ => by rw [fz, h0]; exact Rat.le_refl) (fun e => by omega) (fun e => by omega))
      (rh2_walk (.inl rfl) (.inl rfl)) (rh3_of hw (s := false) (m := 0) (by omega) hj (fun _ _ => ?_))
    rw [fz, h0]
    unfold absQ
    split <;> split <;> grind
  · have ex := fun mode => exact_val hw (by omega) h0 (E := 32 * 6) (by omega) (wv_lt2 h1 (by omega)) (wv_lt2 h2 (by omega)) mode (S := 3925) (Nat.le_refl _)
    obtain ⟨K, a, b, st, _⟩ := ex 0
    have ex2 : ∀ mode, ∃ f, Tr.Is (n_Exact_t r mode) (fl (decide (val r < 0)) (rk K a b (wayOf (decide (val r < 0)) mode)), f) := fun mode => by
      obtain ⟨K', a', b', st', t'⟩ := ex mode
      obtain ⟨rfl, rfl, rfl⟩ := sit_inj st st'
      have e : (rnd (decide (val r < 0)) K a b (smOf 3925 (xV 3925 (val r))) mode) = (fl (decide (val r < 0)) (rk K a b (wayOf (decide (val r < 0)) mode)), (rnd (decide (val r < 0)) K a b (smOf 3925 (xV 3925 (val r))) mode).2) := by
        refine Prod.ext ?_ rfl
        show fl _ _ = fl _ _
        rw [rk_eq]
      rw [e] at t'
      exact ⟨_, exact_tree t'⟩
    obtain ⟨f2, t2⟩ := ex2 2
    obtain ⟨f1, t1⟩ := ex2 1
    obtain ⟨f0, t0⟩ := ex2 0
    have nr := near_of st
    have nz := nearest nr
    have ey : K ≤ rkey K a b 1 ∧ rkey K a b 1 = (if a || b then K + 1 else K) := ⟨by rw [rkey_up]; split <;> omega, rfl⟩
    have e0 : rkey K a b 0 = if (a && (b || decide (K % 2 = 1))) then K + 1 else K := rfl
    have mono : ∀ p q : Nat, p ≤ q → HQ (kvN p) ≤ HQ (kvN q) := fun p q hpq => HQ_mono (by
      rcases Nat.lt_or_ge p q with c | c
      · exact Nat.le_of_lt (kvN_mono c)
      · have : p = q := by omega
        rw [this]; exact Nat.le_refl _)
    -- the three keys
    obtain ⟨lo, hlo⟩ : ∃ lo, lo = rk K a b 2 := ⟨_, rfl⟩
    obtain ⟨hi, hhi⟩ : ∃ hi, hi = rk K a b 1 := ⟨_, rfl⟩
    obtain ⟨ne, hne⟩ : ∃ ne, ne = rk K a b 0 := ⟨_, rfl⟩
    have lo1 : lo = if 9218868437227405312 ≤ K then 9218868437227405311 else K := by rw [hlo, rk_of]; rfl
    have hi1 : hi = if 9218868437227405312 ≤ rkey K a b 1 then 9218868437227405312 else rkey K a b 1 := by rw [hhi, rk_of]; rfl
    have ne1 : ne = if 9218868437227405312 ≤ rkey K a b 0 then 9218868437227405312 else rkey K a b 0 := by rw [hne, rk_of]; rfl
    have hle : hi ≤ 9218868437227405312 ∧ lo < 9218868437227405312 := by
      constructor
      · rw [hi1]; split <;> omega
      · rw [lo1]; split <;> omega
    have step : hi = lo ∨ hi = lo + 1 := by
      rw [hi1, lo1, ey.2]
      cases (a || b)
      · simp only [Bool.false_eq_true, if_false]; split <;> omega
      · simp only [if_true]; split <;> split <;> omega
    have nel : ne = lo ∨ ne = hi := by
      rw [ne1, hi1, lo1, e0, ey.2]
      cases a with
      | false =>
        simp only [Bool.false_and, Bool.false_eq_true, if_false, Bool.false_or]
        by_cases c : 9218868437227405312 ≤ K
        · right; rw [if_pos c]; cases b <;> simp only [Bool.false_eq_true, if_false, if_true] <;> (rw [if_pos (by omega)])
        · left; rw [if_neg c, if_neg c]
      | true =>
        simp only [Bool.true_and, Bool.true_or, if_true]
        cases (b || decide (K % 2 = 1))
        · simp only [Bool.false_eq_true, if_false]
          by_cases c : 9218868437227405312 ≤ K
          · right; rw [if_pos c, if_pos (by omega)]
          · left; rw [if_neg c, if_neg c]
        · right; simp only [if_true]
    have loV : HQ (kvN lo) + HQ (kvN lo) ≤ absQ (val r) := by
      have m := mono lo K (by rw [lo1]; split <;> omega)
      have := nr.lo
      grind
    have hiV : hi < 9218868437227405312 → absQ (val r) ≤ HQ (kvN hi) + HQ (kvN hi) := fun c => by
      rw [hi1] at c
      split at c
      · omega
      · rename_i c2
        have e : hi = rkey K a b 1 := by rw [hi1, if_neg c2]
        rw [e, ey.2]
        cases hab : (a || b) with
        | true => simp only [if_true]; exact Rat.le_of_lt nr.hi
        | false => simp only [Bool.false_eq_true, if_false]; rw [nr.ex hab]; exact Rat.le_refl
    have far : ∀ (m : Nat), m = ne → m < 9218868437227405312 → j < 9218868437227405312 → absQ (fv (decide (val r < 0)) m - val r) ≤ absQ (fv t j - val r) := fun m hm c d => by
      have e : m = rkey K a b 0 := by
        rw [hm, ne1] at c ⊢
        split at c
        · omega
        · rename_i q; rw [if_neg q]
      rw [fv_sign c, fv_sign d]
      have k1 := nz j
      have k0 := nz 0
      rw [← e] at k1 k0
      have z0 : HQ (kvN 0) + HQ (kvN 0) = 0 := by
        rw [kvN_zero, HQ_zero, Rat.add_zero]
      rw [z0] at k0
      exact far_sign rfl k0 k1 (by have := HQ_nonneg (kvN j); grind)
    have w0 : wayOf (decide (val r < 0)) 0 = 0 := by unfold wayOf; cases decide (val r < 0) <;> rfl
    rw [w0, ← hne] at t0
    have hne2 : ne ≤ 9218868437227405312 := by rcases nel with e | e <;> omega
    by_cases hx : val r < 0
    · have ax : absQ (val r) = -(val r) := if_pos hx
      rw [dt hx] at t2 t1 t0 far
      have w2 : wayOf true 2 = 1 := rfl
      have w1 : wayOf true 1 = 2 := rfl
      rw [w2, ← hhi] at t2
      rw [w1, ← hlo] at t1
      refine rh_join (rh1_of hw (by omega) (by omega) t2 t1 t0 (fun c => ?_) (fun c => ?_) (fun _ => rfl) (fun c => by omega)) (rh2_walk ?_ ?_) (rh3_of hw (by omega) hj (far ne rfl))
      · rw [fv_Ht c]; have := hiV c; rw [ax] at this; grind
      · rw [fv_Ht c]; rw [ax] at loV; grind
      · rcases nel with e | e
        · right; rw [e]
        · left; rw [e]
      · rcases step with e | e
        · left; rw [e]
        · right
          rw [next_spec (by omega)]
          unfold nextF
          rw [if_neg (by omega), if_neg (by simp), if_neg (by omega), if_pos rfl, e, Nat.add_sub_cancel]
    · have ax : absQ (val r) = val r := if_neg hx
      rw [df hx] at t2 t1 t0 far
      have w2 : wayOf false 2 = 2 := rfl
      have w1 : wayOf false 1 = 1 := rfl
      rw [w2, ← hlo] at t2
      rw [w1, ← hhi] at t1
      refine rh_join (rh1_of hw (by omega) (by omega) t2 t1 t0 (fun c => ?_) (fun c => ?_) (fun c => by omega) (fun _ => rfl)) (rh2_walk ?_ ?_) (rh3_of hw (by omega) hj (far ne rfl))
      · rw [fv_H c]; rw [ax] at loV; exact loV
      · rw [fv_H c]; have := hiV c; rw [ax] at this; exact this
      · rcases nel with e | e
        · left; rw [e]
        · right; rw [e]
      · rcases step with e | e
        · left; rw [e]
        · right
          rw [next_spec (by omega)]
          unfold nextF
          rw [if_neg (by omega), if_neg (by simp; omega), e]
          split
          · rename_i q; rw [q]
          · rfl
end Go.Fb
