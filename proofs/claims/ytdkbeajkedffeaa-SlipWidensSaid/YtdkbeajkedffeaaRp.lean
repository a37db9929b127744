/- Layer 3: plain laws of what the functions compute. Conditions: as each theorem states. -/
import Derived.Test.YtdkbeajkedffeaaNq
import Derived.Test.YtdkbeajkedffeaaRd
import Derived.Test.YtdkbeajkedffeaaRl
namespace Go.Fb
open Go.Ev
def sg (neg : Bool) (n : Nat) : Int := if neg then -(n : Int) else n
def rq (neg : Bool) (n d : Nat) : Rat := mkRat (sg neg n) d
def val (a : RR) : Rat := rq a.neg (wv a.num) (wv a.den)
def vq (q : RQ) : Rat := rq q.neg (bv q.num) (bv q.den)
def RIs (a : RR) (x : Rat) (k : Nat) : Prop := NumIs a.num x.num.natAbs k ∧ NumIs a.den x.den k ∧ a.neg = decide (x < 0)
def RW (a : RR) (k : Nat) : Prop := Wds a.num ∧ Wds a.den ∧ a.num.length ≤ k ∧ a.den.length ≤ k
def QIs (q : RQ) (x : Rat) (k : Nat) : Prop := bv q.num = x.num.natAbs ∧ LenIs x.num.natAbs q.num.length ∧ bv q.den = x.den ∧ LenIs x.den q.den.length ∧ q.neg = decide (x < 0) ∧ q.num.length ≤ k ∧ q.den.length ≤ k
theorem sg_natAbs (neg : Bool) (n : Nat) : (sg neg n).natAbs = n := by unfold sg; cases neg <;> simp
theorem sg_mul (s t : Bool) (n m : Nat) : sg s n * sg t m = sg (s != t) (n * m) := by
  cases s <;> cases t <;> simp [sg, Int.natCast_mul, Int.neg_mul, Int.mul_neg]
theorem sg_mulN (s : Bool) (n m : Nat) : sg s n * (m : Int) = sg s (n * m) := by
  cases s <;> simp [sg, Int.natCast_mul, Int.neg_mul]
theorem sg_neg (s : Bool) (n : Nat) : sg (!s) n = -sg s n := by cases s <;> simp [sg]
theorem rq_zero_num (neg : Bool) (d : Nat) : rq neg 0 d = 0 := by cases neg <;> simp [rq, sg]
theorem rq_zero_den (neg : Bool) (n : Nat) : rq neg n 0 = 0 := by simp [rq]
theorem rq_num {neg : Bool} {n d : Nat} (hd : d ≠ 0) : (rq neg n d).num.natAbs = n / Nat.gcd n d := by
  unfold rq
  rw [Rat.num_mkRat, if_neg hd, sg_natAbs, Nat.gcd_comm]
  obtain ⟨k, hk⟩ := Nat.gcd_dvd_left n d
  rcases Nat.eq_zero_or_pos (Nat.gcd n d) with h0 | h0
  · rw [h0]; simp
  · generalize Nat.gcd n d = g at *
    rw [hk, Nat.mul_div_cancel_left _ h0]
    have e : sg neg (g * k) = (g : Int) * sg neg k := by cases neg <;> simp [sg, Int.natCast_mul, Int.mul_neg]
    rw [e, Int.mul_ediv_cancel_left _ (by omega), sg_natAbs]
theorem rq_den {neg : Bool} {n d : Nat} (hd : d ≠ 0) : (rq neg n d).den = d / Nat.gcd n d := by
  unfold rq
  rw [Rat.den_mkRat, if_neg hd, sg_natAbs, Nat.gcd_comm]
theorem rq_neg {neg : Bool} {n d : Nat} (hn : n ≠ 0) (hd : d ≠ 0) : neg = decide (rq neg n d < 0) := by
  have h1 : rq neg n d < 0 ↔ neg = true := by
    unfold rq
    rw [Rat.mkRat_eq_div]
    have hdp : (0 : Rat) < (d : Rat) := Rat.natCast_pos.2 (by omega)
    rw [Rat.div_lt_iff hdp, Rat.zero_mul]
    cases neg with
    | true =>
      simp only [sg, if_true, iff_true]
      have : (0 : Rat) < (n : Rat) := Rat.natCast_pos.2 (by omega)
      have e : ((-(n : Int) : Int) : Rat) = -(n : Rat) := by rw [Rat.intCast_neg, Rat.intCast_natCast]
      rw [e]; grind
    | false =>
      simp only [sg, Bool.false_eq_true, if_false, iff_false, Rat.not_lt]
      rw [Rat.intCast_natCast]
      exact Rat.natCast_nonneg
  cases neg with
  | true => exact (decide_eq_true (h1.2 rfl)).symm
  | false => exact (decide_eq_false fun h => by have := h1.1 h; cases this).symm
theorem rq_self (x : Rat) : rq (decide (x < 0)) x.num.natAbs x.den = x := by
  have : sg (decide (x < 0)) x.num.natAbs = x.num := by
    unfold sg
    by_cases h : x < 0
    · rw [decide_eq_true h, if_pos rfl]
      have : x.num < 0 := by
        rcases Int.lt_or_le x.num 0 with h2 | h2
        · exact h2
        · exact absurd (Rat.num_nonneg.1 h2) (Rat.not_le.2 h)
      omega
    · rw [decide_eq_false h, if_neg (by simp)]
      have := Rat.num_nonneg.2 (Rat.not_lt.1 h)
      omega
  unfold rq
  rw [this, Rat.mkRat_self]
theorem RIs.val {a : RR} {x : Rat} {k : Nat} (h : RIs a x k) : val a = x := by
  unfold Go.Fb.val
  rw [h.1.2.2.1, h.2.1.2.2.1, h.2.2, rq_self]
theorem RIs.RW {a : RR} {x : Rat} {k : Nat} (h : RIs a x k) : RW a k := ⟨h.1.1, h.2.1.1, h.1.2.2.2, h.2.1.2.2.2⟩
theorem RIs.le {a : RR} {x : Rat} {k m : Nat} (h : RIs a x k) (hm : k ≤ m) : RIs a x m :=
  ⟨⟨h.1.1, h.1.2.1, h.1.2.2.1, Nat.le_trans h.1.2.2.2 hm⟩, ⟨h.2.1.1, h.2.1.2.1, h.2.1.2.2.1, Nat.le_trans h.2.1.2.2.2 hm⟩, h.2.2⟩
theorem RW.le {a : RR} {k m : Nat} (h : RW a k) (hm : k ≤ m) : RW a m := ⟨h.1, h.2.1, Nat.le_trans h.2.2.1 hm, Nat.le_trans h.2.2.2 hm⟩
theorem QIs.val {q : RQ} {x : Rat} {k : Nat} (h : QIs q x k) : vq q = x := by
  unfold vq
  rw [h.1, h.2.2.1, h.2.2.2.2.1, rq_self]
theorem RIs.unique {a b : RR} {x : Rat} {k m : Nat} (h : RIs a x k) (g : RIs b x m) : a = b := by
  obtain ⟨h1, h2, h3⟩ := h
  obtain ⟨g1, g2, g3⟩ := g
  have e1 : a.num = b.num := wv_inj h1.1 g1.1 h1.2.1 g1.2.1 (by rw [h1.2.2.1, g1.2.2.1])
  have e2 : a.den = b.den := wv_inj h2.1 g2.1 h2.2.1 g2.2.1 (by rw [h2.2.2.1, g2.2.2.1])
  cases a; cases b
  simp only at *
  subst e1 e2 h3 g3
  rfl
theorem zero_is {n1 : List Int} (h : NumIs n1 1 2) {k : Nat} (hk : 1 ≤ k) : RIs ⟨false, [], n1⟩ 0 k :=
  ⟨⟨Wds.nil, Nz.nil, rfl, Nat.zero_le _⟩, h.len (by
    have : 4294967296 ^ 1 ≤ 4294967296 ^ k := Nat.pow_le_pow_right (by decide) hk
    omega), rfl⟩
theorem one_new : n_New_s 1 = true ∧ NumIs (n_New 1) 1 2 := nnew_spec (x := 1) ⟨by omega, by omega⟩
theorem low0_spec {num den : List Int} (hn : Wds num) (hd : Wds den) {k : Nat} (ln : num.length ≤ k) (ld : den.length ≤ k) (hk : 1 ≤ k) (hk2 : k ≤ 100000) (neg : Bool) :
    q_low0_s neg num den = true ∧ RIs (q_low0 neg num den) (rq neg (wv num) (wv den)) k := by
  suffices h : ∃ v, Tr.Is (q_low0_t neg num den) v ∧ RIs v (rq neg (wv num) (wv den)) k by
    obtain ⟨v, h1, h2⟩ := h
    have e : q_low0 neg num den = v := h1.1
    rw [e]; exact ⟨h1.2, h2⟩
  obtain ⟨l1, l2⟩ := nlen0 hn (by omega)
  obtain ⟨m1, m2⟩ := nlen0 hd (by omega)
  obtain ⟨o1, o2⟩ := one_new
  by_cases h0 : wv num = 0
  · refine ⟨_, Tr.is_ast l2 (Tr.is_br_t (by rw [l1, h0]; rfl) (Tr.is_ast o1 (Tr.is_leaf rfl))), ?_⟩
    rw [h0, rq_zero_num]
    exact zero_is o2 hk
  by_cases h1 : wv den = 0
  · refine ⟨_, Tr.is_ast l2 (Tr.is_br_f (by rw [l1, decide_eq_false h0]) (Tr.is_ast m2 (Tr.is_br_t (by rw [m1, h1]; rfl) (Tr.is_ast o1 (Tr.is_leaf rfl))))), ?_⟩
    rw [h1, rq_zero_den]
    exact zero_is o2 hk
  obtain ⟨g1, gw, gz, gv, gl⟩ := ngcd_spec hn hd ln ld (by omega)
  have hg : 0 < Nat.gcd (wv num) (wv den) := Nat.gcd_pos_of_pos_left _ (by omega)
  obtain ⟨p1, p, r, p2, p3, _⟩ := ndiv_spec hn gw (by omega) (by omega) (by rw [gv]; exact hg)
  obtain ⟨q1, q, s, q2, q3, _⟩ := ndiv_spec hd gw (by omega) (by omega) (by rw [gv]; exact hg)
  rw [gv] at p3 q3
  refine ⟨_, Tr.is_ast l2 (Tr.is_br_f (by rw [l1, decide_eq_false h0]) (Tr.is_ast m2 (Tr.is_br_f (by rw [m1, decide_eq_false h1]) (Tr.is_ast g1 (Tr.is_ast p1 (Tr.is_ast q1 (Tr.is_leaf rfl))))))), ?_⟩
  have e1 : (n_Div num (n_Gcd num den)).1 = p := by rw [p2]
  have e2 : (n_Div den (n_Gcd num den)).1 = q := by rw [q2]
  rw [e1, e2]
  refine ⟨?_, ?_, rq_neg h0 h1⟩
  · rw [rq_num h1]; exact ⟨p3.1, p3.2.1, p3.2.2.1, Nat.le_trans p3.2.2.2 ln⟩
  · rw [rq_den h1]; exact ⟨q3.1, q3.2.1, q3.2.2.1, Nat.le_trans q3.2.2.2 ld⟩
theorem low_spec {a : RR} {k : Nat} (h : RW a k) (hk : 1 ≤ k) (hk2 : k ≤ 100000) : q_low_s a = true ∧ RIs (q_low a) (val a) k := by
  obtain ⟨h1, h2⟩ := low0_spec h.1 h.2.1 h.2.2.1 h.2.2.2 hk hk2 a.neg
  have : Tr.Is (q_low_t a) (q_low0 a.neg a.num a.den) := Tr.is_ast h1 (Tr.is_leaf rfl)
  have e : q_low a = _ := this.1
  rw [e]; exact ⟨this.2, h2⟩
end Go.Fb
namespace Go.Fb
open Go.Ev
theorem rq_add (s t : Bool) (n m : Nat) {d e : Nat} (hd : d ≠ 0) (he : e ≠ 0) : rq s n d + rq t m e = mkRat (sg s (n * e) + sg t (m * d)) (d * e) := by
  unfold rq
  rw [Rat.mkRat_add_mkRat _ _ hd he, sg_mulN, sg_mulN]
theorem rq_mul (s t : Bool) (n m d e : Nat) : rq s n d * rq t m e = rq (s != t) (n * m) (d * e) := by
  unfold rq
  rw [Rat.mkRat_mul_mkRat, sg_mul]
theorem rq_negate (s : Bool) (n d : Nat) : rq (!s) n d = -rq s n d := by
  unfold rq
  rw [sg_neg, Rat.neg_mkRat]
theorem rq_inv (s : Bool) (n d : Nat) : rq s d n = (rq s n d)⁻¹ := by
  unfold rq
  rw [← Rat.divInt_ofNat, ← Rat.divInt_ofNat, Rat.inv_divInt]
  cases s with
  | false => rfl
  | true =>
    show Rat.divInt (-(d : Int)) (n : Int) = Rat.divInt (d : Int) (-(n : Int))
    rw [← Rat.neg_divInt_neg, Int.neg_neg]
def absQ (x : Rat) : Rat := if x < 0 then -x else x
theorem rq_false {neg : Bool} {n d : Nat} : rq false n d = absQ (rq neg n d) := by
  by_cases hd : d = 0
  · subst hd; rw [rq_zero_den, rq_zero_den]; rfl
  by_cases hn : n = 0
  · subst hn; rw [rq_zero_num, rq_zero_num]; rfl
  have h1 := rq_neg (neg := neg) hn hd
  unfold absQ
  cases neg with
  | true =>
    rw [if_pos (of_decide_eq_true h1.symm), ← rq_negate]; rfl
  | false => rw [if_neg (of_decide_eq_false h1.symm)]
theorem abs_spec {a : RR} {k : Nat} (h : RW a k) (hk : 1 ≤ k) (hk2 : k ≤ 100000) : q_Abs_s a = true ∧ RIs (q_Abs a) (absQ (val a)) k := by
  obtain ⟨h1, h2⟩ := low0_spec h.1 h.2.1 h.2.2.1 h.2.2.2 hk hk2 false
  have : Tr.Is (q_Abs_t a) (q_low0 false a.num a.den) := Tr.is_ast h1 (Tr.is_leaf rfl)
  have e : q_Abs a = _ := this.1
  rw [rq_false (neg := a.neg)] at h2
  rw [e]; exact ⟨this.2, h2⟩
def cmpQ (x y : Rat) : Int := if x < y then -1 else if x = y then 0 else 1
theorem num_of_neg {x : Rat} : (x < 0) = (x.num < 0) := by
  have := @Rat.num_nonneg x
  apply propext
  constructor
  · intro h; rcases Int.lt_or_le x.num 0 with h2 | h2
    · exact h2
    · exact absurd (this.1 h2) (Rat.not_le.2 h)
  · intro h; exact Rat.not_le.1 fun h2 => by have := this.2 h2; omega
theorem cmp_sides {x y : Rat} (h : decide (x < 0) = decide (y < 0)) : (x < y ↔ if x < 0 then y.num.natAbs * x.den < x.num.natAbs * y.den else x.num.natAbs * y.den < y.num.natAbs * x.den) ∧ (x = y ↔ x.num.natAbs * y.den = y.num.natAbs * x.den) := by
  have e1 := Rat.lt_iff x y
  have e2 := @Rat.eq_iff_mul_eq_mul x y
  have h1 : (x < 0) = (y < 0) := by simpa using h
  rw [num_of_neg, num_of_neg] at h1
  by_cases hx : x < 0
  · rw [if_pos hx]
    rw [num_of_neg] at hx
    have hy : y.num < 0 := h1 ▸ hx
    obtain ⟨n, hn⟩ : ∃ n : Nat, x.num = -(n : Int) := ⟨x.num.natAbs, by omega⟩
    obtain ⟨m, hm⟩ : ∃ m : Nat, y.num = -(m : Int) := ⟨y.num.natAbs, by omega⟩
    rw [hn, hm] at e1 e2 ⊢
    simp only [Int.natAbs_neg, Int.natAbs_natCast]
    rw [e1, e2, Int.neg_mul, Int.neg_mul, ← Int.natCast_mul, ← Int.natCast_mul]
    generalize n * y.den = u
    generalize m * x.den = v
    constructor <;> omega
  · rw [if_neg hx]
    rw [num_of_neg] at hx
    have hy : ¬ y.num < 0 := h1 ▸ hx
    obtain ⟨n, hn⟩ : ∃ n : Nat, x.num = (n : Int) := ⟨x.num.natAbs, by omega⟩
    obtain ⟨m, hm⟩ : ∃ m : Nat, y.num = (m : Int) := ⟨y.num.natAbs, by omega⟩
    rw [hn, hm] at e1 e2 ⊢
    simp only [Int.natAbs_natCast]
    rw [e1, e2, ← Int.natCast_mul, ← Int.natCast_mul]
    generalize n * y.den = u
    generalize m * x.den = v
    constructor <;> omega
theorem cmpN_cases (x y : Nat) : cmpN x y = -1 ∧ x < y ∨ cmpN x y = 0 ∧ x = y ∨ cmpN x y = 1 ∧ y < x := by
  unfold cmpN
  rcases Nat.lt_trichotomy x y with h | h | h
  · rw [if_pos h]; exact .inl ⟨rfl, h⟩
  · rw [if_neg (by omega), if_pos h]; exact .inr (.inl ⟨rfl, h⟩)
  · rw [if_neg (by omega), if_neg (by omega)]; exact .inr (.inr ⟨rfl, h⟩)
theorem cmpQ_lt {x y : Rat} (h : x < y) : cmpQ x y = -1 := if_pos h
theorem cmpQ_eq {x y : Rat} (h : x = y) : cmpQ x y = 0 := by
  subst h; unfold cmpQ; rw [if_neg (Rat.lt_irrefl), if_pos rfl]
theorem cmpQ_gt {x y : Rat} (h : y < x) : cmpQ x y = 1 := by
  unfold cmpQ; rw [if_neg (Rat.not_lt.2 (Rat.le_of_lt h)), if_neg (Rat.ne_of_gt h)]
theorem cmpQ_cases (x y : Rat) : cmpQ x y = -1 ∧ x < y ∨ cmpQ x y = 0 ∧ x = y ∨ cmpQ x y = 1 ∧ y < x := by
  by_cases h : x < y
  · exact .inl ⟨cmpQ_lt h, h⟩
  · by_cases h2 : x = y
    · exact .inr (.inl ⟨cmpQ_eq h2, h2⟩)
    · have : y < x := Rat.lt_of_le_of_ne (Rat.not_lt.1 h) fun e => h2 e.symm
      exact .inr (.inr ⟨cmpQ_gt this, this⟩)
theorem cmpQ_same {x y : Rat} (h : decide (x < 0) = decide (y < 0)) : cmpQ x y = if x < 0 then -cmpN (x.num.natAbs * y.den) (y.num.natAbs * x.den) else cmpN (x.num.natAbs * y.den) (y.num.natAbs * x.den) := by
  obtain ⟨h1, h2⟩ := cmp_sides h
  generalize x.num.natAbs * y.den = u at *
  generalize y.num.natAbs * x.den = v at *
  by_cases hx : x < 0
  · rw [if_pos hx] at h1 ⊢
    rcases cmpN_cases u v with ⟨e, hc⟩ | ⟨e, hc⟩ | ⟨e, hc⟩
    · rw [e]
      refine cmpQ_gt (Rat.lt_of_le_of_ne (Rat.not_lt.1 fun h => ?_) fun h => ?_)
      · have := h1.1 h; omega
      · have := h2.1 h.symm; omega
    · rw [e, cmpQ_eq (h2.2 hc)]; rfl
    · rw [e, cmpQ_lt (h1.2 hc)]
  · rw [if_neg hx] at h1 ⊢
    rcases cmpN_cases u v with ⟨e, hc⟩ | ⟨e, hc⟩ | ⟨e, hc⟩
    · rw [e, cmpQ_lt (h1.2 hc)]
    · rw [e, cmpQ_eq (h2.2 hc)]
    · rw [e]
      refine cmpQ_gt (Rat.lt_of_le_of_ne (Rat.not_lt.1 fun h => ?_) fun h => ?_)
      · have := h1.1 h; omega
      · have := h2.1 h.symm; omega
theorem qcmp_spec {a b : RR} {k : Nat} (ha : RW a k) (hb : RW b k) (hk : 1 ≤ k) (hk2 : k ≤ 40000) : q_Cmp_s a b = true ∧ q_Cmp a b = cmpQ (val a) (val b) := by
  obtain ⟨a1, ⟨anw, anz, anv, anl⟩, ⟨adw, adz, adv, adl⟩, an⟩ := low_spec ha hk (by omega)
  obtain ⟨b1, ⟨bnw, bnz, bnv, bnl⟩, ⟨bdw, bdz, bdv, bdl⟩, bn⟩ := low_spec hb hk (by omega)
  suffices h : Tr.Is (q_Cmp_t a b) (cmpQ (val a) (val b)) from ⟨h.2, h.1⟩
  refine Tr.is_ast a1 (Tr.is_ast b1 ?_)
  by_cases hs : (q_low a).neg = (q_low b).neg
  · obtain ⟨x1, xw, xz, xv, xl⟩ := nmul_spec anw bdw (by omega)
    obtain ⟨y1, yw, yz, yv, yl⟩ := nmul_spec bnw adw (by omega)
    rw [anv, bdv] at xv
    rw [bnv, adv] at yv
    obtain ⟨c1, c2⟩ := ncmp_spec xw yw (by omega) (by omega)
    rw [xv, yv] at c1
    rw [cmpQ_same (by rw [← an, ← bn, hs]), ← c1]
    refine Tr.is_br_f (by rw [hs]; simp) (Tr.is_ast x1 (Tr.is_ast y1 (Tr.is_ast c2 ?_)))
    by_cases hx : val a < 0
    · rw [if_pos hx]
      refine Tr.is_br_t (by rw [an]; exact decide_eq_true hx) (Tr.is_leaf ?_)
      rw [c1]
      rcases cmpN_cases ((val a).num.natAbs * (val b).den) ((val b).num.natAbs * (val a).den) with ⟨e, _⟩ | ⟨e, _⟩ | ⟨e, _⟩ <;> rw [e] <;> rfl
    · rw [if_neg hx]
      exact Tr.is_br_f (by rw [an]; exact decide_eq_false hx) (Tr.is_leaf rfl)
  · refine Tr.is_br_t (by simpa using hs) ?_
    rw [an, bn] at hs
    by_cases hx : val a < 0
    · have hy : ¬ val b < 0 := fun h => hs (by rw [decide_eq_true hx, decide_eq_true h])
      rw [cmpQ_lt (by grind)]
      exact Tr.is_br_t (by rw [an]; exact decide_eq_true hx) (Tr.is_leaf rfl)
    · have hy : val b < 0 := by
        by_cases h : val b < 0
        · exact h
        · exact absurd (by rw [decide_eq_false hx, decide_eq_false h]) hs
      rw [cmpQ_gt (by grind)]
      exact Tr.is_br_f (by rw [an]; exact decide_eq_false hx) (Tr.is_leaf rfl)
end Go.Fb
namespace Go.Fb
open Go.Ev
theorem QIs.neg {a : RQ} {x : Rat} {k : Nat} (h : QIs a x k) : rq a.neg x.num.natAbs x.den = x := by rw [h.2.2.2.2.1, rq_self]
end Go.Fb
