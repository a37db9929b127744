/- Layer 5: plain laws of what the functions compute. Conditions: as each theorem states. -/
import Derived.Test.YtdkbeajkedffeaaPp
import Derived.Test.YtdkbeajkedffeaaUd
namespace Go.Fb
open Go.Ev
structure Xn where
  P : Nat
  Q : Nat
  rho : Bool
def cut (x : Xn) (y : Nat) : Int := if x.P < x.Q * y then -1 else if x.Q * y < x.P then 1 else if x.rho then 1 else 0
def pos (S k : Nat) : Nat := 2 * kvN k * 2 ^ S
def midp (S k : Nat) : Nat := (kvN k + kvN (k + 1)) * 2 ^ S
def Sit (S : Nat) (x : Xn) (K : Nat) (h r : Bool) : Prop :=
  0 ≤ cut x (pos S K) ∧ cut x (pos S (K + 1)) < 0 ∧ (h = decide (0 ≤ cut x (midp S K))) ∧ (r = if h then decide (0 < cut x (midp S K)) else decide (0 < cut x (pos S K)))
theorem cut_mono {x : Xn} {y z : Nat} (hyz : y ≤ z) (h : 0 ≤ cut x z) : 0 ≤ cut x y := by
  unfold cut at *
  have := Nat.mul_le_mul_left x.Q hyz
  split at h
  · omega
  · split
    · omega
    · split <;> (try split) <;> omega
theorem pos_mono {S j k : Nat} (h : j ≤ k) : pos S j ≤ pos S k := by
  unfold pos
  have : kvN j ≤ kvN k := by
    rcases Nat.lt_or_ge j k with g | g
    · exact Nat.le_of_lt (kvN_mono g)
    · have : j = k := by omega
      rw [this]; exact Nat.le_refl _
  exact Nat.mul_le_mul_right _ (by omega)
theorem sit_key {S : Nat} {x : Xn} {K J : Nat} {h r h' r' : Bool} (a : Sit S x K h r) (b : Sit S x J h' r') : K = J := by
  rcases Nat.lt_trichotomy K J with g | g | g
  · have := cut_mono (pos_mono (S := S) (show K + 1 ≤ J by omega)) b.1
    have := a.2.1; omega
  · exact g
  · have := cut_mono (pos_mono (S := S) (show J + 1 ≤ K by omega)) a.1
    have := b.2.1; omega
theorem sit_inj {S : Nat} {x : Xn} {K J : Nat} {h r h' r' : Bool} (a : Sit S x K h r) (b : Sit S x J h' r') : K = J ∧ h = h' ∧ r = r' := by
  have e := sit_key a b
  subst e
  have e2 : h = h' := a.2.2.1.trans b.2.2.1.symm
  subst e2
  exact ⟨rfl, rfl, a.2.2.2.trans b.2.2.2.symm⟩
def rkey (K : Nat) (h r : Bool) (way : Int) : Nat :=
  if way = 1 then (if h || r then K + 1 else K)
  else if way = 2 then K
  else if h && (r || decide (K % 2 = 1)) then K + 1 else K
def rans (K : Nat) (h r small : Bool) (way : Int) : Nat × Int :=
  if 9218868437227405312 ≤ rkey K h r way then (if way = 2 then 9218868437227405311 else 9218868437227405312, 5)
  else (rkey K h r way, if h || r then (if small then 3 else 1) else 0)
def wayOf (neg : Bool) (mode : Int) : Int := if neg = true ∧ mode = 1 then 2 else if neg = true ∧ mode = 2 then 1 else mode
end Go.Fb
namespace Go.Fb
open Go.Ev
theorem away_spec (x : RN) (mode : Int) : n_away x mode = decide (wayOf x.neg mode = 1) := by
  unfold n_away n_away_t n_away_T wayOf
  by_cases h1 : mode = 1
  · subst h1; cases x.neg <;> rfl
  · by_cases h2 : mode = 2
    · subst h2; cases x.neg <;> rfl
    · simp [Tr.val, h1, h2]
theorem towards_spec (x : RN) (mode : Int) : n_towards x mode = decide (wayOf x.neg mode = 2) := by
  unfold n_towards n_towards_t n_towards_T wayOf
  by_cases h1 : mode = 1
  · subst h1; cases x.neg <;> rfl
  · by_cases h2 : mode = 2
    · subst h2; cases x.neg <;> rfl
    · simp [Tr.val, h1, h2]
theorem up_spec (x : RN) (mode : Int) (odd half rest : Bool) : n_up x mode odd half rest =
    if wayOf x.neg mode = 1 then half || rest else if wayOf x.neg mode = 2 then false else half && (rest || odd) := by
  unfold n_up n_up_t n_up_T
  rw [away_spec, towards_spec]
  by_cases h1 : wayOf x.neg mode = 1
  · simp [Tr.val, h1]
  · by_cases h2 : wayOf x.neg mode = 2
    · simp [Tr.val, h2]
    · simp only [h1, h2, decide_false, if_false, Tr.val]; cases half <;> cases rest <;> cases odd <;> rfl
theorem over_spec (x : RN) (mode : Int) : n_over x mode = (fl x.neg (if wayOf x.neg mode = 2 then 9218868437227405311 else 9218868437227405312), 5) := by
  unfold n_over n_over_t n_over_T
  rw [towards_spec, inf_spec]
  by_cases h2 : wayOf x.neg mode = 2
  · simp only [h2, decide_true, if_true, Tr.val]
    cases x.neg <;> rfl
  · simp [Tr.val, h2]
end Go.Fb
namespace Go.Fb
open Go.Ev
def tail (neg : Bool) (q : Int) (w : Nat) (h r small : Bool) (way : Int) : Int × Int :=
  let a := rans (4503599627370496 * (q + 1074).toNat + w) h r small way
  (fl neg a.1, a.2)
theorem pack_sub {s : Bool} {w : Nat} (hw : w < 4503599627370496) : (p_Make s 0 (bitsI .and .u64 (w : Int) 4503599627370495)).fst = fl s w := by
  rw [show (4503599627370495 : Int) = ((4503599627370495 : Nat) : Int) from rfl, bits_and (by omega) (by omega), show 4503599627370495 = 2 ^ 52 - 1 from rfl, Nat.and_two_pow_sub_one_eq_mod, Nat.mod_eq_of_lt (by omega)]
  have := make_spec (s := s) (e := 0) (m := w) (by omega) hw
  rw [show ((0 : Nat) : Int) = 0 from rfl] at this
  rw [this]; simp
theorem pack_norm {s : Bool} {w e : Nat} (hw : 4503599627370496 ≤ w) (hw2 : w < 9007199254740992) (he : e < 2048) : (p_Make s (e : Int) (bitsI .and .u64 (w : Int) 4503599627370495)).fst = fl s (4503599627370496 * e + (w - 4503599627370496)) := by
  rw [show (4503599627370495 : Int) = ((4503599627370495 : Nat) : Int) from rfl, bits_and (by omega) (by omega), show 4503599627370495 = 2 ^ 52 - 1 from rfl, Nat.and_two_pow_sub_one_eq_mod, show w % 2 ^ 52 = w - 4503599627370496 by omega]
  rw [make_spec he (by omega)]
def upOf (odd h r : Bool) (way : Int) : Bool := if way = 1 then h || r else if way = 2 then false else h && (r || odd)
theorem rkey_up (K : Nat) (h r : Bool) (way : Int) : rkey K h r way = if upOf (decide (K % 2 = 1)) h r way then K + 1 else K := by
  unfold rkey upOf
  by_cases h1 : way = 1
  · simp [h1]
  · by_cases h2 : way = 2
    · simp [h2]
    · simp only [h1, h2, if_false]
def flagsOf (h r small : Bool) : Int := if h || r then (if small then 3 else 1) else 0
theorem tail_under {neg : Bool} {q : Int} {w : Nat} {h r small up : Bool} {way : Int} (hu : upOf (decide (w % 2 = 1)) h r way = up) {K : Nat}
    (hK : K = 4503599627370496 * (q + 1074).toNat + w + (if up then 1 else 0)) (hlt : K < 9218868437227405312) : tail neg q w h r small way = (fl neg K, flagsOf h r small) := by
  have e : rkey (4503599627370496 * (q + 1074).toNat + w) h r way = K := by
    rw [rkey_up, show (4503599627370496 * (q + 1074).toNat + w) % 2 = w % 2 by omega, hu, hK]
    cases up <;> rfl
  unfold tail rans
  simp only [e, if_neg (show ¬ 9218868437227405312 ≤ K by omega)]
  rfl
theorem tail_over {neg : Bool} {q : Int} {w : Nat} {h r small up : Bool} {way : Int} (hu : upOf (decide (w % 2 = 1)) h r way = up)
    (hge : 9218868437227405312 ≤ 4503599627370496 * (q + 1074).toNat + w + (if up then 1 else 0)) : tail neg q w h r small way = (fl neg (if way = 2 then 9218868437227405311 else 9218868437227405312), 5) := by
  have e : rkey (4503599627370496 * (q + 1074).toNat + w) h r way = 4503599627370496 * (q + 1074).toNat + w + (if up then 1 else 0) := by
    rw [rkey_up, show (4503599627370496 * (q + 1074).toNat + w) % 2 = w % 2 by omega, hu]
    cases up <;> rfl
  unfold tail rans
  simp only [e, if_pos hge]
end Go.Fb
namespace Go.Fb
open Go.Ev
theorem shr52 {w : Nat} (_h : w < 18446744073709551616) : (shrI .u64 (w : Int) 52 == 1) = decide (w / 4503599627370496 = 1) := by
  have := shr_nat w 52 (by omega)
  rw [show ((52 : Nat) : Int) = 52 from rfl] at this
  rw [this, show (2 : Nat) ^ 52 = 4503599627370496 from rfl]
  by_cases h : w / 4503599627370496 = 1
  · rw [h]; rfl
  · rw [decide_eq_false h]
    exact beq_eq_false_iff_ne.2 (by omega)
theorem shr1 {w : Nat} (_h : w < 18446744073709551616) : shrI .u64 (w : Int) 1 = ((w / 2 : Nat) : Int) := shr_nat w 1 (by omega)
theorem and1 {w : Nat} (h : w < 18446744073709551616) : (bitsI .and .u64 (w : Int) 1 == 1) = decide (w % 2 = 1) := by
  rw [show (1 : Int) = ((1 : Nat) : Int) from rfl, bits_and h (by decide), Nat.and_one_is_mod]
  by_cases h : w % 2 = 1
  · rw [h]; rfl
  · rw [decide_eq_false h]
    exact beq_eq_false_iff_ne.2 (by omega)
theorem lo_small {a : U2} (h : W2 a) (hl : n2 a < 18446744073709551616) : a.lo = (n2 a : Int) := by
  obtain ⟨h1, h2⟩ := h
  unfold Wd at h1 h2
  unfold n2 at *
  omega
theorem lo_odd {a : U2} (h : W2 a) : (bitsI .and .u64 a.lo 1 == 1) = decide (n2 a % 2 = 1) := by
  obtain ⟨h1, h2⟩ := h
  unfold Wd at h1 h2
  obtain ⟨l, hl⟩ := Int.eq_ofNat_of_zero_le h2.1
  rw [hl, and1 (by omega)]
  unfold n2
  congr 1
  rw [hl]
  apply propext
  omega
end Go.Fb
namespace Go.Fb
open Go.Ev
theorem keep_lt {M L D : Nat} (h : LenIs M L) (hD : L ≤ D + 53) : M / 2 ^ D < 9007199254740992 := by
  rw [Nat.div_lt_iff_lt_mul (Nat.two_pow_pos D), show 9007199254740992 = 2 ^ 53 from rfl, ← Nat.pow_add]
  exact Nat.lt_of_lt_of_le h.1 (Nat.pow_le_pow_right (by decide) (by omega))
theorem keep_ge {M L D : Nat} (h : LenIs M L) (hD : L = D + 53) : 4503599627370496 ≤ M / 2 ^ D := by
  rw [Nat.le_div_iff_mul_le (Nat.two_pow_pos D), show 4503599627370496 = 2 ^ 52 from rfl, ← Nat.pow_add]
  rcases h.2 with h | h
  · omega
  · rwa [show L - 1 = 52 + D by omega] at h
set_option maxHeartbeats 2000000 in
theorem float_hi {x : RN} (hm : W2 x.m) {L : Nat} (hl : u2_Len x.m = (L : Int)) (hL : LenIs (n2 x.m) L) (hL2 : L ≤ 128) (he : -5000 ≤ x.e ∧ x.e ≤ 5000) (mode : Int)
    {q : Int} (hq : q = imax ((L : Int) - 53 + x.e) (-1074)) (hq1 : (L : Int) - 53 + x.e ≤ q) (hq2 : -1074 ≤ q) (hq3 : q = (L : Int) - 53 + x.e ∨ q = -1074) {D : Nat} (hD : (D : Int) + 1 = q - x.e) {M : Nat} (hM : n2 x.m = M) :
    Tr.Is (n_float_t x mode) (tail x.neg q (M / 2 ^ (D + 1)) (decide (M / 2 ^ D % 2 = 1)) (x.rest || decide (M % 2 ^ D ≠ 0)) (decide ((L : Int) + x.e ≤ -1022)) (wayOf x.neg mode)) := by
  subst hM
  obtain ⟨s1, s2, s3, s4⟩ := ushr_spec hm (n := D) (by omega)
  obtain ⟨r1, r2, r3, r4⟩ := ushr_spec s2 (n := 1) (by omega)
  have wlt := keep_lt (D := D + 1) hL (by omega)
  have wge : q = -1074 ∨ 4503599627370496 ≤ n2 x.m / 2 ^ (D + 1) := by
    rcases hq3 with h | h
    · exact .inr (keep_ge hL (by omega))
    · exact .inl h
  have r3' : n2 (u2_Shr (u2_Shr x.m (D : Int)).1 1).1 = n2 x.m / 2 ^ (D + 1) := by
    rw [show (1 : Int) = ((1 : Nat) : Int) from rfl, r3, s3, Nat.div_div_eq_div_mul, ← Nat.pow_add]
  unfold n_float_t n_float_T
  extract_lets t0 t1 t2 t3 t4 t5 t6 t7 t8 t9 t10 t11 t12 t13 t14 t15 t16 t17 t18 t19 t20 t21 t22 t23 t24 t25 t26 t27 t28 t29 t30 t31 t32 t33 t34 t35 t36 t37 t38 t39 t40 t41 t42 t43 t44 t45 t46 t47 t48 t49 t50 t51 t52 t53 t54 t55 t56 t57 t58 t59 t60
  have e3 : t3 = q := by
    show imax (IntKind.i64.wrap (IntKind.i64.wrap (u2_Len x.m - 53) + x.e)) (-1074) = q
    rw [hl, w64 (n := (L : Int) - 53) (by omega) (by omega), w64 (by omega) (by omega), hq]
  have e4 : t4 = (D : Int) + 1 := by
    show IntKind.i64.wrap (t3 - x.e) = _
    rw [e3, w64 (by omega) (by omega)]; omega
  have e8 : t8 = (D : Int) := by
    show IntKind.i64.wrap (t4 - 1) = _
    rw [e4, w64 (by omega) (by omega)]; omega
  have e5 : t5 = decide ((L : Int) + x.e ≤ -1022) := by
    show decide (IntKind.i64.wrap (u2_Len x.m + x.e) ≤ -1022) = _
    rw [hl, w64 (by omega) (by omega)]
  have e12 : t12 = (u2_Shr x.m (D : Int)).1 := by show (u2_Shr x.m t8).1 = _; rw [e8]
  have e11 : t11 = decide (n2 x.m % 2 ^ D ≠ 0) := by show (u2_Shr x.m t8).2 = _; rw [e8, s4]
  have e15 : t15 = true := by show u2_Shr_s t12 1 = true; rw [e12]; exact r1
  have e25 : t25 = decide (n2 x.m / 2 ^ D % 2 = 1) := by show (bitsI .and .u64 t12.lo 1 == 1) = _; rw [e12, lo_odd s2, s3]
  have e17 : t17 = ((n2 x.m / 2 ^ (D + 1) : Nat) : Int) := by
    show (u2_Shr t12 1).1.lo = _
    rw [e12, lo_small (show W2 (u2_Shr (u2_Shr x.m (D : Int)).1 1).1 from r2) (by rw [r3']; omega), r3']
  have e36 : t36 = decide (n2 x.m / 2 ^ (D + 1) % 2 = 1) := by show (bitsI .and .u64 t17 1 == 1) = _; rw [e17, and1 (by omega)]
  have es : u2_Shr_s x.m t8 = true := by rw [e8]; exact s1
  generalize hw : n2 x.m / 2 ^ (D + 1) = w at *
  have e28 : t28 = false := by show (t17 == 9007199254740992) = false; rw [e17]; exact beq_eq_false_iff_ne.2 (by omega)
  have e29 : t29 = decide (q > 971) := by show decide (t3 > 971) = _; rw [e3]
  have e6 : t6 = q + 1 := by show IntKind.i64.wrap (t3 + 1) = _; rw [e3, w64 (by omega) (by omega)]
  have e51 : t51 = decide (q + 1 > 971) := by show decide (t6 > 971) = _; rw [e6]
  have e31 : t31 = ((w + 1 : Nat) : Int) := by show IntKind.u64.wrap (t17 + 1) = _; rw [e17, u64i (by omega) (by omega)]; omega
  have e42 : t42 = decide (w + 1 = 9007199254740992) := by
    show (t31 == 9007199254740992) = _
    rw [e31]
    by_cases h : w + 1 = 9007199254740992
    · rw [h]; rfl
    · rw [decide_eq_false h]; exact beq_eq_false_iff_ne.2 (by omega)
  have e35 : t35 = decide (w / 4503599627370496 = 1) := by show (shrI .u64 t17 52 == 1) = _; rw [e17, shr52 (by omega)]
  have e48 : t48 = decide ((w + 1) / 4503599627370496 = 1) := by show (shrI .u64 t31 52 == 1) = _; rw [e31, shr52 (by omega)]
  have e40 : t40 = (((w + 1) / 2 : Nat) : Int) := by show shrI .u64 t31 1 = _; rw [e31, shr1 (by omega)]
  have e50 : t50 = decide ((w + 1) / 2 / 4503599627370496 = 1) := by show (shrI .u64 t40 52 == 1) = _; rw [e40, shr52 (by omega)]
  have e13 : t13 = q + 1075 := by show IntKind.i64.wrap (IntKind.i64.wrap (t3 - (-1074)) + 1) = _; rw [e3, w64 (n := q - -1074) (by omega) (by omega), w64 (by omega) (by omega)]; omega
  have e20 : t20 = q + 1076 := by show IntKind.i64.wrap (IntKind.i64.wrap (t6 - (-1074)) + 1) = _; rw [e6, w64 (n := q + 1 - -1074) (by omega) (by omega), w64 (by omega) (by omega)]; omega
  have e38 : w < 4503599627370496 → t38 = fl x.neg w := fun h => by show (p_Make x.neg 0 (bitsI .and .u64 t17 4503599627370495)).fst = _; rw [e17, pack_sub h]
  have e54 : 4503599627370496 ≤ w → q ≤ 971 → t54 = fl x.neg (4503599627370496 * (q + 1075).toNat + (w - 4503599627370496)) := fun h h' => by
    show (p_Make x.neg t13 (bitsI .and .u64 t17 4503599627370495)).fst = _
    rw [e17, e13, show q + 1075 = (((q + 1075).toNat : Nat) : Int) by omega, pack_norm h wlt (by omega), Int.toNat_natCast]
  have e49 : w + 1 < 4503599627370496 → t49 = fl x.neg (w + 1) := fun h => by show (p_Make x.neg 0 (bitsI .and .u64 t31 4503599627370495)).fst = _; rw [e31, pack_sub h]
  have e57 : 4503599627370496 ≤ w + 1 → w + 1 < 9007199254740992 → q ≤ 971 → t57 = fl x.neg (4503599627370496 * (q + 1075).toNat + (w + 1 - 4503599627370496)) := fun h h2 h' => by
    show (p_Make x.neg t13 (bitsI .and .u64 t31 4503599627370495)).fst = _
    rw [e31, e13, show q + 1075 = (((q + 1075).toNat : Nat) : Int) by omega, pack_norm h h2 (by omega), Int.toNat_natCast]
  have e60 : w + 1 = 9007199254740992 → q + 1 ≤ 971 → t60 = fl x.neg (4503599627370496 * (q + 1076).toNat + 0) := fun h h' => by
    show (p_Make x.neg t20 (bitsI .and .u64 t40 4503599627370495)).fst = _
    rw [e40, e20, show q + 1076 = (((q + 1076).toNat : Nat) : Int) by omega, show (w + 1) / 2 = 4503599627370496 by omega, pack_norm (by omega) (by omega) (by omega), Int.toNat_natCast]
  have eo := over_spec x mode
  have eu : ∀ r, n_up x mode t36 t25 r = upOf (decide (w % 2 = 1)) t25 r (wayOf x.neg mode) := fun r => by rw [up_spec, e36]; rfl
  rw [← e5, ← e25, ← e11]
  clear_value t5 t11 t25 t28 t29 t42 t51 t35 t48 t50 t54 t38 t49 t57 t60 t15 t36 t52
  refine Tr.is_br_t (decide_eq_true (by omega)) (Tr.is_ast es ?_)
  have main : ∀ r, Tr.Is (Tr.br (n_up x mode t36 t25 r)
      (Tr.br t42 (Tr.br t51 (Tr.leaf (n_over x mode)) (Tr.br t50 (Tr.leaf (t60, flagsOf t25 r t5)) (Tr.leaf (t52, flagsOf t25 r t5))))
        (Tr.br t29 (Tr.leaf (n_over x mode)) (Tr.br t48 (Tr.leaf (t57, flagsOf t25 r t5)) (Tr.leaf (t49, flagsOf t25 r t5)))))
      (Tr.br t29 (Tr.leaf (n_over x mode)) (Tr.br t35 (Tr.leaf (t54, flagsOf t25 r t5)) (Tr.leaf (t38, flagsOf t25 r t5))))) (tail x.neg q w t25 r t5 (wayOf x.neg mode)) := fun r => by
    cases hu : n_up x mode t36 t25 r with
    | true =>
      have hu2 := (eu r).symm.trans hu
      refine Tr.is_br_t rfl ?_
      by_cases c : w + 1 = 9007199254740992
      · refine Tr.is_br_t (e42.trans (decide_eq_true c)) ?_
        by_cases o : q + 1 > 971
        · exact Tr.is_br_t (e51.trans (decide_eq_true o)) (Tr.is_leaf (eo.trans (tail_over (q := q) hu2 (by simp; omega)).symm))
        · exact Tr.is_br_f (e51.trans (decide_eq_false o)) (Tr.is_br_t (e50.trans (decide_eq_true (by omega))) <| Tr.is_leaf (by rw [e60 c (by omega), ← tail_under (q := q) hu2 (K := 4503599627370496 * (q + 1076).toNat + 0) (by simp; omega) (by omega)]))
      · refine Tr.is_br_f (e42.trans (decide_eq_false c)) ?_
        by_cases o : q > 971
        · exact Tr.is_br_t (e29.trans (decide_eq_true o)) (Tr.is_leaf (eo.trans (tail_over (q := q) hu2 (by simp; omega)).symm))
        · refine Tr.is_br_f (e29.trans (decide_eq_false o)) ?_
          by_cases g : (w + 1) / 4503599627370496 = 1
          · exact Tr.is_br_t (e48.trans (decide_eq_true g)) (Tr.is_leaf (by rw [e57 (by omega) (by omega) (by omega), ← tail_under (q := q) hu2 (K := 4503599627370496 * (q + 1075).toNat + (w + 1 - 4503599627370496)) (by simp; omega) (by omega)]))
          · exact Tr.is_br_f (e48.trans (decide_eq_false g)) (Tr.is_leaf (by rw [e49 (by omega), ← tail_under (q := q) hu2 (K := w + 1) (by simp; omega) (by omega)]))
    | false =>
      have hu2 := (eu r).symm.trans hu
      refine Tr.is_br_f rfl ?_
      by_cases o : q > 971
      · exact Tr.is_br_t (e29.trans (decide_eq_true o)) (Tr.is_leaf (eo.trans (tail_over (q := q) hu2 (by simp; omega)).symm))
      · refine Tr.is_br_f (e29.trans (decide_eq_false o)) ?_
        by_cases g : w / 4503599627370496 = 1
        · exact Tr.is_br_t (e35.trans (decide_eq_true g)) (Tr.is_leaf (by rw [e54 (by omega) (by omega), ← tail_under (q := q) hu2 (K := 4503599627370496 * (q + 1075).toNat + (w - 4503599627370496)) (by simp; omega) (by omega)]))
        · exact Tr.is_br_f (e35.trans (decide_eq_false g)) (Tr.is_leaf (by rw [e38 (by omega), ← tail_under (q := q) hu2 (K := w) (by simp; omega) (by omega)]))
  subst e28
  have m0 := main t11
  have m1 := main true
  clear main
  cases hx : x.rest with
  | true =>
    refine Tr.is_br_t rfl (Tr.is_ast e15 ?_)
    rw [Bool.true_or]
    clear m0 e25 e11 e5 eu
    cases t25 <;> cases t5 <;> exact m1
  | false =>
    refine Tr.is_br_f rfl (Tr.is_ast e15 ?_)
    rw [Bool.false_or]
    clear m1 e25 e11 e5 eu
    cases t25 <;> cases t5 <;> cases t11 <;> exact m0
end Go.Fb
namespace Go.Fb
open Go.Ev
structure In (x : Xn) (U M : Nat) (rest : Bool) : Prop where
  q : 0 < x.Q
  u : 0 < U
  lo : x.Q * (M * U) ≤ x.P
  hi : x.P < x.Q * ((M + 1) * U)
  re : rest = true ↔ (x.rho = true ∨ x.Q * (M * U) < x.P)
theorem cut_nonneg {x : Xn} {U M : Nat} {rest : Bool} (h : In x U M rest) {y : Nat} (hy : y ≤ M * U) : 0 ≤ cut x y := by
  have := Nat.mul_le_mul_left x.Q hy
  have := h.lo
  unfold cut
  rw [if_neg (by omega)]
  split
  · decide
  · split <;> decide
theorem cut_neg {x : Xn} {U M : Nat} {rest : Bool} (h : In x U M rest) {y : Nat} (hy : (M + 1) * U ≤ y) : cut x y < 0 := by
  have := Nat.mul_le_mul_left x.Q hy
  have := h.hi
  unfold cut
  rw [if_pos (by omega)]
  decide
theorem cut_pos_lt {x : Xn} {U M : Nat} {rest : Bool} (h : In x U M rest) {y : Nat} (hy : y < M * U) : 0 < cut x y := by
  have := Nat.mul_lt_mul_of_pos_left hy h.q
  have := h.lo
  unfold cut
  rw [if_neg (by omega), if_pos (by omega)]
  decide
theorem cut_at {x : Xn} {U M : Nat} {rest : Bool} (h : In x U M rest) : 0 < cut x (M * U) ↔ rest = true := by
  rw [h.re]
  have := h.lo
  unfold cut
  rw [if_neg (by omega)]
  split
  · rename_i g
    exact ⟨fun _ => .inr g, fun _ => by decide⟩
  · rename_i g
    split
    · rename_i g2
      exact ⟨fun _ => .inl g2, fun _ => by decide⟩
    · rename_i g2
      exact ⟨fun h => absurd h (by decide), fun h => by rcases h with h | h <;> contradiction⟩
theorem cut_lt_exact {x : Xn} {U M : Nat} (h : In x U M false) {y : Nat} (hy : M * U < y) : cut x y < 0 := by
  have h1 := Nat.mul_lt_mul_of_pos_left hy h.q
  have h2 : ¬ x.Q * (M * U) < x.P := fun g => by have := h.re.2 (.inr g); contradiction
  unfold cut
  rw [if_pos (by omega)]
  decide
theorem kv_of {n w : Nat} (h : w ≤ 9007199254740992) (h2 : n = 0 ∨ 4503599627370496 ≤ w) : kvN (4503599627370496 * n + w) = w * 2 ^ n := by
  unfold kvN
  by_cases c : w < 4503599627370496
  · have : n = 0 := by omega
    subst this
    rw [if_pos (by omega)]
    simp
  · rw [if_neg (by omega)]
    by_cases g : w = 9007199254740992
    · subst g
      rw [show (4503599627370496 * n + 9007199254740992) % 4503599627370496 = 0 by omega, show (4503599627370496 * n + 9007199254740992) / 4503599627370496 - 1 = n + 1 by omega, Nat.pow_succ]
      omega
    · rw [show 4503599627370496 + (4503599627370496 * n + w) % 4503599627370496 = w by omega, show (4503599627370496 * n + w) / 4503599627370496 - 1 = n by omega]
theorem sit_of {S : Nat} {x : Xn} {U M : Nat} {rest : Bool} (hin : In x U M rest) {K w D : Nat} (hw : M / 2 ^ (D + 1) = w) (hp : pos S K = w * 2 ^ (D + 1) * U) (hp2 : pos S (K + 1) = (w + 1) * 2 ^ (D + 1) * U) (hm : midp S K = (2 * w + 1) * 2 ^ D * U) :
    Sit S x K (decide (M / 2 ^ D % 2 = 1)) (rest || decide (M % 2 ^ D ≠ 0)) := by
  have p0 : 0 < 2 ^ D := Nat.two_pow_pos D
  generalize hpd : 2 ^ D = p at *
  rw [Nat.pow_succ, hpd] at hp hp2 hw
  have e1 := Nat.div_add_mod M p
  have e2 := Nat.mod_lt M p0
  have e3 : M / p / 2 = w := by rw [Nat.div_div_eq_div_mul, hw]
  generalize ha : M / p = a at *
  generalize hl : M % p = l at *
  have e4 : p * a = p * (2 * w) + p * (a % 2) := by rw [← Nat.mul_add]; congr 1; omega
  have e5 : (2 * w + 1) * p = p * (2 * w) + p := by rw [Nat.add_mul, Nat.mul_comm p]; omega
  have e6 : w * (p * 2) = p * (2 * w) := by rw [Nat.mul_comm, Nat.mul_assoc, ]
  have e7 : (w + 1) * (p * 2) = p * (2 * w) + 2 * p := by rw [Nat.add_mul, e6]; omega
  generalize hv : p * (2 * w) = v at *
  have b := Nat.mod_two_eq_zero_or_one a
  refine ⟨?_, ?_, ?_, ?_⟩
  · rw [hp]; refine cut_nonneg hin (Nat.mul_le_mul_right _ ?_)
    rcases b with b | b <;> rw [b] at e4 <;> omega
  · rw [hp2]; refine cut_neg hin (Nat.mul_le_mul_right _ ?_)
    rcases b with b | b <;> rw [b] at e4 <;> omega
  · rw [hm, e5]
    rcases b with b | b
    · rw [b] at e4 ⊢
      have : cut x ((v + p) * U) < 0 := cut_neg hin (Nat.mul_le_mul_right _ (by omega))
      rw [decide_eq_false (by decide), decide_eq_false (by omega)]
    · rw [b] at e4 ⊢
      have : 0 ≤ cut x ((v + p) * U) := cut_nonneg hin (Nat.mul_le_mul_right _ (by omega))
      rw [decide_eq_true rfl, decide_eq_true this]
  · have key : ∀ y, y = p * a * U → (rest || decide (l ≠ 0)) = decide (0 < cut x y) := by
      intro y hy
      subst hy
      by_cases hl0 : l = 0
      · have : p * a = M := by omega
        rw [this, decide_eq_false (show ¬ (l ≠ 0) by omega), Bool.or_false]
        have := cut_at hin
        cases hr : rest with
        | true => exact (decide_eq_true (this.2 hr)).symm
        | false => refine (decide_eq_false (fun h => ?_)).symm; have := this.1 h; rw [hr] at this; contradiction
      · rw [decide_eq_true hl0, Bool.or_true]
        exact (decide_eq_true (cut_pos_lt hin (Nat.mul_lt_mul_of_pos_right (by omega) hin.u))).symm
    rcases b with b | b
    · rw [b] at e4 ⊢
      exact key _ (by rw [hp, e6, e4]; rfl)
    · rw [b] at e4 ⊢
      exact key _ (by rw [hm, e5, e4]; simp)
theorem sit_lo {S : Nat} {x : Xn} {U M : Nat} (hin : In x U M false) {K : Nat} (hp : pos S K = M * U) : Sit S x K false false := by
  have h0 : ¬ 0 < cut x (M * U) := fun h => by have := (cut_at hin).1 h; contradiction
  have k1 := kvN_step K
  have p0 : 0 < 2 ^ S := Nat.two_pow_pos S
  refine ⟨by rw [hp]; exact cut_nonneg hin (Nat.le_refl _), ?_, ?_, ?_⟩
  · refine cut_lt_exact hin ?_
    rw [← hp]; unfold pos
    exact Nat.mul_lt_mul_of_pos_right (by omega) p0
  · have : cut x (midp S K) < 0 := by
      refine cut_lt_exact hin ?_
      rw [← hp]; unfold pos midp
      exact Nat.mul_lt_mul_of_pos_right (by omega) p0
    rw [decide_eq_false (by omega)]
  · rw [hp]; simp only [Bool.false_eq_true, if_false]
    rw [decide_eq_false h0]
theorem small_of {S : Nat} {x : Xn} {M L : Nat} {e : Int} {rest : Bool} (hS : 3925 ≤ S) (he : -5000 ≤ e) (hin : In x (2 ^ ((S : Int) + 1075 + e).toNat) M rest) (hL : LenIs M L) (hM : M ≠ 0) :
    decide ((L : Int) + e ≤ -1022) = decide (cut x (2 ^ (S + 53)) < 0) := by
  obtain ⟨h1, h2⟩ := hL
  have hL0 : L ≠ 0 := by
    intro h; subst h; simp at h1; omega
  by_cases c : (L : Int) + e ≤ -1022
  · have : cut x (2 ^ (S + 53)) < 0 := by
      refine cut_neg hin ?_
      refine Nat.le_trans (Nat.mul_le_mul_right _ (show M + 1 ≤ 2 ^ L from h1)) ?_
      rw [← Nat.pow_add]
      exact Nat.pow_le_pow_right (by decide) (by omega)
    rw [decide_eq_true c, decide_eq_true this]
  · have : 0 ≤ cut x (2 ^ (S + 53)) := by
      refine cut_nonneg hin ?_
      refine Nat.le_trans ?_ (Nat.mul_le_mul_right _ (show 2 ^ (L - 1) ≤ M by rcases h2 with h | h; exact absurd h hL0; exact h))
      rw [← Nat.pow_add]
      exact Nat.pow_le_pow_right (by decide) (by omega)
    rw [decide_eq_false c, decide_eq_false (by omega)]
end Go.Fb
namespace Go.Fb
open Go.Ev
set_option maxHeartbeats 2000000 in
theorem float_lo {x : RN} (hm : W2 x.m) {L : Nat} (hl : u2_Len x.m = (L : Int)) (hL : LenIs (n2 x.m) L) (hL2 : L ≤ 128) (hL0 : L ≠ 0) (he : -5000 ≤ x.e ∧ x.e ≤ 5000) (mode : Int) (hr : x.rest = false)
    {q : Int} (hq : q = imax ((L : Int) - 53 + x.e) (-1074)) (hq1 : (L : Int) - 53 + x.e ≤ q) (hq2 : -1074 ≤ q) (hq3 : q = (L : Int) - 53 + x.e ∨ q = -1074) {d : Nat} (hD : (d : Int) = x.e - q) {w : Nat} (hM : n2 x.m * 2 ^ d = w) :
    w < 9007199254740992 ∧ (q = -1074 ∨ 4503599627370496 ≤ w) ∧ Tr.Is (n_float_t x mode) (tail x.neg q w false false (decide ((L : Int) + x.e ≤ -1022)) (wayOf x.neg mode)) := by
  obtain ⟨h1, h2⟩ := hL
  have wlt : w < 9007199254740992 := by
    have : n2 x.m * 2 ^ d < 2 ^ L * 2 ^ d := Nat.mul_lt_mul_of_pos_right h1 (Nat.two_pow_pos d)
    rw [← Nat.pow_add] at this
    have t := Nat.pow_le_pow_right (n := 2) (by decide) (show L + d ≤ 53 by omega)
    rw [show (2 : Nat) ^ 53 = 9007199254740992 from rfl] at t
    omega
  have wge : q = -1074 ∨ 4503599627370496 ≤ w := by
    rcases hq3 with h | h
    · right
      have h3 : 2 ^ (L - 1) ≤ n2 x.m := by rcases h2 with h | h; exact absurd h hL0; exact h
      have : 2 ^ (L - 1) * 2 ^ d ≤ n2 x.m * 2 ^ d := Nat.mul_le_mul_right _ h3
      rw [← Nat.pow_add, show L - 1 + d = 52 by omega, show (2 : Nat) ^ 52 = 4503599627370496 from rfl] at this
      omega
    · exact .inl h
  refine ⟨wlt, wge, ?_⟩
  obtain ⟨s1, s2, s3⟩ := ushl_spec hm (n := d) (by omega)
  rw [hM, Nat.mod_eq_of_lt (by omega)] at s3
  unfold n_float_t n_float_T
  extract_lets t0 t1 t2 t3 t4 t5 t6 t7 t8 t9 t10 t11 t12 t13 t14 t15 t16 t17 t18 t19 t20 t21 t22 t23 t24 t25 t26 t27 t28 t29 t30 t31 t32 t33 t34 t35 t36 t37 t38 t39 t40 t41 t42 t43 t44 t45 t46 t47 t48 t49 t50 t51 t52 t53 t54 t55 t56 t57 t58 t59 t60
  have e3 : t3 = q := by
    show imax (IntKind.i64.wrap (IntKind.i64.wrap (u2_Len x.m - 53) + x.e)) (-1074) = q
    rw [hl, w64 (n := (L : Int) - 53) (by omega) (by omega), w64 (by omega) (by omega), hq]
  have e4 : t4 = -(d : Int) := by
    show IntKind.i64.wrap (t3 - x.e) = _
    rw [e3, w64 (by omega) (by omega)]; omega
  have e7 : t7 = (d : Int) := by
    show IntKind.i64.wrap (0 - t4) = _
    rw [e4, w64 (by omega) (by omega)]; omega
  have e10 : t10 = (w : Int) := by
    show (u2_Shl x.m t7).lo = _
    rw [e7, lo_small s2 (by rw [s3]; omega), s3]
  have e5 : t5 = decide ((L : Int) + x.e ≤ -1022) := by
    show decide (IntKind.i64.wrap (u2_Len x.m + x.e) ≤ -1022) = _
    rw [hl, w64 (by omega) (by omega)]
  have e29 : t29 = decide (q > 971) := by show decide (t3 > 971) = _; rw [e3]
  have e21 : t21 = decide (w / 4503599627370496 = 1) := by show (shrI .u64 t10 52 == 1) = _; rw [e10, shr52 (by omega)]
  have e13 : t13 = q + 1075 := by show IntKind.i64.wrap (IntKind.i64.wrap (t3 - (-1074)) + 1) = _; rw [e3, w64 (n := q - -1074) (by omega) (by omega), w64 (by omega) (by omega)]; omega
  have e22 : w < 4503599627370496 → t22 = fl x.neg w := fun h => by show (p_Make x.neg 0 (bitsI .and .u64 t10 4503599627370495)).fst = _; rw [e10, pack_sub h]
  have e53 : 4503599627370496 ≤ w → q ≤ 971 → t53 = fl x.neg (4503599627370496 * (q + 1075).toNat + (w - 4503599627370496)) := fun h h' => by
    show (p_Make x.neg t13 (bitsI .and .u64 t10 4503599627370495)).fst = _
    rw [e10, e13, show q + 1075 = (((q + 1075).toNat : Nat) : Int) by omega, pack_norm h wlt (by omega), Int.toNat_natCast]
  have eo := over_spec x mode
  have hu2 : upOf (decide (w % 2 = 1)) false false (wayOf x.neg mode) = false := by unfold upOf; split; rfl; split <;> rfl
  have eu : ∀ o, n_up x mode o false x.rest = false := fun o => by rw [up_spec, hr]; split; rfl; split <;> rfl
  have es : u2_Shl_s x.m t7 = true := by rw [e7]; exact s1
  have eq : (t10 == 9007199254740992) = false := by rw [e10]; exact beq_eq_false_iff_ne.2 (by omega)
  clear_value t5 t10 t18 t29 t21 t53 t22 t51 t37 t55 t39
  refine Tr.is_br_f (decide_eq_false (by omega)) (Tr.is_ast es (Tr.is_br_f (eu _) (Tr.is_br_f eq ?_)))
  by_cases o : q > 971
  · exact Tr.is_br_t (e29.trans (decide_eq_true o)) (Tr.is_leaf (eo.trans (tail_over (q := q) hu2 (by simp; omega)).symm))
  · refine Tr.is_br_f (e29.trans (decide_eq_false o)) (Tr.is_br_f hr ?_)
    by_cases g : w / 4503599627370496 = 1
    · exact Tr.is_br_t (e21.trans (decide_eq_true g)) (Tr.is_leaf (by rw [e53 (by omega) (by omega), tail_under (q := q) hu2 (K := 4503599627370496 * (q + 1075).toNat + (w - 4503599627370496)) (by simp; omega) (by omega)]; rfl))
    · exact Tr.is_br_f (e21.trans (decide_eq_false g)) (Tr.is_leaf (by rw [e22 (by omega), tail_under (q := q) hu2 (K := w) (by simp; omega) (by omega)]; rfl))
theorem float_is {x : RN} (hm : W2 x.m) (hp : n2 x.m ≠ 0) (he : -5000 ≤ x.e ∧ x.e ≤ 5000) (hr : x.rest = true → 9007199254740992 ≤ n2 x.m) (mode : Int) {S : Nat} {X : Xn} (hS : 3925 ≤ S)
    (hin : In X (2 ^ ((S : Int) + 1075 + x.e).toNat) (n2 x.m) x.rest) :
    ∃ K h r, Sit S X K h r ∧ Tr.Is (n_float_t x mode) (let a := rans K h r (decide (cut X (2 ^ (S + 53)) < 0)) (wayOf x.neg mode); (fl x.neg a.1, a.2)) := by
  obtain ⟨L, hl, hL⟩ := ulen_spec hm
  have hL0 : L ≠ 0 := by
    intro h; subst h; have := hL.1; simp at this; omega
  have hL2 : L ≤ 128 := by
    rcases hL.2 with h | h
    · omega
    · have := n2_lt hm
      have : ¬ 128 ≤ L - 1 := fun g => by
        have t := Nat.pow_le_pow_right (n := 2) (by decide) g
        rw [show (2 : Nat) ^ 128 = 340282366920938463463374607431768211456 from rfl] at t
        omega
      omega
  have hsm := small_of hS he.1 hin hL hp
  obtain ⟨q, hq, hq1, hq2, hq3⟩ : ∃ q : Int, q = imax ((L : Int) - 53 + x.e) (-1074) ∧ (L : Int) - 53 + x.e ≤ q ∧ -1074 ≤ q ∧ (q = (L : Int) - 53 + x.e ∨ q = -1074) := by
    refine ⟨_, rfl, ?_⟩
    unfold imax
    split <;> omega
  rw [← hsm]
  by_cases hd : q ≤ x.e
  · obtain ⟨d, hd⟩ := Int.eq_ofNat_of_zero_le (show 0 ≤ x.e - q by omega)
    have hrest : x.rest = false := by
      cases hx : x.rest with
      | false => rfl
      | true =>
        have h53 := hr hx
        have h1 := hL.1
        have : 53 < L := by
          rcases Nat.lt_or_ge 53 L with g | g
          · exact g
          · have t := Nat.pow_le_pow_right (n := 2) (by decide) g
            rw [show (2 : Nat) ^ 53 = 9007199254740992 from rfl] at t
            omega
        omega
    obtain ⟨w1, w2, w3⟩ := float_lo hm hl hL hL2 hL0 he mode hrest hq hq1 hq2 hq3 hd.symm rfl
    rw [hrest] at hin
    refine ⟨4503599627370496 * (q + 1074).toNat + n2 x.m * 2 ^ d, false, false, sit_lo hin ?_, w3⟩
    unfold pos
    rw [kv_of (by omega) (by omega), show ((S : Int) + 1075 + x.e).toNat = 1 + d + (q + 1074).toNat + S by omega, Nat.pow_add, Nat.pow_add, Nat.pow_add]
    simp only [Nat.pow_one, Nat.mul_assoc, Nat.mul_comm, Nat.mul_left_comm]
  · obtain ⟨D, hD⟩ := Int.eq_ofNat_of_zero_le (show 0 ≤ q - x.e - 1 by omega)
    have w3 := float_hi hm hl hL hL2 he mode hq hq1 hq2 hq3 (D := D) (by omega) rfl
    have wlt := keep_lt (D := D + 1) hL (by omega)
    have wge : q = -1074 ∨ 4503599627370496 ≤ n2 x.m / 2 ^ (D + 1) := by
      rcases hq3 with h | h
      · exact .inr (keep_ge hL (by omega))
      · exact .inl h
    refine ⟨4503599627370496 * (q + 1074).toNat + n2 x.m / 2 ^ (D + 1), _, _, sit_of hin rfl ?_ ?_ ?_, w3⟩
    all_goals generalize n2 x.m / 2 ^ (D + 1) = w at *
    · unfold pos
      rw [kv_of (by omega) (by omega), Nat.mul_assoc w, ← Nat.pow_add, show D + 1 + ((S : Int) + 1075 + x.e).toNat = (q + 1074).toNat + S + 1 by omega, Nat.pow_succ, Nat.pow_add]
      simp only [Nat.mul_comm, Nat.mul_left_comm]
    · unfold pos
      rw [Nat.add_assoc, kv_of (by omega) (by omega), Nat.mul_assoc (w + 1), ← Nat.pow_add, show D + 1 + ((S : Int) + 1075 + x.e).toNat = (q + 1074).toNat + S + 1 by omega, Nat.pow_succ, Nat.pow_add]
      simp only [Nat.mul_comm, Nat.mul_left_comm]
    · unfold midp
      rw [Nat.add_assoc, kv_of (by omega) (by omega), kv_of (by omega) (by omega), ← Nat.add_mul, Nat.mul_assoc (2 * w + 1), ← Nat.pow_add, show D + ((S : Int) + 1075 + x.e).toNat = (q + 1074).toNat + S by omega, Nat.pow_add, show w + (w + 1) = 2 * w + 1 by omega, Nat.mul_assoc]
end Go.Fb
namespace Go.Fb
open Go.Ev
structure XIs (x : RX) (A B : Nat) : Prop where
  a : bv x.a = A
  b : bv x.b = B
  la : x.a.length ≤ 20000
  lb : x.b.length ≤ 20000
  e1 : -5000 ≤ x.e
  e2 : x.e ≤ 5000
def xOf (S : Nat) (x : RX) : Xn := ⟨bv x.a * 2 ^ ((S : Int) + 1075 + x.e).toNat, bv x.b, x.rest⟩
end Go.Fb
namespace Go.Fb
open Go.Ev
end Go.Fb
namespace Go.Fb
open Go.Ev
theorem cut_strict {x : Xn} (hq : 0 < x.Q) {y z : Nat} (hyz : y < z) (h : 0 ≤ cut x z) : 0 < cut x y := by
  have := Nat.mul_lt_mul_of_pos_left hyz hq
  unfold cut at *
  split at h
  · omega
  · rw [if_neg (by omega), if_pos (by omega)]
    decide
theorem pos_lt_mid (S K : Nat) : pos S K < midp S K := by
  unfold pos midp
  have := kvN_step K
  exact Nat.mul_lt_mul_of_pos_right (by omega) (Nat.two_pow_pos S)
theorem sit_exact {S : Nat} {x : Xn} {K : Nat} {h r : Bool} (hs : Sit S x K h r) (hq : 0 < x.Q) : (cut x (pos S K) == 0) = !(h || r) := by
  obtain ⟨s1, s2, s3, s4⟩ := hs
  by_cases c : 0 ≤ cut x (midp S K)
  · have := cut_strict hq (pos_lt_mid S K) c
    rw [decide_eq_true c] at s3
    rw [s3, bf (by omega)]
    rfl
  · rw [decide_eq_false c] at s3
    subst s3
    rw [if_neg (by decide)] at s4
    by_cases d : 0 < cut x (pos S K)
    · rw [s4, decide_eq_true d, bf (by omega)]; rfl
    · rw [s4, decide_eq_false d, bt (by omega)]; rfl
theorem rans_under {K : Nat} {h r sm : Bool} {way : Int} {J : Nat} (hJ : K + (if upOf (decide (K % 2 = 1)) h r way then 1 else 0) = J) (hlt : J < 9218868437227405312) : rans K h r sm way = (J, flagsOf h r sm) := by
  have e : rkey K h r way = J := by rw [rkey_up, ← hJ]; split <;> rfl
  unfold rans
  simp only [e, if_neg (show ¬ 9218868437227405312 ≤ J by omega)]
  rfl
end Go.Fb
namespace Go.Fb
open Go.Ev
theorem rans_le {K : Nat} {h r sm : Bool} {way : Int} : (rans K h r sm way).1 ≤ 9218868437227405312 := by
  unfold rans
  split
  · dsimp only; split <;> omega
  · dsimp only; omega
def rnd (neg : Bool) (K : Nat) (h r sm : Bool) (mode : Int) : Int × Int := (fl neg (rans K h r sm (wayOf neg mode)).1, (rans K h r sm (wayOf neg mode)).2)
def smOf (S : Nat) (X : Xn) : Bool := decide (cut X (2 ^ (S + 53)) < 0)
def clampE (e : Int) : Int := imin (imax e (-5000)) 5000
theorem clamp_rng (e : Int) : -5000 ≤ clampE e ∧ clampE e ≤ 5000 := by unfold clampE imin imax; split <;> (try split) <;> omega
theorem clamp_in {e : Int} (h : -5000 ≤ e) (h2 : e ≤ 5000) : clampE e = e := by unfold clampE imin imax; split <;> (try split at *) <;> (try split) <;> omega
theorem len_53 {M L : Nat} (hL : LenIs M L) : decide ((L : Int) > 53) = decide (9007199254740992 ≤ M) := by
  obtain ⟨h1, h2⟩ := hL
  by_cases c : 53 < L
  · have t := Nat.pow_le_pow_right (n := 2) (by decide) (show 53 ≤ L - 1 by omega)
    rw [show (2 : Nat) ^ 53 = 9007199254740992 from rfl] at t
    rw [dt (by omega), dt (by rcases h2 with h | h <;> omega)]
  · have t := Nat.pow_le_pow_right (n := 2) (by decide) (show L ≤ 53 by omega)
    rw [show (2 : Nat) ^ 53 = 9007199254740992 from rfl] at t
    rw [df (by omega), df (by omega)]
theorem nround_zero {m : U2} (hm : W2 m) (h0 : n2 m = 0) (neg : Bool) (e : Int) (rest : Bool) (mode : Int) : Tr.Is (n_Round_t neg m e rest mode) (fl neg 0, 0) := by
  obtain ⟨L, hl, hL⟩ := ulen_spec hm
  have hL0 : L = 0 := by
    rcases hL.2 with h | h
    · exact h
    · have := Nat.two_pow_pos (L - 1); omega
  subst hL0
  unfold n_Round_t n_Round_T
  refine Tr.is_br_t (by rw [hl]; rfl) (Tr.is_leaf ?_)
  rw [zero_spec]
theorem nround_is {m : U2} (hm : W2 m) (h0 : n2 m ≠ 0) (neg : Bool) (e : Int) (rest : Bool) (mode : Int) {S : Nat} {X : Xn} (hS : 3925 ≤ S)
    (hin : In X (2 ^ ((S : Int) + 1075 + clampE e).toNat) (n2 m) (rest && decide (9007199254740992 ≤ n2 m))) :
    ∃ K h r, Sit S X K h r ∧ Tr.Is (n_Round_t neg m e rest mode) (rnd neg K h r (smOf S X) mode) := by
  obtain ⟨L, hl, hL⟩ := ulen_spec hm
  have hL0 : L ≠ 0 := by
    intro h; subst h; have := hL.1; simp at this; omega
  have l53 := len_53 hL
  rw [← hl] at l53
  obtain ⟨K, h, r, hs, ht⟩ := float_is (x := ⟨neg, m, clampE e, rest && decide (9007199254740992 ≤ n2 m)⟩) hm h0 (clamp_rng e) (fun h => by simp at h; exact h.2) mode hS hin
  refine ⟨K, h, r, hs, ?_⟩
  unfold n_Round_t n_Round_T
  refine Tr.is_br_f (by rw [hl]; exact bf (by omega)) ?_
  rw [l53]
  cases rest with
  | true => exact Tr.is_br_t rfl (Tr.is_ast ht.2 (Tr.is_leaf ht.1))
  | false => exact Tr.is_br_f rfl (Tr.is_ast ht.2 (Tr.is_leaf ht.1))
def xInt (S M : Nat) (e : Int) (rest : Bool) : Xn := ⟨M * 2 ^ ((S : Int) + 1075 + e).toNat, 1, rest⟩
theorem xInt_in (S M : Nat) (e : Int) (rest : Bool) : In (xInt S M e rest) (2 ^ ((S : Int) + 1075 + e).toNat) M rest := by
  have p := Nat.two_pow_pos ((S : Int) + 1075 + e).toNat
  refine ⟨Nat.one_pos, p, ?_, ?_, ?_⟩
  · unfold xInt; simp
  · unfold xInt; dsimp only; rw [Nat.one_mul]; exact Nat.mul_lt_mul_of_pos_right (by omega) p
  · unfold xInt; dsimp only; rw [Nat.one_mul]
    exact ⟨fun h => .inl h, fun h => by rcases h with h | h; exact h; exact absurd h (Nat.lt_irrefl _)⟩
end Go.Fb
namespace Go.Fb
open Go.Ev
def xQ (S N D : Nat) : Xn := ⟨N * 2 ^ (S + 1075), D, false⟩
theorem cut_scale {P Q g : Nat} {c : Bool} (hg : 0 < g) (y : Nat) : cut ⟨P * g, Q * g, c⟩ y = cut ⟨P, Q, c⟩ y := by
  unfold cut
  dsimp only
  rw [Nat.mul_right_comm]
  simp only [Nat.mul_lt_mul_right hg]
theorem xQ_scale {S N D g : Nat} (hg : 0 < g) (y : Nat) : cut (xQ S (N * g) (D * g)) y = cut (xQ S N D) y := by
  unfold xQ
  rw [Nat.mul_right_comm]
  exact cut_scale hg y
theorem sit_congr {S : Nat} {X Y : Xn} (h : ∀ y, cut X y = cut Y y) {K : Nat} {a b : Bool} : Sit S X K a b → Sit S Y K a b := by
  unfold Sit
  simp only [h]
  exact id
theorem in_div {N D q l a c V U : Nat} (ha : 0 < a) (hV : 0 < V) (hU0 : 0 < U) (hD : 0 < D) (hU : U * a = V * c) (h : N * a = D * c * q + l) (hl : l < D * c) : In ⟨N * V, D, false⟩ U q (decide (l ≠ 0)) := by
  have e : ∀ t, D * (t * U) * a = (D * c * t) * V := fun t => by
    calc D * (t * U) * a = D * t * (U * a) := by simp only [Nat.mul_assoc]
      _ = D * t * (V * c) := by rw [hU]
      _ = _ := by simp only [Nat.mul_comm, Nat.mul_left_comm]
  have en : N * V * a = (D * c * q + l) * V := by rw [← h]; simp only [Nat.mul_comm, Nat.mul_left_comm]
  refine ⟨hD, hU0, ?_, ?_, ?_⟩
  · refine Nat.le_of_mul_le_mul_right (c := a) ?_ ha
    dsimp only
    rw [e, en]
    exact Nat.mul_le_mul_right _ (by omega)
  · refine Nat.lt_of_mul_lt_mul_right (a := a) ?_
    dsimp only
    rw [e, en]
    refine Nat.mul_lt_mul_of_pos_right ?_ hV
    rw [Nat.mul_add, Nat.mul_one]; omega
  · dsimp only
    constructor
    · intro hh
      have hl0 : l ≠ 0 := of_decide_eq_true hh
      right
      refine Nat.lt_of_mul_lt_mul_right (a := a) ?_
      rw [e, en]
      exact Nat.mul_lt_mul_of_pos_right (by omega) hV
    · rintro (hh | hh)
      · contradiction
      · refine decide_eq_true fun h0 => ?_
        have := Nat.mul_lt_mul_of_pos_right hh ha
        rw [e, en, h0] at this
        exact Nat.lt_irrefl _ this
end Go.Fb
