/- Layer 7: the laws hold, in plain Lean. Conditions: as each theorem states. -/
import Derived.Test.YtggmmkdfgjnjfaaCl
import Derived.Test.YtggmmkdfgjnjfaaCp
namespace Go.Fb
open Go.Ev
theorem works7 : l7_works = true ∧ l7_works_s = true := by decide +kernel
end Go.Fb
namespace Go.Fb
open Go.Ev
theorem pre7 {t : Tr Bool} (h : Tr.Is t true) : Tr.Is (.ast l7_works_s (.br (!l7_works) (.leaf false) t)) true :=
  Tr.is_ast works7.2 (Tr.is_br_f (by rw [works7.1]; rfl) h)
theorem toV_rng {s : Bool} {k N : Nat} (_h2 : N ≤ 64) : -((2 ^ (N - 1) : Nat) : Int) ≤ (toV s k N).1 ∧ (toV s k N).1 < ((2 ^ (N - 1) : Nat) : Int) := by
  have p := Nat.two_pow_pos (N - 1)
  unfold toV
  generalize 2 ^ (N - 1) = M at *
  split
  · dsimp only; omega
  · split
    · dsimp only; omega
    · dsimp only
      rename_i h
      cases s
      · simp only [Bool.false_eq_true, if_false]
        have : ¬ (M < iP k) := fun g => h (.inl g)
        have : ¬ (iP k = M) := fun g => h (.inr ⟨g, rfl⟩)
        omega
      · simp only [if_true]
        have : ¬ (M < iP k) := fun g => h (.inl g)
        omega
theorem to64_spec {s : Bool} {k : Nat} (hk : k < 9223372036854775808) : Tr.Is (c_ToInt64_t (fl s k)) (toV s k 64) := by
  have t := to_spec (s := s) hk (N := 64) (by omega) (by omega)
  exact Tr.is_ast t.2 (Tr.is_leaf t.1)
end Go.Fb
namespace Go.Fb
open Go.Ev
def upW (s : Bool) (mode : Int) (h m odd : Bool) : Bool := if mode == 1 then (h || m) && !s else if mode == 2 then (h || m) && s else h && (m || odd)
def upM (t3 t4 h m s odd : Bool) : Bool := if t3 then (h || m) && !s else if t4 then (h || m) && s else h && (m || odd)
/-- what a float is rounded to as a whole number -/
def wholeV (s : Bool) (k : Nat) (mode : Int) : Int × Int :=
  if upW s mode (hP k) (mP k) (decide (iP k % 2 = 1)) then ((n_Round s ⟨0, ((iP k + 1 : Nat) : Int)⟩ 0 false 0).fst, if hP k || mP k then 1 else 0)
  else ((n_Round s ⟨0, (iP k : Int)⟩ 0 false 0).fst, if hP k || mP k then 1 else 0)
theorem nround_safe {m : U2} (hm : W2 m) (neg : Bool) (e : Int) (rest : Bool) (mode : Int) : n_Round_s neg m e rest mode = true := by
  by_cases h0 : n2 m = 0
  · exact (nround_zero hm h0 neg e rest mode).2
  · obtain ⟨K, h, r, hs, a⟩ := nround_is hm h0 neg e rest mode (S := 3925) (Nat.le_refl _) (xInt_in _ _ _ _)
    exact a.2
theorem w2_lo {n : Nat} (h : n < 18446744073709551616) : W2 ⟨0, (n : Int)⟩ := by unfold W2 Wd; dsimp only; omega
def progW (t5 t6 t3 t4 t7 t8 t9 t11 t13 : Bool) (t12 t14 : Int) : Tr (Int × Int) :=
  (Tr.br t5
    (Tr.br t5
      (Tr.br t6
        (Tr.br t3 (Tr.br t8 (Tr.ast t13 (Tr.leaf (t14, 1))) (Tr.ast t11 (Tr.leaf (t12, 1))))
          (Tr.br t4 (Tr.br t7 (Tr.ast t13 (Tr.leaf (t14, 1))) (Tr.ast t11 (Tr.leaf (t12, 1))))
            (Tr.ast t13 (Tr.leaf (t14, 1)))))
        (Tr.br t3 (Tr.br t8 (Tr.ast t13 (Tr.leaf (t14, 1))) (Tr.ast t11 (Tr.leaf (t12, 1))))
          (Tr.br t4 (Tr.br t7 (Tr.ast t13 (Tr.leaf (t14, 1))) (Tr.ast t11 (Tr.leaf (t12, 1))))
            (Tr.br t9 (Tr.ast t13 (Tr.leaf (t14, 1))) (Tr.ast t11 (Tr.leaf (t12, 1)))))))
      (Tr.br t3 (Tr.br t8 (Tr.ast t13 (Tr.leaf (t14, 1))) (Tr.ast t11 (Tr.leaf (t12, 1))))
        (Tr.br t4 (Tr.br t7 (Tr.ast t13 (Tr.leaf (t14, 1))) (Tr.ast t11 (Tr.leaf (t12, 1))))
          (Tr.ast t11 (Tr.leaf (t12, 1))))))
    (Tr.br t5
      (Tr.br t6
        (Tr.br t3
          (Tr.br t6
            (Tr.br t8 (Tr.ast t13 (Tr.br t6 (Tr.leaf (t14, 1)) (Tr.leaf (t14, 0))))
              (Tr.ast t11 (Tr.br t6 (Tr.leaf (t12, 1)) (Tr.leaf (t12, 0)))))
            (Tr.ast t11 (Tr.br t6 (Tr.leaf (t12, 1)) (Tr.leaf (t12, 0)))))
          (Tr.br t4
            (Tr.br t6
              (Tr.br t7 (Tr.ast t13 (Tr.br t6 (Tr.leaf (t14, 1)) (Tr.leaf (t14, 0))))
                (Tr.ast t11 (Tr.br t6 (Tr.leaf (t12, 1)) (Tr.leaf (t12, 0)))))
              (Tr.ast t11 (Tr.br t6 (Tr.leaf (t12, 1)) (Tr.leaf (t12, 0)))))
            (Tr.ast t13 (Tr.br t6 (Tr.leaf (t14, 1)) (Tr.leaf (t14, 0))))))
        (Tr.br t3
          (Tr.br t6
            (Tr.br t8 (Tr.ast t13 (Tr.br t6 (Tr.leaf (t14, 1)) (Tr.leaf (t14, 0))))
              (Tr.ast t11 (Tr.br t6 (Tr.leaf (t12, 1)) (Tr.leaf (t12, 0)))))
            (Tr.ast t11 (Tr.br t6 (Tr.leaf (t12, 1)) (Tr.leaf (t12, 0)))))
          (Tr.br t4
            (Tr.br t6
              (Tr.br t7 (Tr.ast t13 (Tr.br t6 (Tr.leaf (t14, 1)) (Tr.leaf (t14, 0))))
                (Tr.ast t11 (Tr.br t6 (Tr.leaf (t12, 1)) (Tr.leaf (t12, 0)))))
              (Tr.ast t11 (Tr.br t6 (Tr.leaf (t12, 1)) (Tr.leaf (t12, 0)))))
            (Tr.br t9 (Tr.ast t13 (Tr.br t6 (Tr.leaf (t14, 1)) (Tr.leaf (t14, 0))))
              (Tr.ast t11 (Tr.br t6 (Tr.leaf (t12, 1)) (Tr.leaf (t12, 0))))))))
      (Tr.br t3
        (Tr.br t6
          (Tr.br t8 (Tr.ast t13 (Tr.br t6 (Tr.leaf (t14, 1)) (Tr.leaf (t14, 0))))
            (Tr.ast t11 (Tr.br t6 (Tr.leaf (t12, 1)) (Tr.leaf (t12, 0)))))
          (Tr.ast t11 (Tr.br t6 (Tr.leaf (t12, 1)) (Tr.leaf (t12, 0)))))
        (Tr.br t4
          (Tr.br t6
            (Tr.br t7 (Tr.ast t13 (Tr.br t6 (Tr.leaf (t14, 1)) (Tr.leaf (t14, 0))))
              (Tr.ast t11 (Tr.br t6 (Tr.leaf (t12, 1)) (Tr.leaf (t12, 0)))))
            (Tr.ast t11 (Tr.br t6 (Tr.leaf (t12, 1)) (Tr.leaf (t12, 0)))))
          (Tr.ast t11 (Tr.br t6 (Tr.leaf (t12, 1)) (Tr.leaf (t12, 0))))))))
theorem progW_is (t5 t6 t3 t4 t7 t9 : Bool) (t12 t14 : Int) : Tr.Is (progW t5 t6 t3 t4 t7 (!t7) t9 true true t12 t14)
    (if upM t3 t4 t5 t6 t7 t9 then (t14, if t5 || t6 then (1 : Int) else 0) else (t12, if t5 || t6 then (1 : Int) else 0)) := by
  unfold progW
  cases t5 <;> cases t6 <;> cases t3 <;> cases t4 <;> cases t7 <;> cases t9 <;> exact ⟨rfl, rfl⟩
theorem whole_neg {s : Bool} {k : Nat} (h : k < 9218868437227405312) (he : expo k < 0) (mode : Int) : Tr.Is (c_Whole_t (fl s k) mode) (wholeV s k mode) := by
  have hk : k < 9223372036854775808 := by omega
  have cs := class_spec (s := s) hk
  have cc := cls_cases k
  have sp := split_spec (s := s) hk
  have hs := iP_small h he
  obtain ⟨u1, u2, u3⟩ := cut_spec (s := s) h
  have u := u2 (by omega)
  unfold wholeV c_Whole_t c_Whole_T
  rw [cs, sp, u, shr_sign hk]
  dsimp only
  rw [and1 (by omega), u64i (by omega) (by omega), nround_safe (w2_lo (by omega)), show (iP k : Int) + 1 = ((iP k + 1 : Nat) : Int) by omega, nround_safe (w2_lo (by omega))]
  refine Tr.is_br_f (bf (by omega)) (Tr.is_br_f (bf (by omega)) (Tr.is_br_f (df (by omega)) (Tr.is_ast u1 ?_)))
  exact progW_is (hP k) (mP k) (mode == 1) (mode == 2) s (decide (iP k % 2 = 1)) _ _
end Go.Fb
namespace Go.Fb
open Go.Ev
def wholeS (s : Bool) (k : Nat) (mode : Int) : Int × Int :=
  if 9218868437227405312 < k then (9221120237041090560, 0) else if k = 9218868437227405312 ∨ 0 ≤ expo k then (fl s k, 0) else wholeV s k mode
theorem whole_spec {s : Bool} {k : Nat} (hk : k < 9223372036854775808) (mode : Int) : Tr.Is (c_Whole_t (fl s k) mode) (wholeS s k mode) := by
  have cs := class_spec (s := s) hk
  have cc := cls_cases k
  have sp := split_spec (s := s) hk
  unfold wholeS
  by_cases h1 : 9218868437227405312 < k
  · rw [if_pos h1]
    unfold c_Whole_t c_Whole_T
    rw [cs]
    exact Tr.is_br_t (bt (by omega)) (Tr.is_leaf rfl)
  · rw [if_neg h1]
    by_cases h2 : k = 9218868437227405312
    · rw [if_pos (.inl h2)]
      unfold c_Whole_t c_Whole_T
      rw [cs]
      exact Tr.is_br_f (bf (by omega)) (Tr.is_br_t (bt (by omega)) (Tr.is_leaf rfl))
    · by_cases h3 : 0 ≤ expo k
      · rw [if_pos (.inr h3)]
        unfold c_Whole_t c_Whole_T
        rw [cs, sp]
        exact Tr.is_br_f (bf (by omega)) (Tr.is_br_f (bf (by omega)) (Tr.is_br_t (dt h3) (Tr.is_leaf rfl)))
      · rw [if_neg (by rintro (g | g); exact h2 g; exact h3 g)]
        exact whole_neg (by omega) (by omega) mode
end Go.Fb
namespace Go.Fb
open Go.Ev
theorem int_key {M : Nat} (h : M ≤ 9007199254740992) : ∃ K, K < 9218868437227405312 ∧ kvN K = M * 2 ^ TT ∧ (K = 0 ↔ M = 0) := by
  by_cases h0 : M = 0
  · exact ⟨0, by omega, by rw [h0, kvN_zero, Nat.zero_mul], by omega⟩
  · by_cases h1 : M = 9007199254740992
    · refine ⟨4503599627370496 * TT + 9007199254740992, by rw [tt_eq]; omega, ?_, by omega⟩
      rw [kv_of (by omega) (.inr (by omega)), h1]
    · have hl : ∃ L, LenIs M L := by
        obtain ⟨o1, L, l1, l2⟩ := rlen_spec (a := r6_bits (M : Int)) (by have := (rbits6_spec (m := M) (by omega)).2.2.2; omega)
        rw [(rbits6_spec (m := M) (by omega)).2.1] at l2
        exact ⟨L, l2⟩
      obtain ⟨L, l1, l2⟩ := hl
      have hL : L ≤ 53 := lenIs_le ⟨l1, l2⟩ (m := 53) (by omega)
      have hL0 : L ≠ 0 := by intro g; subst g; simp at l1; omega
      have l3 : 2 ^ (L - 1) ≤ M := by rcases l2 with g | g; exact absurd g hL0; exact g
      have w1 : M * 2 ^ (53 - L) < 9007199254740992 := by
        have := Nat.mul_lt_mul_of_pos_right l1 (Nat.two_pow_pos (53 - L))
        rw [← Nat.pow_add, show L + (53 - L) = 53 by omega] at this
        exact this
      have w2 : 4503599627370496 ≤ M * 2 ^ (53 - L) := by
        have := Nat.mul_le_mul_right (2 ^ (53 - L)) l3
        rw [← Nat.pow_add, show L - 1 + (53 - L) = 52 by omega] at this
        exact this
      refine ⟨4503599627370496 * (TT - (53 - L)) + M * 2 ^ (53 - L), by rw [tt_eq]; omega, ?_, by omega⟩
      rw [kv_of (by omega) (.inr w2), Nat.mul_assoc, ← Nat.pow_add]
      congr 2
      rw [tt_eq]; omega
theorem fv_int {s : Bool} {K M : Nat} (hK : K < 9218868437227405312) (h : kvN K = M * 2 ^ TT) : fv s K = dy s M 0 := by
  rw [fvTT hK, h]
  have := rq_scale s (two_nz TT) (n := M) (d := 1)
  rw [Nat.one_mul] at this
  rw [this]
  show rq s M 1 = rq s (1 * M) 1
  rw [Nat.one_mul]
theorem round_int {M : Nat} (h : M ≤ 9007199254740992) (s : Bool) (mode : Int) : ∃ K, K < 9218868437227405312 ∧ kvN K = M * 2 ^ TT ∧ Tr.Is (n_Round_t s ⟨0, (M : Int)⟩ 0 false mode) (fl s K, 0) := by
  obtain ⟨K, k1, k2, k3⟩ := int_key h
  refine ⟨K, k1, k2, ?_⟩
  by_cases h0 : M = 0
  · rw [k3.2 h0]
    exact nround_zero (w2_lo (by omega)) (by rw [n2_lo, h0]) s 0 false mode
  · obtain ⟨v, v1, v2⟩ := nround_exact (w2_lo (n := M) (by omega)) (by rw [n2_lo]; exact h0) s (e := 0) (by omega) (by omega) mode
    rw [n2_lo, ← fv_int k1 k2] at v2
    rw [(v2.unique (exF_fv k1 (fun g => h0 (k3.1 g)) mode))] at v1
    exact v1
theorem cmpQ_rq {s : Bool} {A V D : Nat} (hD : D ≠ 0) : cmpQ (rq s A D) (rq s V D) = cmpZ (sg s A) (sg s V) := by
  unfold cmpZ
  by_cases h1 : sg s A < sg s V
  · rw [if_pos h1, cmpQ_lt ((rq_lt hD).2 h1)]
  · by_cases h2 : sg s A > sg s V
    · rw [if_neg h1, if_pos h2, cmpQ_gt ((rq_lt hD).2 h2)]
    · have h3 : A = V := by
        unfold sg at h1 h2
        cases s
        · simp only [Bool.false_eq_true, if_false] at h1 h2; omega
        · simp only [if_true] at h1 h2; omega
      rw [if_neg h1, if_neg h2, h3, cmpQ_eq rfl]
theorem near_one {s : Bool} {A V D : Nat} (hD : D ≠ 0) (h1 : A < V + D) (h2 : V < A + D) : decide (cmpQ (absQ (rq s A D - rq s V D)) 1 ≥ 0) = false := by
  have e : rq s A D - rq s V D = rq (decide (sg s A + sg (!s) V < 0)) (sg s A + sg (!s) V).natAbs D := by
    rw [Rat.sub_eq_add_neg, ← rq_negate, rq_add_same hD, mkRat_rq]
  have e1 : (1 : Rat) = rq false D D := by
    have := rq_scale false hD (n := 1) (d := 1)
    rw [Nat.one_mul] at this
    rw [this]; rfl
  rw [e, ← rq_false, e1, cmpQ_lt ((rq_lt hD).2 ?_)]
  · rfl
  · unfold sg
    cases s
    · simp only [Bool.false_eq_true, if_false, Bool.not_false, if_true]; omega
    · simp only [Bool.false_eq_true, if_false, Bool.not_true, if_true]; omega
theorem whole_facts {s : Bool} {k : Nat} (hk : k < 9218868437227405312) (mode : Int) : ∃ K, (wholeS s k mode).1 = fl s K ∧ K < 9218868437227405312 ∧ kvN K < kvN k + 2 ^ TT ∧ kvN k < kvN K + 2 ^ TT ∧ (wholeS s k mode).2 = (if kvN K = kvN k then 0 else 1) ∧
    (mode = 1 → sg s (kvN k) ≤ sg s (kvN K)) ∧ (mode = 2 → sg s (kvN K) ≤ sg s (kvN k)) := by
  have pT := Nat.two_pow_pos TT
  by_cases he : 0 ≤ expo k
  · refine ⟨k, ?_⟩
    unfold wholeS
    rw [if_neg (by omega), if_pos (.inr he)]
    exact ⟨rfl, hk, by omega, by omega, by rw [if_pos rfl], fun _ => Int.le_refl _, fun _ => Int.le_refl _⟩
  · have hs := iP_small hk (by omega)
    have hfr := frac_iff k
    have hdm : kvN k = iP k * 2 ^ TT + fP k := by
      have := Nat.div_add_mod (kvN k) (2 ^ TT)
      unfold iP fP
      rw [Nat.mul_comm] at this
      exact this.symm
    have hlt : fP k < 2 ^ TT := Nat.mod_lt _ pT
    have eS : wholeS s k mode = wholeV s k mode := by
      unfold wholeS
      rw [if_neg (by omega), if_neg (by rintro (g | g); omega; exact he g)]
    have ebt : ∀ z : Int, (if hP k || mP k then (1 : Int) else 0) = (if fP k = 0 then 0 else 1) := fun _ => by
      by_cases g : fP k = 0
      · rw [if_pos g, (hfr.1 g).1, (hfr.1 g).2]; rfl
      · rw [if_neg g]
        cases q1 : hP k with
        | true => rfl
        | false =>
          cases q2 : mP k with
          | true => rfl
          | false => exact absurd (hfr.2 ⟨q1, q2⟩) g
    rw [eS]
    unfold wholeV
    rw [ebt 0]
    cases hu : upW s mode (hP k) (mP k) (decide (iP k % 2 = 1)) with
    | true =>
      obtain ⟨K, k1, k2, k3⟩ := round_int (M := iP k + 1) (by omega) s 0
      have e : n_Round s ⟨0, ((iP k + 1 : Nat) : Int)⟩ 0 false 0 = (fl s K, 0) := k3.1
      have hF : fP k ≠ 0 := fun g => by
        rw [(hfr.1 g).1, (hfr.1 g).2] at hu
        unfold upW at hu
        revert hu
        cases (mode == 1) <;> cases (mode == 2) <;> exact fun q => absurd q (by simp)
      rw [Nat.add_mul, Nat.one_mul] at k2
      refine ⟨K, ?_, k1, by omega, by omega, ?_, fun hm => ?_, fun hm => ?_⟩
      · simp only [if_true]; rw [e]
      · simp only [if_true]; rw [if_neg hF, if_neg (by omega)]
      · subst hm
        have : s = false := by
          unfold upW at hu
          cases s
          · rfl
          · revert hu; simp
        subst this
        unfold sg; simp only [Bool.false_eq_true, if_false]; omega
      · subst hm
        have : s = true := by
          unfold upW at hu
          cases s
          · revert hu; simp
          · rfl
        subst this
        unfold sg; simp only [if_true]; omega
    | false =>
      obtain ⟨K, k1, k2, k3⟩ := round_int (M := iP k) (by omega) s 0
      have e : n_Round s ⟨0, (iP k : Int)⟩ 0 false 0 = (fl s K, 0) := k3.1
      refine ⟨K, ?_, k1, by omega, by omega, ?_, fun hm => ?_, fun hm => ?_⟩
      · simp only [Bool.false_eq_true, if_false]; rw [e]
      · simp only [Bool.false_eq_true, if_false]
        by_cases g : fP k = 0
        · rw [if_pos g, if_pos (by omega)]
        · rw [if_neg g, if_neg (by omega)]
      · subst hm
        by_cases g : fP k = 0
        · have : kvN K = kvN k := by omega
          rw [this]; exact Int.le_refl _
        · have hb : (hP k || mP k) = true := by
            have := ebt 0
            rw [if_neg g] at this
            cases q : (hP k || mP k) with
            | true => rfl
            | false => rw [q] at this; exact absurd this (by decide)
          have : s = true := by
            unfold upW at hu
            rw [hb] at hu
            cases s
            · revert hu; simp
            · rfl
          subst this
          unfold sg; simp only [if_true]; omega
      · subst hm
        by_cases g : fP k = 0
        · have : kvN K = kvN k := by omega
          rw [this]; exact Int.le_refl _
        · have hb : (hP k || mP k) = true := by
            have := ebt 0
            rw [if_neg g] at this
            cases q : (hP k || mP k) with
            | true => rfl
            | false => rw [q] at this; exact absurd this (by decide)
          have : s = false := by
            unfold upW at hu
            rw [hb] at hu
            cases s
            · rfl
            · revert hu; simp
          subst this
          unfold sg; simp only [Bool.false_eq_true, if_false]; omega
end Go.Fb
namespace Go.Fb
open Go.Ev
/-- an answer's tree, from where both are looked at -/
theorem near_tail {s : Bool} {k K : Nat} (hk : k < 9218868437227405312) (hK : K < 9218868437227405312) (h1 : kvN K < kvN k + 2 ^ TT) (h2 : kvN k < kvN K + 2 ^ TT) {a b : RR} (ha : RIs a (fv s K) 300) (hb : RIs b (fv s k) 300) :
    q_Sub_s a b = true ∧ q_Abs_s (q_Sub a b) = true ∧ q_Cmp_s (q_Abs (q_Sub a b)) (q_Int 1) = true ∧ decide (q_Cmp (q_Abs (q_Sub a b)) (q_Int 1) ≥ 0) = false ∧ q_Cmp_s a b = true ∧ q_Cmp a b = cmpZ (sg s (kvN K)) (sg s (kvN k)) := by
  obtain ⟨s1, s2⟩ := qsub_spec ha.RW hb.RW (by omega) (by omega)
  obtain ⟨a1, a2⟩ := abs_spec s2.RW (by omega) (by omega)
  obtain ⟨o1, o2⟩ := qint_spec (x := 1) (by omega)
  have o3 := o2.le (show 2 ≤ 2 * 300 + 1 by omega)
  obtain ⟨c1, c2⟩ := qcmp_spec a2.RW o3.RW (by omega) (by omega)
  obtain ⟨d1, d2⟩ := qcmp_spec ha.RW hb.RW (by omega) (by omega)
  rw [a2.val, o3.val, s2.val, ha.val, hb.val, fvTT hK, fvTT hk] at c2
  rw [ha.val, hb.val, fvTT hK, fvTT hk, cmpQ_rq (two_nz TT)] at d2
  refine ⟨s1, a1, c1, ?_, d1, d2⟩
  rw [c2]
  exact near_one (two_nz TT) h1 h2
theorem cmpZ_ne {s : Bool} {A V : Nat} : (cmpZ (sg s A) (sg s V) != 0) = !decide (A = V) := by
  unfold cmpZ sg
  cases s
  · simp only [Bool.false_eq_true, if_false]
    by_cases h1 : A < V
    · rw [if_pos (by omega), df (by omega)]; rfl
    · by_cases h2 : A > V
      · rw [if_neg (by omega), if_pos (by omega), df (by omega)]; rfl
      · rw [if_neg (by omega), if_neg (by omega), dt (by omega)]; rfl
  · simp only [if_true]
    by_cases h1 : V < A
    · rw [if_pos (by omega), df (by omega)]; rfl
    · by_cases h2 : V > A
      · rw [if_neg (by omega), if_pos (by omega), df (by omega)]; rfl
      · rw [if_neg (by omega), if_neg (by omega), dt (by omega)]; rfl
theorem flag_eq {A V : Nat} : ((if A = V then (0 : Int) else 1) == 1) = !decide (A = V) := by
  by_cases h : A = V
  · rw [if_pos h, dt h]; rfl
  · rw [if_neg h, df h]; rfl
theorem int_rq (s : Bool) (I : Nat) : (((if s then -(I : Int) else (I : Int)) : Int) : Rat) = rq s (I * 2 ^ TT) (2 ^ TT) := by
  have := rq_scale s (two_nz TT) (n := I) (d := 1)
  rw [Nat.one_mul] at this
  rw [this]
  unfold rq sg
  cases s
  · simp only [Bool.false_eq_true, if_false]
    rw [Rat.mkRat_one]
  · simp only [if_true]
    rw [Rat.mkRat_one]
theorem ConvNear_both {f : Int} (hf : Wd f) {mode : Int} : l_ConvNear f mode = true ∧ l_ConvNear_s f mode = true := by
  obtain ⟨s, k, hk, rfl⟩ := fl_of hf
  suffices h : Tr.Is (l_ConvNear_t (fl s k) mode) true from h
  refine pre7 ?_
  by_cases hf : k < 9218868437227405312
  case neg =>
    obtain ⟨v1, v2⟩ := value_none (s := s) hk (by omega)
    exact Tr.is_ast v1 (Tr.is_br_t (by rw [v2]; rfl) (Tr.is_leaf works7.1))
  obtain ⟨v1, b, v2, v3⟩ := value_spec (s := s) hf
  obtain ⟨o1, o2⟩ := qint_spec (x := 1) (by omega)
  have t64 := to64_spec (s := s) hk
  have e64 : c_ToInt64 (fl s k) = toV s k 64 := t64.1
  have tw := whole_spec (s := s) hk mode
  have ew : c_Whole (fl s k) mode = wholeS s k mode := tw.1
  obtain ⟨K, w1, w2, w3, w4, w5, w6, w7⟩ := whole_facts (s := s) hf mode
  obtain ⟨u1, a, u2, u3⟩ := value_spec (s := s) w2
  obtain ⟨n1, n2, n3, n4, n5, n6⟩ := near_tail hf w2 w3 w4 u3 v3
  have hle : ∀ x y : Int, x ≤ y → decide (cmpZ x y ≤ 0) = true := fun x y h => by unfold cmpZ; exact dt (by split; omega; split <;> omega)
  have hge : ∀ x y : Int, y ≤ x → decide (cmpZ x y ≥ 0) = true := fun x y h => by unfold cmpZ; exact dt (by split; omega; split <;> omega)
  have back : Tr.Is (Tr.ast (c_Whole_s (fl s k) mode) (Tr.ast (p_Value_s (c_Whole (fl s k) mode).fst) (Tr.br (!(p_Value (c_Whole (fl s k) mode).fst).snd) (Tr.leaf false)
      (Tr.ast (q_Sub_s (p_Value (c_Whole (fl s k) mode).fst).fst b) (Tr.ast (q_Abs_s (q_Sub (p_Value (c_Whole (fl s k) mode).fst).fst b))
        (Tr.ast (q_Cmp_s (q_Abs (q_Sub (p_Value (c_Whole (fl s k) mode).fst).fst b)) (q_Int 1))
          (Tr.br (decide (q_Cmp (q_Abs (q_Sub (p_Value (c_Whole (fl s k) mode).fst).fst b)) (q_Int 1) ≥ 0)) (Tr.leaf false)
            (Tr.ast (q_Cmp_s (p_Value (c_Whole (fl s k) mode).fst).fst b)
              (Tr.br (!((c_Whole (fl s k) mode).snd == 1) == (q_Cmp (p_Value (c_Whole (fl s k) mode).fst).fst b != 0)) (Tr.leaf false)
                (Tr.ast (q_Cmp_s (p_Value (c_Whole (fl s k) mode).fst).fst b)
                  (Tr.br l7_works
                    (Tr.br (mode != 1)
                      (Tr.br (mode != 2) (Tr.leaf true) (Tr.leaf (decide (q_Cmp (p_Value (c_Whole (fl s k) mode).fst).fst b ≤ 0))))
                      (Tr.br (decide (q_Cmp (p_Value (c_Whole (fl s k) mode).fst).fst b ≥ 0))
                        (Tr.br (mode != 2) (Tr.leaf true) (Tr.leaf (decide (q_Cmp (p_Value (c_Whole (fl s k) mode).fst).fst b ≤ 0))))
                        (Tr.leaf false)))
                    (Tr.leaf false)))))))))))) true := by
    refine Tr.is_ast tw.2 ?_
    rw [ew, w1, w5, u2]
    dsimp only
    refine Tr.is_ast u1 (Tr.is_br_f rfl (Tr.is_ast n1 (Tr.is_ast n2 (Tr.is_ast n3 (Tr.is_br_f n4 (Tr.is_ast n5 ?_))))))
    rw [n6, flag_eq, cmpZ_ne]
    refine Tr.is_br_f (by cases decide (kvN K = kvN k) <;> rfl) (Tr.is_ast n5 (Tr.is_br_t works7.1 ?_))
    by_cases m1 : mode = 1
    · have := hge _ _ (w6 m1)
      refine Tr.is_br_f (nbf m1) (Tr.is_br_t this (Tr.is_br_t (nbt (by omega)) (Tr.is_leaf rfl)))
    · refine Tr.is_br_t (nbt m1) ?_
      by_cases m2 : mode = 2
      · exact Tr.is_br_f (nbf m2) (Tr.is_leaf (hle _ _ (w7 m2)))
      · exact Tr.is_br_t (nbt m2) (Tr.is_leaf rfl)
  refine Tr.is_ast v1 (Tr.is_br_f (by rw [v2]; rfl) (Tr.is_ast o1 (Tr.is_ast t64.2 ?_)))
  rw [v2, e64]
  dsimp only
  by_cases hbad : 2 ^ (64 - 1) < iP k ∨ (iP k = 2 ^ (64 - 1) ∧ s = false)
  · have ev : toV s k 64 = (0, 16) := by unfold toV; rw [if_neg (by omega), if_pos hbad]
    rw [ev]
    exact Tr.is_br_f rfl back
  · have ev : toV s k 64 = (if s then -(iP k : Int) else (iP k : Int), if fP k = 0 then 0 else 1) := by unfold toV; rw [if_neg (by omega), if_neg hbad]
    have rg := toV_rng (s := s) (k := k) (N := 64) (by omega)
    rw [ev] at rg ⊢
    dsimp only at rg ⊢
    obtain ⟨i1, i2⟩ := qint_spec (x := if s then -(iP k : Int) else (iP k : Int)) (by
      rw [show ((2 ^ (64 - 1) : Nat) : Int) = 9223372036854775808 from rfl] at rg
      omega)
    rw [int_rq] at i2
    have pT := Nat.two_pow_pos TT
    have hdm : kvN k = iP k * 2 ^ TT + fP k := by
      have := Nat.div_add_mod (kvN k) (2 ^ TT)
      unfold iP fP
      rw [Nat.mul_comm] at this
      exact this.symm
    have hlt : fP k < 2 ^ TT := Nat.mod_lt _ pT
    have i3 := i2.le (show 2 ≤ 300 by omega)
    obtain ⟨s1, s2⟩ := qsub_spec i3.RW v3.RW (by omega) (by omega)
    obtain ⟨a1, a2⟩ := abs_spec s2.RW (by omega) (by omega)
    have o3 := o2.le (show 2 ≤ 2 * 300 + 1 by omega)
    obtain ⟨c1, c2⟩ := qcmp_spec a2.RW o3.RW (by omega) (by omega)
    obtain ⟨d1, d2⟩ := qcmp_spec i3.RW v3.RW (by omega) (by omega)
    obtain ⟨x1, x2⟩ := abs_spec i3.RW (by omega) (by omega)
    obtain ⟨y1, y2⟩ := abs_spec v3.RW (by omega) (by omega)
    obtain ⟨z1, z2⟩ := qcmp_spec x2.RW y2.RW (by omega) (by omega)
    rw [a2.val, o3.val, s2.val, i3.val, v3.val, fvTT hf] at c2
    rw [i3.val, v3.val, fvTT hf, cmpQ_rq (two_nz TT)] at d2
    rw [x2.val, y2.val, i3.val, v3.val, fvTT hf, ← rq_false, ← rq_false, cmpQ_rq (two_nz TT)] at z2
    have nz : ((if fP k = 0 then (0 : Int) else 1) != 16) = true := by split <;> rfl
    have hc : decide (q_Cmp (q_Abs (q_Sub (q_Int (if s then -(iP k : Int) else (iP k : Int))) b)) (q_Int 1) ≥ 0) = false := by
      rw [c2]; exact near_one (two_nz TT) (by omega) (by omega)
    have hz : decide (q_Cmp (q_Abs (q_Int (if s then -(iP k : Int) else (iP k : Int)))) (q_Abs b) > 0) = false := by
      rw [z2]
      unfold cmpZ sg
      simp only [Bool.false_eq_true, if_false]
      exact df (by split; omega; split <;> omega)
    have hflag : (!((if fP k = 0 then (0 : Int) else 1) == 1) == (q_Cmp (q_Int (if s then -(iP k : Int) else (iP k : Int))) b != 0)) = false := by
      rw [d2, cmpZ_ne]
      by_cases g : fP k = 0
      · rw [if_pos g, dt (show iP k * 2 ^ TT = kvN k by omega)]; rfl
      · rw [if_neg g, df (show ¬ iP k * 2 ^ TT = kvN k by omega)]; rfl
    exact Tr.is_br_t nz (Tr.is_ast i1 (Tr.is_ast s1 (Tr.is_ast a1 (Tr.is_ast c1 (Tr.is_br_f hc (Tr.is_ast x1 (Tr.is_ast y1 (Tr.is_ast z1 (Tr.is_br_f hz (Tr.is_ast d1 (Tr.is_br_f hflag back)))))))))))
end Go.Fb
