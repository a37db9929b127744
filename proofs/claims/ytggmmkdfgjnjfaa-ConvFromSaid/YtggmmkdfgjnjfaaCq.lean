/- Layer 7: the laws hold, in plain Lean. Conditions: as each theorem states. -/
import Derived.Test.YtggmmkdfgjnjfaaCl
import Derived.Test.YtggmmkdfgjnjfaaCp
namespace Go.Fb
open Go.Ev
theorem works7 : l7_works = true ∧ l7_works_s = true := by decide +kernel
end Go.Fb
namespace Go.Fb
open Go.Ev
theorem pre7 {t : Tr Bool} (h : Tr.Is t true) : Tr.Is (.ast l7_works_s (.br (!l7_works) (.leaf false) t)) true :=
  Tr.is_ast works7.2 (Tr.is_br_f (by rw [works7.1]; rfl) h)
theorem rto_spec {s : Bool} {k : Nat} (hk : k < 9223372036854775808) {N : Nat} (h1 : 1 ≤ N) (h2 : N ≤ 64) : Tr.Is (r7_To_t (fl s k) (N : Int)) (toV s k N) := by
  have fi := finite_spec (s := s) hk
  have ws : IntKind.i64.wrap ((N : Int) - 1) = ((N - 1 : Nat) : Int) := by rw [w64 (by omega) (by omega)]; omega
  unfold r7_To_t r7_To_T toV
  rw [fi, ws, shr_sign hk]
  by_cases hf : k < 9218868437227405312
  · rw [if_neg (by omega)]
    obtain ⟨p1, w, p2, p3, p4⟩ := parts7_spec (s := s) hf
    have pw : 2 ^ (N - 1) ≤ 9223372036854775808 := by
      have := Nat.pow_le_pow_right (n := 2) (by decide) (show N - 1 ≤ 63 by omega)
      rwa [show (2 : Nat) ^ 63 = 9223372036854775808 from rfl] at this
    have s1 := shl_spec (a := [true]) (n := N - 1) (by simp) (by omega)
    have s2 := bv_shl (a := [true]) (n := N - 1) (by simp) (by omega)
    have s3 : (r1_Shl [true] ((N - 1 : Nat) : Int)).length ≤ 100 := by rw [s1.1]; simp; omega
    rw [show bv [true] = 1 from rfl, Nat.mul_one] at s2
    obtain ⟨c1, c2⟩ := cmp_spec (a := w) (b := r1_Shl [true] ((N - 1 : Nat) : Int)) (by omega) (by omega)
    rw [s2, p3] at c1
    obtain ⟨x1, x2⟩ := words1_spec (b := w) (by omega)
    rw [p3] at x1
    rw [p2]
    dsimp only
    rw [c1]
    refine Tr.is_br_f (by rw [dt hf]; rfl) (Tr.is_ast p1 (Tr.is_ast s1.2 (Tr.is_ast c2 ?_)))
    generalize 2 ^ (N - 1) = M at *
    generalize iP k = I at *
    generalize fP k = F at *
    by_cases g1 : M < I
    · rw [if_pos (.inl g1)]
      exact Tr.is_br_t (dt (by unfold cmpN; rw [if_neg (by omega), if_neg (by omega)]; decide)) (Tr.is_leaf rfl)
    · have fr : ∀ b : Bool, (if F = 0 then (0 : Int) else 1) = if decide (F ≠ 0) then 1 else 0 := fun b => by
        by_cases g : F = 0
        · rw [if_pos g, df (by omega)]; rfl
        · rw [if_neg g, dt g]; rfl
      have hm : I % 18446744073709551616 = I := Nat.mod_eq_of_lt (by omega)
      rw [hm] at x1
      have e0 : (r1_Words w 1).getD (Int.toNat 0) 0 = (I : Int) := by rw [x1]; rfl
      have el : decide (0 < ((r1_Words w 1).length : Int)) = true := by rw [x1]; rfl
      clear x1
      have rest : (I = M → s = true) → ∀ b : Bool, b = s → Tr.Is (Tr.ast (r1_Words_s w 1) (Tr.ast (decide (0 < ((r1_Words w 1).length : Int)))
          (Tr.br b
            (Tr.br (decide (F ≠ 0)) (Tr.leaf (IntKind.i64.wrap (0 - IntKind.i64.wrap ((r1_Words w 1).getD (Int.toNat 0) 0)), 1))
              (Tr.leaf (IntKind.i64.wrap (0 - IntKind.i64.wrap ((r1_Words w 1).getD (Int.toNat 0) 0)), 0)))
            (Tr.br (decide (F ≠ 0)) (Tr.leaf (IntKind.i64.wrap ((r1_Words w 1).getD (Int.toNat 0) 0), 1))
              (Tr.leaf (IntKind.i64.wrap ((r1_Words w 1).getD (Int.toNat 0) 0), 0))))))
          (if s then -(I : Int) else (I : Int), if F = 0 then (0 : Int) else 1) := by
        intro hs b hb
        subst hb
        refine Tr.is_ast x2 (Tr.is_ast el ?_)
        rw [e0, wrap_neg2 (by omega), fr b]
        cases b with
        | true => cases decide (F ≠ 0) <;> exact ⟨rfl, rfl⟩
        | false =>
          have hlt : I < M := by
            rcases Nat.lt_or_ge (I) M with g | g
            · exact g
            · exact absurd (hs (by omega)) (by decide)
          rw [w64 (by omega) (by omega)]
          cases decide (F ≠ 0) <;> exact ⟨rfl, rfl⟩
      by_cases g2 : I = M
      · have ce : cmpN (I) M = 0 := by unfold cmpN; rw [if_neg (by omega), if_pos g2]
        rw [ce]
        refine Tr.is_br_f (by decide) (Tr.is_br_t rfl ?_)
        cases hs : s with
        | false =>
          rw [if_pos (.inr ⟨g2, rfl⟩)]
          exact Tr.is_br_t rfl (Tr.is_leaf rfl)
        | true =>
          rw [if_neg (by rintro (g | ⟨_, g⟩); omega; exact absurd g (by decide))]
          subst hs
          exact Tr.is_br_f rfl (rest (fun _ => rfl) true rfl)
      · have ce : cmpN (I) M = -1 := by unfold cmpN; rw [if_pos (by omega)]
        rw [ce, if_neg (by omega)]
        exact Tr.is_br_f (by decide) (Tr.is_br_f (by decide) (rest (fun g => absurd g g2) s rfl))
  · rw [if_pos (by omega)]
    exact Tr.is_br_t (by rw [df hf]; rfl) (Tr.is_leaf rfl)
theorem toV_rng {s : Bool} {k N : Nat} (_h2 : N ≤ 64) : -((2 ^ (N - 1) : Nat) : Int) ≤ (toV s k N).1 ∧ (toV s k N).1 < ((2 ^ (N - 1) : Nat) : Int) := by
  have p := Nat.two_pow_pos (N - 1)
  unfold toV
  generalize 2 ^ (N - 1) = M at *
  split
  · dsimp only; omega
  · split
    · dsimp only; omega
    · dsimp only
      rename_i h
      cases s
      · simp only [Bool.false_eq_true, if_false]
        have : ¬ (M < iP k) := fun g => h (.inl g)
        have : ¬ (iP k = M) := fun g => h (.inr ⟨g, rfl⟩)
        omega
      · simp only [if_true]
        have : ¬ (M < iP k) := fun g => h (.inl g)
        omega
theorem to32_spec {s : Bool} {k : Nat} (hk : k < 9223372036854775808) : Tr.Is (c_ToInt32_t (fl s k)) (toV s k 32) := by
  have t := to_spec (s := s) hk (N := 32) (by omega) (by omega)
  have e : c_to (fl s k) 32 = toV s k 32 := t.1
  have r := toV_rng (s := s) (k := k) (N := 32) (by omega)
  rw [show ((2 ^ (32 - 1) : Nat) : Int) = 2147483648 from rfl] at r
  refine Tr.is_ast t.2 (Tr.is_leaf ?_)
  rw [e]
  refine Prod.ext ?_ rfl
  show IntKind.i32.wrap (toV s k 32).1 = (toV s k 32).1
  generalize (toV s k 32).1 = x at *
  simp only [IntKind.wrap, IntKind.bits, IntKind.signed]
  simp
  omega
theorem to64_spec {s : Bool} {k : Nat} (hk : k < 9223372036854775808) : Tr.Is (c_ToInt64_t (fl s k)) (toV s k 64) := by
  have t := to_spec (s := s) hk (N := 64) (by omega) (by omega)
  exact Tr.is_ast t.2 (Tr.is_leaf t.1)
theorem ConvTo_both {f : Int} (hf : Wd f) : l_ConvTo f = true ∧ l_ConvTo_s f = true := by
  obtain ⟨s, k, hk, rfl⟩ := fl_of hf
  have a := to32_spec (s := s) hk
  have b := to64_spec (s := s) hk
  have c := rto_spec (s := s) hk (N := 32) (by omega) (by omega)
  have d := rto_spec (s := s) hk (N := 64) (by omega) (by omega)
  have e1 : c_ToInt32 (fl s k) = toV s k 32 := a.1
  have e2 : c_ToInt64 (fl s k) = toV s k 64 := b.1
  have e3 : r7_To (fl s k) 32 = toV s k 32 := c.1
  have e4 : r7_To (fl s k) 64 = toV s k 64 := d.1
  have r := toV_rng (s := s) (k := k) (N := 32) (by omega)
  rw [show ((2 ^ (32 - 1) : Nat) : Int) = 2147483648 from rfl] at r
  suffices h : Tr.Is (l_ConvTo_t (fl s k)) true from h
  refine pre7 (Tr.is_ast a.2 (Tr.is_ast c.2 (Tr.is_ast b.2 (Tr.is_ast d.2 (Tr.is_br_t works7.1 ?_)))))
  rw [e1, e2, e3, e4]
  first
  | exact Tr.is_br_t (bt rfl) (Tr.is_br_t (bt rfl) (Tr.is_br_t (bt rfl) (Tr.is_leaf (bt rfl))))
  | (rw [w64 (by omega) (by omega)]; exact Tr.is_br_t (bt rfl) (Tr.is_br_t (bt rfl) (Tr.is_br_t (bt rfl) (Tr.is_leaf (bt rfl)))))
/-- an integer's magnitude as a word -/
theorem mag_word {x : Int} (h : -9223372036854775808 ≤ x ∧ x ≤ 9223372036854775807) : (x < 0 → IntKind.u64.wrap (0 - IntKind.u64.wrap x) = (x.natAbs : Int)) ∧ (¬ x < 0 → IntKind.u64.wrap x = (x.natAbs : Int)) := by
  constructor
  · intro g; rw [u64w, u64w]; omega
  · intro g; rw [u64w]; omega
theorem from_tree {x : Int} (h : -9223372036854775808 ≤ x ∧ x ≤ 9223372036854775807) {mode : Int} {v : Int × Int} (t : Tr.Is (n_Round_t (decide (x < 0)) ⟨0, (x.natAbs : Int)⟩ 0 false mode) v) : Tr.Is (c_FromInt_t x mode) v := by
  obtain ⟨m1, m2⟩ := mag_word h
  unfold c_FromInt_t c_FromInt_T
  by_cases g : x < 0
  · rw [m1 g]
    exact Tr.is_br_t (dt g) (Tr.is_ast t.2 (Tr.is_leaf t.1))
  · rw [m2 g]
    exact Tr.is_br_f (df g) (Tr.is_ast t.2 (Tr.is_leaf t.1))
theorem ConvFrom_both {x : Int} (h : -9223372036854775808 ≤ x ∧ x ≤ 9223372036854775807) {mode : Int} : l_ConvFrom x mode = true ∧ l_ConvFrom_s x mode = true := by
  have hw : Wd (x.natAbs : Int) := by unfold Wd; omega
  obtain ⟨o1, o2, o3⟩ := of1_spec hw
  rw [Int.toNat_natCast] at o3
  obtain ⟨a1, a2, a3⟩ := round_both (m := ⟨0, (x.natAbs : Int)⟩) (b := r1_Of1 (x.natAbs : Int)) ⟨by unfold Wd; dsimp only; omega, hw⟩ (by omega) (by rw [o3, n2_lo]) (decide (x < 0)) 0 false mode
  have t1 := from_tree h (mode := mode) (v := n_Round (decide (x < 0)) ⟨0, (x.natAbs : Int)⟩ 0 false mode) ⟨rfl, a1⟩
  have e1 : c_FromInt x mode = _ := t1.1
  have t2 : Tr.Is (r7_FromInt_t x mode) (n_Round (decide (x < 0)) ⟨0, (x.natAbs : Int)⟩ 0 false mode) := by
    obtain ⟨m1, m2⟩ := mag_word h
    unfold r7_FromInt_t r7_FromInt_T
    by_cases g : x < 0
    · rw [m1 g]
      exact Tr.is_br_t (dt g) (Tr.is_ast o1 (Tr.is_ast a2 (Tr.is_leaf a3.symm)))
    · rw [m2 g]
      exact Tr.is_br_f (df g) (Tr.is_ast o1 (Tr.is_ast a2 (Tr.is_leaf a3.symm)))
  have e2 : r7_FromInt x mode = _ := t2.1
  suffices h : Tr.Is (l_ConvFrom_t x mode) true from h
  refine pre7 (Tr.is_ast t1.2 (Tr.is_ast t2.2 (Tr.is_br_t works7.1 ?_)))
  rw [e1, e2]
  exact Tr.is_br_t (bt rfl) (Tr.is_leaf (bt rfl))
end Go.Fb
namespace Go.Fb
open Go.Ev
def upW (s : Bool) (mode : Int) (h m odd : Bool) : Bool := if mode == 1 then (h || m) && !s else if mode == 2 then (h || m) && s else h && (m || odd)
def upM (t3 t4 h m s odd : Bool) : Bool := if t3 then (h || m) && !s else if t4 then (h || m) && s else h && (m || odd)
/-- what a float is rounded to as a whole number -/
def wholeV (s : Bool) (k : Nat) (mode : Int) : Int × Int :=
  if upW s mode (hP k) (mP k) (decide (iP k % 2 = 1)) then ((n_Round s ⟨0, ((iP k + 1 : Nat) : Int)⟩ 0 false 0).fst, if hP k || mP k then 1 else 0)
  else ((n_Round s ⟨0, (iP k : Int)⟩ 0 false 0).fst, if hP k || mP k then 1 else 0)
theorem nround_safe {m : U2} (hm : W2 m) (neg : Bool) (e : Int) (rest : Bool) (mode : Int) : n_Round_s neg m e rest mode = true := by
  by_cases h0 : n2 m = 0
  · exact (nround_zero hm h0 neg e rest mode).2
  · obtain ⟨K, h, r, hs, a⟩ := nround_is hm h0 neg e rest mode (S := 3925) (Nat.le_refl _) (xInt_in _ _ _ _)
    exact a.2
theorem w2_lo {n : Nat} (h : n < 18446744073709551616) : W2 ⟨0, (n : Int)⟩ := by unfold W2 Wd; dsimp only; omega
def progW (t5 t6 t3 t4 t7 t8 t9 t11 t13 : Bool) (t12 t14 : Int) : Tr (Int × Int) :=
  (Tr.br t5
    (Tr.br t5
      (Tr.br t6
        (Tr.br t3 (Tr.br t8 (Tr.ast t13 (Tr.leaf (t14, 1))) (Tr.ast t11 (Tr.leaf (t12, 1))))
          (Tr.br t4 (Tr.br t7 (Tr.ast t13 (Tr.leaf (t14, 1))) (Tr.ast t11 (Tr.leaf (t12, 1))))
            (Tr.ast t13 (Tr.leaf (t14, 1)))))
        (Tr.br t3 (Tr.br t8 (Tr.ast t13 (Tr.leaf (t14, 1))) (Tr.ast t11 (Tr.leaf (t12, 1))))
          (Tr.br t4 (Tr.br t7 (Tr.ast t13 (Tr.leaf (t14, 1))) (Tr.ast t11 (Tr.leaf (t12, 1))))
            (Tr.br t9 (Tr.ast t13 (Tr.leaf (t14, 1))) (Tr.ast t11 (Tr.leaf (t12, 1)))))))
      (Tr.br t3 (Tr.br t8 (Tr.ast t13 (Tr.leaf (t14, 1))) (Tr.ast t11 (Tr.leaf (t12, 1))))
        (Tr.br t4 (Tr.br t7 (Tr.ast t13 (Tr.leaf (t14, 1))) (Tr.ast t11 (Tr.leaf (t12, 1))))
          (Tr.ast t11 (Tr.leaf (t12, 1))))))
    (Tr.br t5
      (Tr.br t6
        (Tr.br t3
          (Tr.br t6
            (Tr.br t8 (Tr.ast t13 (Tr.br t6 (Tr.leaf (t14, 1)) (Tr.leaf (t14, 0))))
              (Tr.ast t11 (Tr.br t6 (Tr.leaf (t12, 1)) (Tr.leaf (t12, 0)))))
            (Tr.ast t11 (Tr.br t6 (Tr.leaf (t12, 1)) (Tr.leaf (t12, 0)))))
          (Tr.br t4
            (Tr.br t6
              (Tr.br t7 (Tr.ast t13 (Tr.br t6 (Tr.leaf (t14, 1)) (Tr.leaf (t14, 0))))
                (Tr.ast t11 (Tr.br t6 (Tr.leaf (t12, 1)) (Tr.leaf (t12, 0)))))
              (Tr.ast t11 (Tr.br t6 (Tr.leaf (t12, 1)) (Tr.leaf (t12, 0)))))
            (Tr.ast t13 (Tr.br t6 (Tr.leaf (t14, 1)) (Tr.leaf (t14, 0))))))
        (Tr.br t3
          (Tr.br t6
            (Tr.br t8 (Tr.ast t13 (Tr.br t6 (Tr.leaf (t14, 1)) (Tr.leaf (t14, 0))))
              (Tr.ast t11 (Tr.br t6 (Tr.leaf (t12, 1)) (Tr.leaf (t12, 0)))))
            (Tr.ast t11 (Tr.br t6 (Tr.leaf (t12, 1)) (Tr.leaf (t12, 0)))))
          (Tr.br t4
            (Tr.br t6
              (Tr.br t7 (Tr.ast t13 (Tr.br t6 (Tr.leaf (t14, 1)) (Tr.leaf (t14, 0))))
                (Tr.ast t11 (Tr.br t6 (Tr.leaf (t12, 1)) (Tr.leaf (t12, 0)))))
              (Tr.ast t11 (Tr.br t6 (Tr.leaf (t12, 1)) (Tr.leaf (t12, 0)))))
            (Tr.br t9 (Tr.ast t13 (Tr.br t6 (Tr.leaf (t14, 1)) (Tr.leaf (t14, 0))))
              (Tr.ast t11 (Tr.br t6 (Tr.leaf (t12, 1)) (Tr.leaf (t12, 0))))))))
      (Tr.br t3
        (Tr.br t6
          (Tr.br t8 (Tr.ast t13 (Tr.br t6 (Tr.leaf (t14, 1)) (Tr.leaf (t14, 0))))
            (Tr.ast t11 (Tr.br t6 (Tr.leaf (t12, 1)) (Tr.leaf (t12, 0)))))
          (Tr.ast t11 (Tr.br t6 (Tr.leaf (t12, 1)) (Tr.leaf (t12, 0)))))
        (Tr.br t4
          (Tr.br t6
            (Tr.br t7 (Tr.ast t13 (Tr.br t6 (Tr.leaf (t14, 1)) (Tr.leaf (t14, 0))))
              (Tr.ast t11 (Tr.br t6 (Tr.leaf (t12, 1)) (Tr.leaf (t12, 0)))))
            (Tr.ast t11 (Tr.br t6 (Tr.leaf (t12, 1)) (Tr.leaf (t12, 0)))))
          (Tr.ast t11 (Tr.br t6 (Tr.leaf (t12, 1)) (Tr.leaf (t12, 0))))))))
theorem progW_is (t5 t6 t3 t4 t7 t9 : Bool) (t12 t14 : Int) : Tr.Is (progW t5 t6 t3 t4 t7 (!t7) t9 true true t12 t14)
    (if upM t3 t4 t5 t6 t7 t9 then (t14, if t5 || t6 then (1 : Int) else 0) else (t12, if t5 || t6 then (1 : Int) else 0)) := by
  unfold progW
  cases t5 <;> cases t6 <;> cases t3 <;> cases t4 <;> cases t7 <;> cases t9 <;> exact ⟨rfl, rfl⟩
def refW0 (t3 t4 t5 t8 ta tb tr : Bool) (t11 t12 : Int) (X : Tr (Int × Int)) : Tr (Int × Int) :=
  (Tr.br t4
    (Tr.br t5
      (Tr.br (!t8)
        (Tr.ast ta
          (Tr.ast tb (Tr.br t5 (Tr.leaf (t12, 1)) (Tr.leaf (t12, 0)))))
        (Tr.ast tr (Tr.br t5 (Tr.leaf (t11, 1)) (Tr.leaf (t11, 0)))))
      (Tr.ast tr (Tr.br t5 (Tr.leaf (t11, 1)) (Tr.leaf (t11, 0)))))
    (Tr.br t3
      (Tr.br t5
        (Tr.br t8
          (Tr.ast ta
            (Tr.ast tb (Tr.br t5 (Tr.leaf (t12, 1)) (Tr.leaf (t12, 0)))))
          (Tr.ast tr (Tr.br t5 (Tr.leaf (t11, 1)) (Tr.leaf (t11, 0)))))
        (Tr.ast tr (Tr.br t5 (Tr.leaf (t11, 1)) (Tr.leaf (t11, 0)))))
      X))
theorem refW0_is (t3 t4 t5 t8 u : Bool) (t11 t12 : Int) {X : Tr (Int × Int)} (hX : Tr.Is X (if u then (t12, if t5 then (1 : Int) else 0) else (t11, if t5 then (1 : Int) else 0))) :
    Tr.Is (refW0 t3 t4 t5 t8 true true true t11 t12 X) (if (if t4 then t5 && !t8 else if t3 then t5 && t8 else u) then (t12, if t5 then (1 : Int) else 0) else (t11, if t5 then (1 : Int) else 0)) := by
  unfold refW0
  cases t4
  · cases t3
    · exact hX
    · cases t5 <;> cases t8 <;> exact ⟨rfl, rfl⟩
  · cases t5 <;> cases t8 <;> exact ⟨rfl, rfl⟩
def xUp (t5 ta tb : Bool) (t12 : Int) : Tr (Int × Int) := Tr.ast ta (Tr.ast tb (Tr.br t5 (Tr.leaf (t12, 1)) (Tr.leaf (t12, 0))))
def xNo (t5 tr : Bool) (t11 : Int) : Tr (Int × Int) := Tr.ast tr (Tr.br t5 (Tr.leaf (t11, 1)) (Tr.leaf (t11, 0)))
theorem xUp_is (t5 : Bool) (t12 : Int) (t11 : Int) : Tr.Is (xUp t5 true true t12) (if true then (t12, if t5 then (1 : Int) else 0) else (t11, if t5 then (1 : Int) else 0)) := by cases t5 <;> exact ⟨rfl, rfl⟩
theorem xNo_is (t5 : Bool) (t12 : Int) (t11 : Int) : Tr.Is (xNo t5 true t11) (if false then (t12, if t5 then (1 : Int) else 0) else (t11, if t5 then (1 : Int) else 0)) := by cases t5 <;> exact ⟨rfl, rfl⟩
/-- the document's tree -/
def refW (t3 t4 t5 t8 t9 t10 tl tl2 od ta tb tr : Bool) (t11 t12 : Int) : Tr (Int × Int) :=
  Tr.br tl
    (Tr.ast tl2
      (Tr.br t10 (refW0 t3 t4 t5 t8 ta tb tr t11 t12 (xUp t5 ta tb t12))
        (Tr.br t9 (refW0 t3 t4 t5 t8 ta tb tr t11 t12 (Tr.br od (xUp t5 ta tb t12) (xNo t5 tr t11)))
          (refW0 t3 t4 t5 t8 ta tb tr t11 t12 (xNo t5 tr t11)))))
    (Tr.br t10 (refW0 t3 t4 t5 t8 ta tb tr t11 t12 (xUp t5 ta tb t12))
      (Tr.br t9 (refW0 t3 t4 t5 t8 ta tb tr t11 t12 (xNo t5 tr t11))
        (refW0 t3 t4 t5 t8 ta tb tr t11 t12 (xNo t5 tr t11))))
theorem refW_is (t3 t4 t5 t8 t9 t10 tl od : Bool) (t11 t12 : Int) : Tr.Is (refW t3 t4 t5 t8 t9 t10 tl tl od true true true t11 t12)
    (if (if t4 then t5 && !t8 else if t3 then t5 && t8 else t10 || (t9 && (tl && od))) then (t12, if t5 then (1 : Int) else 0) else (t11, if t5 then (1 : Int) else 0)) := by
  unfold refW
  cases tl
  · refine Tr.is_br_f rfl ?_
    cases t10
    · refine Tr.is_br_f rfl ?_
      cases t9
      · exact Tr.is_br_f rfl (refW0_is _ _ _ _ false _ _ (xNo_is _ _ _))
      · exact Tr.is_br_t rfl (refW0_is _ _ _ _ false _ _ (xNo_is _ _ _))
    · exact Tr.is_br_t rfl (refW0_is _ _ _ _ true _ _ (xUp_is _ _ _))
  · refine Tr.is_br_t rfl (Tr.is_ast rfl ?_)
    cases t10
    · refine Tr.is_br_f rfl ?_
      cases t9
      · exact Tr.is_br_f rfl (refW0_is _ _ _ _ false _ _ (xNo_is _ _ _))
      · refine Tr.is_br_t rfl ?_
        cases od
        · exact refW0_is _ _ _ _ false _ _ (Tr.is_br_f rfl (xNo_is _ _ _))
        · exact refW0_is _ _ _ _ true _ _ (Tr.is_br_t rfl (xUp_is _ _ _))
    · exact Tr.is_br_t rfl (refW0_is _ _ _ _ true _ _ (xUp_is _ _ _))
theorem whole_neg {s : Bool} {k : Nat} (h : k < 9218868437227405312) (he : expo k < 0) (mode : Int) : Tr.Is (c_Whole_t (fl s k) mode) (wholeV s k mode) := by
  have hk : k < 9223372036854775808 := by omega
  have cs := class_spec (s := s) hk
  have cc := cls_cases k
  have sp := split_spec (s := s) hk
  have hs := iP_small h he
  obtain ⟨u1, u2, u3⟩ := cut_spec (s := s) h
  have u := u2 (by omega)
  unfold wholeV c_Whole_t c_Whole_T
  rw [cs, sp, u, shr_sign hk]
  dsimp only
  rw [and1 (by omega), u64i (by omega) (by omega), nround_safe (w2_lo (by omega)), show (iP k : Int) + 1 = ((iP k + 1 : Nat) : Int) by omega, nround_safe (w2_lo (by omega))]
  refine Tr.is_br_f (bf (by omega)) (Tr.is_br_f (bf (by omega)) (Tr.is_br_f (df (by omega)) (Tr.is_ast u1 ?_)))
  exact progW_is (hP k) (mP k) (mode == 1) (mode == 2) s (decide (iP k % 2 = 1)) _ _
end Go.Fb
namespace Go.Fb
open Go.Ev
def wholeS (s : Bool) (k : Nat) (mode : Int) : Int × Int :=
  if 9218868437227405312 < k then (9221120237041090560, 0) else if k = 9218868437227405312 ∨ 0 ≤ expo k then (fl s k, 0) else wholeV s k mode
theorem whole_spec {s : Bool} {k : Nat} (hk : k < 9223372036854775808) (mode : Int) : Tr.Is (c_Whole_t (fl s k) mode) (wholeS s k mode) := by
  have cs := class_spec (s := s) hk
  have cc := cls_cases k
  have sp := split_spec (s := s) hk
  unfold wholeS
  by_cases h1 : 9218868437227405312 < k
  · rw [if_pos h1]
    unfold c_Whole_t c_Whole_T
    rw [cs]
    exact Tr.is_br_t (bt (by omega)) (Tr.is_leaf rfl)
  · rw [if_neg h1]
    by_cases h2 : k = 9218868437227405312
    · rw [if_pos (.inl h2)]
      unfold c_Whole_t c_Whole_T
      rw [cs]
      exact Tr.is_br_f (bf (by omega)) (Tr.is_br_t (bt (by omega)) (Tr.is_leaf rfl))
    · by_cases h3 : 0 ≤ expo k
      · rw [if_pos (.inr h3)]
        unfold c_Whole_t c_Whole_T
        rw [cs, sp]
        exact Tr.is_br_f (bf (by omega)) (Tr.is_br_f (bf (by omega)) (Tr.is_br_t (dt h3) (Tr.is_leaf rfl)))
      · rw [if_neg (by rintro (g | g); exact h2 g; exact h3 g)]
        exact whole_neg (by omega) (by omega) mode
theorem cmp_half (k : Nat) : decide (cmpN (fP k) (2 ^ (TT - 1)) > 0) = (hP k && mP k) ∧ (cmpN (fP k) (2 ^ (TT - 1)) == 0) = (hP k && !mP k) ∧ decide (fP k ≠ 0) = (hP k || mP k) := by
  have t1 : TT = (TT - 1) + 1 := by rw [tt_eq]
  have h1 : fP k = 2 ^ (TT - 1) * (kvN k / 2 ^ (TT - 1) % 2) + kvN k % 2 ^ (TT - 1) := by
    unfold fP
    rw [t1, Nat.pow_succ, Nat.mod_mul, ← t1]; omega
  have h2 := Nat.mod_lt (kvN k) (Nat.two_pow_pos (TT - 1))
  unfold hP mP
  rw [h1]
  have b := Nat.mod_two_eq_zero_or_one (kvN k / 2 ^ (TT - 1))
  have p := Nat.two_pow_pos (TT - 1)
  generalize kvN k / 2 ^ (TT - 1) % 2 = c at *
  generalize kvN k % 2 ^ (TT - 1) = d at *
  generalize 2 ^ (TT - 1) = q at *
  rcases b with b | b
  · subst b
    rw [Nat.mul_zero, Nat.zero_add]
    have e : cmpN d q = -1 := by unfold cmpN; rw [if_pos h2]
    rw [e]
    refine ⟨rfl, rfl, rfl⟩
  · subst b
    rw [Nat.mul_one]
    by_cases g : d = 0
    · subst g
      have e : cmpN (q + 0) q = 0 := by unfold cmpN; rw [if_neg (by omega), if_pos (by omega)]
      rw [e]
      refine ⟨rfl, rfl, ?_⟩
      rw [dt (by omega)]; rfl
    · have e : cmpN (q + d) q = 1 := by unfold cmpN; rw [if_neg (by omega), if_neg (by omega)]
      rw [e, dt (show d ≠ 0 from g)]
      refine ⟨rfl, rfl, ?_⟩
      rw [dt (by omega)]; rfl
theorem add_one {w : List Bool} (h : w.length ≤ 5000) : r1_Add_s w [true] = true ∧ bv (r1_Add w [true]) = bv w + 1 ∧ (r1_Add w [true]).length ≤ 5002 := by
  obtain ⟨a1, a2, a3⟩ := add_spec (a := w) (b := [true]) (by omega) (by simp)
  refine ⟨a1, by rw [a2]; rfl, ?_⟩
  have : ([true] : List Bool).length = 1 := rfl
  omega
theorem odd_getD (w : List Bool) : (decide ((w.length : Int) > 0) && w.getD (Int.toNat 0) false) = decide (bv w % 2 = 1) := by
  have h := getD_bit w 0
  rw [Nat.pow_zero, Nat.div_one] at h
  have e : w.getD (Int.toNat 0) false = w.getD 0 false := rfl
  rw [e]
  cases hw : w.getD 0 false with
  | true =>
    rw [hw] at h
    have hl : 0 < w.length := by
      rcases Nat.eq_zero_or_pos w.length with g | g
      · rw [List.length_eq_zero_iff.1 g] at hw; contradiction
      · exact g
    rw [dt (show (w.length : Int) > 0 by omega), dt (by rw [← h]; rfl)]; rfl
  | false =>
    rw [hw] at h
    rw [Bool.and_false, df (by rw [← h]; decide)]
theorem rwhole_spec {s : Bool} {k : Nat} (hk : k < 9223372036854775808) (mode : Int) : Tr.Is (r7_Whole_t (fl s k) mode) (wholeS s k mode) := by
  have cs := rclass_spec (s := s) hk
  have cc := cls_cases k
  unfold wholeS
  by_cases h1 : 9218868437227405312 < k
  · rw [if_pos h1]
    unfold r7_Whole_t r7_Whole_T
    rw [cs]
    exact Tr.is_br_t (bt (by omega)) (Tr.is_leaf rfl)
  · rw [if_neg h1]
    by_cases h2 : k = 9218868437227405312
    · rw [if_pos (.inl h2)]
      unfold r7_Whole_t r7_Whole_T
      rw [cs]
      exact Tr.is_br_f (bf (by omega)) (Tr.is_br_t (bt (by omega)) (Tr.is_leaf rfl))
    · have hf : k < 9218868437227405312 := by omega
      obtain ⟨p1, w, p2, p3, p4⟩ := parts7_spec (s := s) hf
      obtain ⟨a1, a2, a3⟩ := add_one p4
      obtain ⟨c1, c2, c3⟩ := cmp_half k
      have od := odd_getD w
      rw [p3] at od a2
      by_cases h3 : 0 ≤ expo k
      · rw [if_pos (.inr h3)]
        obtain ⟨q1, q2, q3, q4⟩ := parts_pos hf h3
        have rr : Tr.Is (r5_Round_t s w 0 false 0) (fl s k, 0) := by
          by_cases k0 : k = 0
          · subst k0
            exact rround_zero (by omega) (by rw [p3]; unfold iP; rw [kvN_zero, Nat.zero_div]) s 0 false 0
          · have hv : fv s k = dy s (iP k) 0 := by
              rw [fvTT hf]
              unfold dy
              have e1 : kvN k = iP k * 2 ^ TT := by
                have := Nat.div_add_mod (kvN k) (2 ^ TT)
                have h0 : kvN k % 2 ^ TT = 0 := q2
                rw [h0, Nat.add_zero, Nat.mul_comm] at this
                exact this.symm
              rw [e1]
              have := rq_scale s (two_nz TT) (n := iP k) (d := 1)
              rw [Nat.one_mul] at this
              rw [this]
              show rq s (iP k) 1 = rq s (1 * iP k) 1
              rw [Nat.one_mul]
            have h0 : iP k ≠ 0 := fun g => (fv_nz (s := s) hf k0).2.1 (by rw [hv, g, dy_zero])
            exact rround_exact (by omega) p3 h0 s (by omega) (by omega) (by rw [← hv]; exact exF_fv hf k0 0)
        have e1 : r5_Round s w 0 false 0 = (fl s k, 0) := rr.1
        have walk : ∀ (ta tb : Bool) (t12 : Int), Tr.Is (refW (mode == 2) (mode == 1) false s false false (decide ((w.length : Int) > 0)) (decide ((w.length : Int) > 0)) (w.getD (Int.toNat 0) false) ta tb true (fl s k) t12) (fl s k, 0) := by
          intro ta tb t12
          unfold refW refW0 xNo
          cases decide ((w.length : Int) > 0) <;> cases (mode == 1) <;> cases (mode == 2) <;> exact ⟨rfl, rfl⟩
        unfold r7_Whole_t r7_Whole_T
        rw [cs, p2, shr_sign hk]
        dsimp only
        rw [c1, c2, c3, q3, q4, e1, show r5_Round_s s w 0 false 0 = true from rr.2]
        exact Tr.is_br_f (bf (by omega)) (Tr.is_br_f (bf (by omega)) (Tr.is_ast p1 (walk _ _ _)))
      · rw [if_neg (by rintro (g | g); exact h2 g; exact h3 g)]
        have hs := iP_small hf (by omega)
        obtain ⟨r1, r2, r3⟩ := round_both (w2_lo (n := iP k) (by omega)) (b := w) (by omega) (by rw [p3, n2_lo]) s 0 false 0
        obtain ⟨r4, r5, r6⟩ := round_both (w2_lo (n := iP k + 1) (by omega)) (b := r1_Add w [true]) (by omega) (by rw [a2, n2_lo]) s 0 false 0
        have key := refW_is (mode == 2) (mode == 1) (hP k || mP k) s (hP k && !mP k) (hP k && mP k) (decide ((w.length : Int) > 0)) (w.getD (Int.toNat 0) false) (n_Round s ⟨0, (iP k : Int)⟩ 0 false 0).fst (n_Round s ⟨0, ((iP k + 1 : Nat) : Int)⟩ 0 false 0).fst
        rw [od] at key
        have eu : (if (mode == 1) then (hP k || mP k) && !s else if (mode == 2) then (hP k || mP k) && s else (hP k && mP k) || ((hP k && !mP k) && decide (iP k % 2 = 1))) = upW s mode (hP k) (mP k) (decide (iP k % 2 = 1)) := by
          unfold upW
          cases (mode == 1) <;> cases (mode == 2) <;> cases hP k <;> cases mP k <;> cases decide (iP k % 2 = 1) <;> rfl
        rw [eu] at key
        unfold wholeV r7_Whole_t r7_Whole_T
        rw [cs, p2, shr_sign hk]
        dsimp only
        rw [c1, c2, c3, r2, r5, ← r3, ← r6, a1]
        exact Tr.is_br_f (bf (by omega)) (Tr.is_br_f (bf (by omega)) (Tr.is_ast p1 key))
theorem ConvWhole_both {f : Int} (hf : Wd f) {mode : Int} : l_ConvWhole f mode = true ∧ l_ConvWhole_s f mode = true := by
  obtain ⟨s, k, hk, rfl⟩ := fl_of hf
  have a := whole_spec (s := s) hk mode
  have b := rwhole_spec (s := s) hk mode
  have e1 : c_Whole (fl s k) mode = wholeS s k mode := a.1
  have e2 : r7_Whole (fl s k) mode = wholeS s k mode := b.1
  suffices h : Tr.Is (l_ConvWhole_t (fl s k) mode) true from h
  refine pre7 (Tr.is_ast a.2 (Tr.is_ast b.2 (Tr.is_br_t works7.1 ?_)))
  rw [e1, e2]
  exact Tr.is_br_t (bt rfl) (Tr.is_leaf (bt rfl))
end Go.Fb
namespace Go.Fb
open Go.Ev
theorem int_key {M : Nat} (h : M ≤ 9007199254740992) : ∃ K, K < 9218868437227405312 ∧ kvN K = M * 2 ^ TT ∧ (K = 0 ↔ M = 0) := by
  by_cases h0 : M = 0
  · exact ⟨0, by omega, by rw [h0, kvN_zero, Nat.zero_mul], by omega⟩
  · by_cases h1 : M = 9007199254740992
    · refine ⟨4503599627370496 * TT + 9007199254740992, by rw [tt_eq]; omega, ?_, by omega⟩
      rw [kv_of (by omega) (.inr (by omega)), h1]
    · have hl : ∃ L, LenIs M L := by
        obtain ⟨o1, L, l1, l2⟩ := rlen_spec (a := r6_bits (M : Int)) (by have := (rbits6_spec (m := M) (by omega)).2.2.2; omega)
        rw [(rbits6_spec (m := M) (by omega)).2.1] at l2
        exact ⟨L, l2⟩
      obtain ⟨L, l1, l2⟩ := hl
      have hL : L ≤ 53 := lenIs_le ⟨l1, l2⟩ (m := 53) (by omega)
      have hL0 : L ≠ 0 := by intro g; subst g; simp at l1; omega
      have l3 : 2 ^ (L - 1) ≤ M := by rcases l2 with g | g; exact absurd g hL0; exact g
      have w1 : M * 2 ^ (53 - L) < 9007199254740992 := by
        have := Nat.mul_lt_mul_of_pos_right l1 (Nat.two_pow_pos (53 - L))
        rw [← Nat.pow_add, show L + (53 - L) = 53 by omega] at this
        exact this
      have w2 : 4503599627370496 ≤ M * 2 ^ (53 - L) := by
        have := Nat.mul_le_mul_right (2 ^ (53 - L)) l3
        rw [← Nat.pow_add, show L - 1 + (53 - L) = 52 by omega] at this
        exact this
      refine ⟨4503599627370496 * (TT - (53 - L)) + M * 2 ^ (53 - L), by rw [tt_eq]; omega, ?_, by omega⟩
      rw [kv_of (by omega) (.inr w2), Nat.mul_assoc, ← Nat.pow_add]
      congr 2
      rw [tt_eq]; omega
theorem fv_int {s : Bool} {K M : Nat} (hK : K < 9218868437227405312) (h : kvN K = M * 2 ^ TT) : fv s K = dy s M 0 := by
  rw [fvTT hK, h]
  have := rq_scale s (two_nz TT) (n := M) (d := 1)
  rw [Nat.one_mul] at this
  rw [this]
  show rq s M 1 = rq s (1 * M) 1
  rw [Nat.one_mul]
theorem round_int {M : Nat} (h : M ≤ 9007199254740992) (s : Bool) (mode : Int) : ∃ K, K < 9218868437227405312 ∧ kvN K = M * 2 ^ TT ∧ Tr.Is (n_Round_t s ⟨0, (M : Int)⟩ 0 false mode) (fl s K, 0) := by
  obtain ⟨K, k1, k2, k3⟩ := int_key h
  refine ⟨K, k1, k2, ?_⟩
  by_cases h0 : M = 0
  · rw [k3.2 h0]
    exact nround_zero (w2_lo (by omega)) (by rw [n2_lo, h0]) s 0 false mode
  · obtain ⟨v, v1, v2⟩ := nround_exact (w2_lo (n := M) (by omega)) (by rw [n2_lo]; exact h0) s (e := 0) (by omega) (by omega) mode
    rw [n2_lo, ← fv_int k1 k2] at v2
    rw [(v2.unique (exF_fv k1 (fun g => h0 (k3.1 g)) mode))] at v1
    exact v1
theorem key_parts {K M : Nat} (h : kvN K = M * 2 ^ TT) : iP K = M ∧ fP K = 0 := by
  unfold iP fP
  rw [h]
  exact ⟨Nat.mul_div_cancel _ (Nat.two_pow_pos TT), Nat.mul_mod_left _ _⟩
theorem whole_int {s : Bool} {K M : Nat} (hK : K < 9218868437227405312) (h : kvN K = M * 2 ^ TT) (mode : Int) : wholeS s K mode = (fl s K, 0) := by
  obtain ⟨p1, p2⟩ := key_parts h
  obtain ⟨q1, q2⟩ := (frac_iff K).1 p2
  unfold wholeS
  rw [if_neg (by omega)]
  by_cases he : 0 ≤ expo K
  · rw [if_pos (.inr he)]
  · rw [if_neg (by rintro (g | g); omega; exact he g)]
    have hs := iP_small hK (by omega)
    obtain ⟨J, j1, j2, j3⟩ := round_int (M := iP K) (by omega) s 0
    have hJ : J = K := kvN_inj (by rw [j2, p1, h])
    subst hJ
    have e : n_Round s ⟨0, (iP J : Int)⟩ 0 false 0 = (fl s J, 0) := j3.1
    have hu : upW s mode (hP J) (mP J) (decide (iP J % 2 = 1)) = false := by
      unfold upW
      rw [q1, q2]
      cases (mode == 1) <;> cases (mode == 2) <;> rfl
    unfold wholeV
    rw [hu, q1, q2, e]
    rfl
theorem ConvBack_both {x : Int} (h : -2147483648 ≤ x ∧ x ≤ 2147483647) {mode : Int} : l_ConvBack x mode = true ∧ l_ConvBack_s x mode = true := by
  have ew : IntKind.i64.wrap x = x := w64 (by omega) (by omega)
  obtain ⟨K, k1, k2, k3⟩ := round_int (M := x.natAbs) (by omega) (decide (x < 0)) mode
  have t := from_tree (x := x) (by omega) k3
  have e : c_FromInt x mode = (fl (decide (x < 0)) K, 0) := t.1
  obtain ⟨p1, p2⟩ := key_parts k2
  have hk : K < 9223372036854775808 := by omega
  have a := to32_spec (s := decide (x < 0)) hk
  have b := to64_spec (s := decide (x < 0)) hk
  have c := whole_spec (s := decide (x < 0)) hk mode
  rw [whole_int k1 k2] at c
  have v : ∀ N, (N = 32 ∨ N = 64) → toV (decide (x < 0)) K N = (x, 0) := fun N hN => by
    unfold toV
    have hp : 2147483648 ≤ 2 ^ (N - 1) := by rcases hN with g | g <;> subst g <;> decide
    rw [if_neg (by omega), p1, p2]
    generalize 2 ^ (N - 1) = P at *
    rw [if_neg (by rintro (g | ⟨g1, g2⟩); omega; have := of_decide_eq_false g2; omega)]
    refine Prod.ext ?_ rfl
    by_cases g : x < 0
    · rw [dt g]; simp only [if_true]; omega
    · rw [df g]; simp only [Bool.false_eq_true, if_false]; omega
  rw [v 32 (.inl rfl)] at a
  rw [v 64 (.inr rfl)] at b
  have e1 : c_ToInt32 (fl (decide (x < 0)) K) = (x, 0) := a.1
  have e2 : c_ToInt64 (fl (decide (x < 0)) K) = (x, 0) := b.1
  have e3 : c_Whole (fl (decide (x < 0)) K) mode = (fl (decide (x < 0)) K, 0) := c.1
  suffices h : Tr.Is (l_ConvBack_t x mode) true from h
  refine pre7 ?_
  rw [ew, e]
  dsimp only
  refine Tr.is_ast t.2 (Tr.is_ast a.2 (Tr.is_ast b.2 (Tr.is_ast c.2 (Tr.is_br_t works7.1 ?_))))
  rw [e1, e2, e3]
  exact Tr.is_br_t rfl (Tr.is_br_t (bt rfl) (Tr.is_br_t rfl (Tr.is_br_t (bt rfl) (Tr.is_br_t rfl (Tr.is_br_t (bt rfl) (Tr.is_leaf rfl))))))
end Go.Fb
