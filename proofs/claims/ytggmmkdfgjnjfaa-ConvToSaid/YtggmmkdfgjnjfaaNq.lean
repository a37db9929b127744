/- Layer 2: the laws hold, in plain Lean. Conditions: as each theorem states. -/
import Derived.Test.YtggmmkdfgjnjfaaNl
import Derived.Test.YtggmmkdfgjnjfaaNp
namespace Go.Fb
open Go.Ev
theorem t1 : n_Text [1000] = [49,48,48,48] ∧ n_Text_s [1000] = true := by decide +kernel
end Go.Fb
namespace Go.Fb
open Go.Ev
end Go.Fb
namespace Go.Fb
open Go.Ev
end Go.Fb
namespace Go.Fb
open Go.Ev
theorem tdiv64 {i : Nat} (h : i < 64) : IntKind.i64.wrap ((i : Int).tdiv 64) = 0 := by
  have e : (i : Int).tdiv 64 = ((i / 64 : Nat) : Int) := by
    rw [show (64 : Int) = ((64 : Nat) : Int) from rfl, Int.natCast_tdiv_eq_ediv]; rfl
  rw [e, Nat.div_eq_of_lt h]; rfl
theorem tmod64 {i : Nat} (h : i < 64) : IntKind.u64.wrap ((i : Int).tmod 64) = (i : Int) := by
  have e : (i : Int).tmod 64 = ((i % 64 : Nat) : Int) := by
    exact (ndm (T := i) (d := 64)).2
  rw [e, Nat.mod_eq_of_lt h, u64i (by omega) (by omega)]
theorem words1_run {b : List Bool} (hb : b.length ≤ 1000000) : ∀ (m i : Nat), i + m = min b.length 64 →
    runL (r1_Words_L0_step (b, 1)) (m + 1) ((i : Int), [((bv b % 2 ^ i : Nat) : Int)]) = some (((min b.length 64 : Nat) : Int), [((bv b % 2 ^ (min b.length 64) : Nat) : Int)])
  | 0, i, hi => by
    have hi' : min b.length 64 = i := by omega
    rw [hi']
    by_cases h : i < b.length
    · exact runL_out (Tr.is_br_t (dt (by first | omega | (dsimp only; omega))) (Tr.is_br_f (df (by dsimp only; rw [show IntKind.i64.wrap (64 * 1) = 64 from rfl]; omega)) (Tr.is_leaf rfl)))
    · exact runL_out (Tr.is_br_f (df (by first | omega | (dsimp only; omega))) (Tr.is_leaf rfl))
  | m + 1, i, hi => by
    have e4 : IntKind.i64.wrap ((i : Int) + 1) = ((i + 1 : Nat) : Int) := wnext (by omega)
    have hms := mod_step (bv b) i
    have hbit := getD_bit b i
    have hlt : bv b % 2 ^ i < 2 ^ i := Nat.mod_lt _ (Nat.two_pow_pos i)
    have h64 : 2 ^ (i + 1) ≤ 18446744073709551616 := Nat.pow_le_pow_right (n := 2) (by decide) (by omega : i + 1 ≤ 64)
    have hp : 2 ^ (i + 1) = 2 * 2 ^ i := by rw [Nat.pow_succ, Nat.mul_comm]
    have c0 : decide (((i : Int)) < ((b.length : Nat) : Int)) = true := dt (by omega)
    have c1 : decide ((i : Int) < IntKind.i64.wrap (64 * 1)) = true := dt (by rw [show IntKind.i64.wrap (64 * 1) = 64 from rfl]; omega)
    rw [← words1_run hb m (i + 1) (by omega)]
    refine runL_next (Tr.is_br_t c0 (Tr.is_br_t c1 (Tr.is_ast (by simp; omega) ?_)))
    have ei : ((i : Int)).toNat = i := rfl
    dsimp only
    rw [ei]
    cases hc : b.getD i false with
    | false =>
      rw [hc] at hbit
      refine Tr.is_br_f rfl (Tr.is_leaf ?_)
      rw [e4, hms, ← hbit]; simp
    | true =>
      rw [hc] at hbit
      refine Tr.is_br_t rfl (Tr.is_ast ?_ (Tr.is_ast ?_ (Tr.is_ast ?_ (Tr.is_leaf ?_))))
      · rw [tdiv64 (by omega)]; rfl
      · rw [tmod64 (by omega)]; exact dt (by omega)
      · rw [tdiv64 (by omega)]; rfl
      · rw [e4, tdiv64 (by omega), tmod64 (by omega)]
        have e5 : shlI IntKind.u64 1 (i : Int) = ((2 ^ i : Nat) : Int) := by
          have := shl_nat 1 i (by omega)
          rw [Nat.one_mul, Nat.mod_eq_of_lt (by omega)] at this
          exact this
        have e6 : ([((bv b % 2 ^ i : Nat) : Int)].getD (0 : Int).toNat 0) = ((bv b % 2 ^ i : Nat) : Int) := rfl
        have e7 : bv b % 2 ^ i ||| 2 ^ i = bv b % 2 ^ i + 2 ^ i := by
          have := or_add (a := 1) hlt
          rw [Nat.mul_one] at this
          rw [Nat.or_comm, this, Nat.add_comm]
        rw [e5, e6, bits_or (by omega) (by omega), e7, hms, ← hbit]
        simp
theorem words1_spec {b : List Bool} (hb : b.length ≤ 1000000) : r1_Words b 1 = [((bv b % 18446744073709551616 : Nat) : Int)] ∧ r1_Words_s b 1 = true := by
  have h := words1_run hb (min b.length 64) 0 (by omega)
  rw [Nat.pow_zero, Nat.mod_one] at h
  have hm : bv b % 2 ^ (min b.length 64) = bv b % 18446744073709551616 := by
    rcases Nat.le_total b.length 64 with h1 | h1
    · rw [Nat.min_eq_left h1]
      have h2 := bv_lt b
      have h3 : 2 ^ b.length ≤ 18446744073709551616 := Nat.pow_le_pow_right (n := 2) (by decide) h1
      rw [Nat.mod_eq_of_lt h2, Nat.mod_eq_of_lt (by omega)]
    · rw [Nat.min_eq_right h1]
  rw [hm] at h
  have hr : r1_Words_L0_r (b, 1) (0, [0]) = some (((min b.length 64 : Nat) : Int), [((bv b % 18446744073709551616 : Nat) : Int)]) := runB_of h (by omega)
  have : Tr.Is (r1_Words_t b 1) [((bv b % 18446744073709551616 : Nat) : Int)] := by
    refine Tr.is_ast (by decide) (Tr.is_ast ?_ (Tr.is_leaf ?_))
    · show r1_Words_L0_ok (b, 1) (0, [0]) = true
      unfold r1_Words_L0_ok; rw [hr]; rfl
    · show (r1_Words_L0_v (b, 1) (0, [0])).2 = _
      unfold r1_Words_L0_v; rw [hr]; rfl
  exact this
end Go.Fb
namespace Go.Fb
open Go.Ev
theorem shr63 {n j : Nat} (hj : j ≤ 64) : shrI .i64 (n : Int) (j : Int) = ((n / 2 ^ j : Nat) : Int) := by
  unfold shrI
  rw [Int.toNat_natCast, show IntKind.i64.bits = 64 from rfl, Nat.min_eq_left hj, Int.fdiv_eq_ediv_of_nonneg _ (by exact Int.natCast_nonneg (2 ^ j))]
  rw [Int.natCast_ediv]; simp
end Go.Fb
namespace Go.Fb
open Go.Ev
def lv : List Nat → Nat
  | [] => 0
  | d :: l => d + 10 * lv l
def Dg (l : List Nat) : Prop := ∀ d ∈ l, d < 10
def Nzd (l : List Nat) : Prop := ∀ a x, l = a ++ [x] → x ≠ 0
def chU (d : Nat) : UInt8 := UInt8.ofNat (48 + d)
theorem lv_inj : ∀ {a b : List Nat}, Dg a → Dg b → Nzd a → Nzd b → lv a = lv b → a = b := by
  have key : ∀ {a : List Nat}, Nzd a → lv a = 0 → a = [] := by
    intro a
    induction a with
    | nil => intros; rfl
    | cons x l ih =>
      intro hn h
      simp only [lv] at h
      have hl := ih (fun b y hy => hn (x :: b) y (by rw [hy]; rfl)) (by omega)
      subst hl
      have := hn [] x rfl
      omega
  intro a
  induction a with
  | nil => intro b _ _ _ hnb h; exact (key hnb h.symm).symm
  | cons x l ih =>
    intro b ha hb hna hnb h
    cases b with
    | nil => exact key hna h
    | cons y m =>
      simp only [lv] at h
      have hx := ha x (by simp)
      have hy := hb y (by simp)
      have e : x = y := by omega
      subst e
      have : lv l = lv m := by omega
      rw [ih (fun d hd => ha d (by simp [hd])) (fun d hd => hb d (by simp [hd])) (fun b z hz => hna (x :: b) z (by rw [hz]; rfl)) (fun b z hz => hnb (x :: b) z (by rw [hz]; rfl)) this]
/-- the digits of a number -/
def TextIs (s : List UInt8) (v : Nat) : Prop := ∃ l : List Nat, Dg l ∧ Nzd l ∧ lv l = v ∧ s = if l.isEmpty then [48] else (l.map chU).reverse
theorem TextIs.unique {s t : List UInt8} {v : Nat} (h : TextIs s v) (k : TextIs t v) : s = t := by
  obtain ⟨l, h1, h2, h3, rfl⟩ := h
  obtain ⟨m, k1, k2, k3, rfl⟩ := k
  rw [lv_inj h1 k1 h2 k2 (by omega)]
end Go.Fb
namespace Go.Fb
open Go.Ev
end Go.Fb
