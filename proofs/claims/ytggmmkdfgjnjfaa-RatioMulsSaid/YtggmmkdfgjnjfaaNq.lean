/- Layer 2: the laws hold, in plain Lean. Conditions: as each theorem states. -/
import Derived.Test.YtggmmkdfgjnjfaaNl
import Derived.Test.YtggmmkdfgjnjfaaNp
namespace Go.Fb
open Go.Ev
theorem t1 : n_Text [1000] = [49,48,48,48] ∧ n_Text_s [1000] = true := by decide +kernel
end Go.Fb
namespace Go.Fb
open Go.Ev
theorem isT {a : List Int} {b : List Bool} {v n : Nat} (h : NumIs a v n) (hn : n ≤ 1000000) (hb : b.length ≤ 1000000) (e : bv b = v) : r2_Is a b = true ∧ r2_Is_s a b = true := by
  obtain ⟨h1, h2, h3, h4⟩ := h
  obtain ⟨i1, i2⟩ := is_iff (a := a) (b := b) (by omega) hb h1 h2
  rw [i1, h3, e, decide_eq_true rfl]
  exact ⟨rfl, i2⟩
theorem nlen0 {a : List Int} (hw : Wds a) (hn : a.length ≤ 1000000) : (n_Len a == 0) = decide (wv a = 0) ∧ n_Len_s a = true := by
  obtain ⟨h1, l, h2, h3⟩ := nlen_spec hw hn
  refine ⟨?_, h1⟩
  rw [h2]
  have := lenIs_nought h3
  by_cases h : wv a = 0
  · rw [decide_eq_true h, bt (by rw [this.2 h]; rfl)]
  · rw [decide_eq_false h, bf (by omega)]
theorem len_nil {l : List Int} {n : Nat} (h : NumIs l 0 n) : ((l.length : Int) == 0) = true := by
  have := len_nz h
  simp at this
  simp [this]
theorem wv_lt2 {a : List Int} (ha : Wds a) {n : Nat} (h : a.length ≤ n) : wv a < 2 ^ (32 * n) := by
  rw [Nat.pow_mul]
  exact Nat.lt_of_lt_of_le (wv_lt ha) (Nat.pow_le_pow_right (by decide) h)
end Go.Fb
namespace Go.Fb
open Go.Ev
end Go.Fb
namespace Go.Fb
open Go.Ev
theorem tdiv64 {i : Nat} (h : i < 64) : IntKind.i64.wrap ((i : Int).tdiv 64) = 0 := by
  have e : (i : Int).tdiv 64 = ((i / 64 : Nat) : Int) := by
    rw [show (64 : Int) = ((64 : Nat) : Int) from rfl, Int.natCast_tdiv_eq_ediv]; rfl
  rw [e, Nat.div_eq_of_lt h]; rfl
theorem tmod64 {i : Nat} (h : i < 64) : IntKind.u64.wrap ((i : Int).tmod 64) = (i : Int) := by
  have e : (i : Int).tmod 64 = ((i % 64 : Nat) : Int) := by
    exact (ndm (T := i) (d := 64)).2
  rw [e, Nat.mod_eq_of_lt h, u64i (by omega) (by omega)]
theorem words1_run {b : List Bool} (hb : b.length ≤ 1000000) : ∀ (m i : Nat), i + m = min b.length 64 →
    runL (r1_Words_L0_step (b, 1)) (m + 1) ((i : Int), [((bv b % 2 ^ i : Nat) : Int)]) = some (((min b.length 64 : Nat) : Int), [((bv b % 2 ^ (min b.length 64) : Nat) : Int)])
  | 0, i, hi => by
    have hi' : min b.length 64 = i := by omega
    rw [hi']
    by_cases h : i < b.length
    · exact runL_out (Tr.is_br_t (dt (by first | omega | (dsimp only; omega))) (Tr.is_br_f (df (by dsimp only; rw [show IntKind.i64.wrap (64 * 1) = 64 from rfl]; omega)) (Tr.is_leaf rfl)))
    · exact runL_out (Tr.is_br_f (df (by first | omega | (dsimp only; omega))) (Tr.is_leaf rfl))
  | m + 1, i, hi => by
    have e4 : IntKind.i64.wrap ((i : Int) + 1) = ((i + 1 : Nat) : Int) := wnext (by omega)
    have hms := mod_step (bv b) i
    have hbit := getD_bit b i
    have hlt : bv b % 2 ^ i < 2 ^ i := Nat.mod_lt _ (Nat.two_pow_pos i)
    have h64 : 2 ^ (i + 1) ≤ 18446744073709551616 := Nat.pow_le_pow_right (n := 2) (by decide) (by omega : i + 1 ≤ 64)
    have hp : 2 ^ (i + 1) = 2 * 2 ^ i := by rw [Nat.pow_succ, Nat.mul_comm]
    have c0 : decide (((i : Int)) < ((b.length : Nat) : Int)) = true := dt (by omega)
    have c1 : decide ((i : Int) < IntKind.i64.wrap (64 * 1)) = true := dt (by rw [show IntKind.i64.wrap (64 * 1) = 64 from rfl]; omega)
    rw [← words1_run hb m (i + 1) (by omega)]
    refine runL_next (Tr.is_br_t c0 (Tr.is_br_t c1 (Tr.is_ast (by simp; omega) ?_)))
    have ei : ((i : Int)).toNat = i := rfl
    dsimp only
    rw [ei]
    cases hc : b.getD i false with
    | false =>
      rw [hc] at hbit
      refine Tr.is_br_f rfl (Tr.is_leaf ?_)
      rw [e4, hms, ← hbit]; simp
    | true =>
      rw [hc] at hbit
      refine Tr.is_br_t rfl (Tr.is_ast ?_ (Tr.is_ast ?_ (Tr.is_ast ?_ (Tr.is_leaf ?_))))
      · rw [tdiv64 (by omega)]; rfl
      · rw [tmod64 (by omega)]; exact dt (by omega)
      · rw [tdiv64 (by omega)]; rfl
      · rw [e4, tdiv64 (by omega), tmod64 (by omega)]
        have e5 : shlI IntKind.u64 1 (i : Int) = ((2 ^ i : Nat) : Int) := by
          have := shl_nat 1 i (by omega)
          rw [Nat.one_mul, Nat.mod_eq_of_lt (by omega)] at this
          exact this
        have e6 : ([((bv b % 2 ^ i : Nat) : Int)].getD (0 : Int).toNat 0) = ((bv b % 2 ^ i : Nat) : Int) := rfl
        have e7 : bv b % 2 ^ i ||| 2 ^ i = bv b % 2 ^ i + 2 ^ i := by
          have := or_add (a := 1) hlt
          rw [Nat.mul_one] at this
          rw [Nat.or_comm, this, Nat.add_comm]
        rw [e5, e6, bits_or (by omega) (by omega), e7, hms, ← hbit]
        simp
theorem words1_spec {b : List Bool} (hb : b.length ≤ 1000000) : r1_Words b 1 = [((bv b % 18446744073709551616 : Nat) : Int)] ∧ r1_Words_s b 1 = true := by
  have h := words1_run hb (min b.length 64) 0 (by omega)
  rw [Nat.pow_zero, Nat.mod_one] at h
  have hm : bv b % 2 ^ (min b.length 64) = bv b % 18446744073709551616 := by
    rcases Nat.le_total b.length 64 with h1 | h1
    · rw [Nat.min_eq_left h1]
      have h2 := bv_lt b
      have h3 : 2 ^ b.length ≤ 18446744073709551616 := Nat.pow_le_pow_right (n := 2) (by decide) h1
      rw [Nat.mod_eq_of_lt h2, Nat.mod_eq_of_lt (by omega)]
    · rw [Nat.min_eq_right h1]
  rw [hm] at h
  have hr : r1_Words_L0_r (b, 1) (0, [0]) = some (((min b.length 64 : Nat) : Int), [((bv b % 18446744073709551616 : Nat) : Int)]) := runB_of h (by omega)
  have : Tr.Is (r1_Words_t b 1) [((bv b % 18446744073709551616 : Nat) : Int)] := by
    refine Tr.is_ast (by decide) (Tr.is_ast ?_ (Tr.is_leaf ?_))
    · show r1_Words_L0_ok (b, 1) (0, [0]) = true
      unfold r1_Words_L0_ok; rw [hr]; rfl
    · show (r1_Words_L0_v (b, 1) (0, [0])).2 = _
      unfold r1_Words_L0_v; rw [hr]; rfl
  exact this
end Go.Fb
namespace Go.Fb
open Go.Ev
end Go.Fb
namespace Go.Fb
open Go.Ev
def lv : List Nat → Nat
  | [] => 0
  | d :: l => d + 10 * lv l
def Dg (l : List Nat) : Prop := ∀ d ∈ l, d < 10
def Nzd (l : List Nat) : Prop := ∀ a x, l = a ++ [x] → x ≠ 0
def chI (d : Nat) : Int := ((48 + d : Nat) : Int)
def chU (d : Nat) : UInt8 := UInt8.ofNat (48 + d)
theorem lv_snoc : ∀ (a : List Nat) (x : Nat), lv (a ++ [x]) = lv a + 10 ^ a.length * x
  | [], x => by simp [lv]
  | d :: a, x => by
    simp only [List.cons_append, lv, lv_snoc a x, List.length_cons, Nat.pow_succ]
    rw [Nat.mul_add, ← Nat.mul_assoc, Nat.mul_comm 10 (10 ^ a.length)]
    omega
theorem lv_inj : ∀ {a b : List Nat}, Dg a → Dg b → Nzd a → Nzd b → lv a = lv b → a = b := by
  have key : ∀ {a : List Nat}, Nzd a → lv a = 0 → a = [] := by
    intro a
    induction a with
    | nil => intros; rfl
    | cons x l ih =>
      intro hn h
      simp only [lv] at h
      have hl := ih (fun b y hy => hn (x :: b) y (by rw [hy]; rfl)) (by omega)
      subst hl
      have := hn [] x rfl
      omega
  intro a
  induction a with
  | nil => intro b _ _ _ hnb h; exact (key hnb h.symm).symm
  | cons x l ih =>
    intro b ha hb hna hnb h
    cases b with
    | nil => exact key hna h
    | cons y m =>
      simp only [lv] at h
      have hx := ha x (by simp)
      have hy := hb y (by simp)
      have e : x = y := by omega
      subst e
      have : lv l = lv m := by omega
      rw [ih (fun d hd => ha d (by simp [hd])) (fun d hd => hb d (by simp [hd])) (fun b z hz => hna (x :: b) z (by rw [hz]; rfl)) (fun b z hz => hnb (x :: b) z (by rw [hz]; rfl)) this]
/-- the digits of a number -/
def TextIs (s : List UInt8) (v : Nat) : Prop := ∃ l : List Nat, Dg l ∧ Nzd l ∧ lv l = v ∧ s = if l.isEmpty then [48] else (l.map chU).reverse
theorem TextIs.unique {s t : List UInt8} {v : Nat} (h : TextIs s v) (k : TextIs t v) : s = t := by
  obtain ⟨l, h1, h2, h3, rfl⟩ := h
  obtain ⟨m, k1, k2, k3, rfl⟩ := k
  rw [lv_inj h1 k1 h2 k2 (by omega)]
theorem nzd_len {l : List Nat} (h : Nzd l) {v k : Nat} (hv : lv l = v) (hk : v < 10 ^ k) : l.length ≤ k := by
  rcases List.eq_nil_or_concat l with rfl | ⟨a, x, hx⟩
  · exact Nat.zero_le _
  · have hx' : l = a ++ [x] := by simpa using hx
    have h0 := h a x hx'
    rw [hx', lv_snoc] at hv
    have h1 : 10 ^ a.length < 10 ^ k := by
      refine Nat.lt_of_le_of_lt ?_ hk
      rw [← hv]
      exact Nat.le_trans (Nat.le_mul_of_pos_right _ (by omega)) (Nat.le_add_left _ _)
    have := (Nat.pow_lt_pow_iff_right (by decide : 1 < 10)).1 h1
    rw [hx']; simp; omega
theorem chI_wrap {d : Nat} (h : d < 10) : IntKind.u8.wrap (IntKind.u64.wrap (48 + (d : Int))) = chI d := by
  rw [u64i (by omega) (by omega), show (48 : Int) + (d : Int) = ((48 + d : Nat) : Int) by omega, u8i (by omega)]
  rfl
theorem chI_to (d : Nat) : UInt8.ofNat (chI d).toNat = chU d := by unfold chI chU; rw [Int.toNat_natCast]
theorem text_inner {V Q : Nat} (z0 : List Int) (z1 : List UInt8) (z2 z3 : List Int) (z4 : Int) (z5 : Bool) (z6 z7 z8 z9 : List Int) (z10 : Int) : ∀ (m i x : Nat) (l : List Nat), i + m = 9 → x < 10 ^ m → l.length ≤ 1000000 + i → Dg l → lv l + 10 ^ l.length * (x + 10 ^ m * Q) = V →
    ∃ l' : List Nat, runL (n_Text_L1_step (z0, z1, z2, z3, z4, z5, z6, z7, z8, z9, z10)) (m + 1) ((x : Int), (i : Int), l.map chI) = some (0, 9, l'.map chI) ∧ Dg l' ∧ l'.length = l.length + m ∧ lv l' + 10 ^ l'.length * Q = V
  | 0, i, x, l, hi, hx, hl, hd, hv => by
    have h9 : i = 9 := by omega
    have h0 : x = 0 := by simpa using hx
    subst h9; subst h0
    refine ⟨l, runL_out (Tr.is_br_f (df (by first | omega | (dsimp only; omega))) (Tr.is_leaf rfl)), hd, rfl, ?_⟩
    simpa using hv
  | m + 1, i, x, l, hi, hx, hl, hd, hv => by
    have e4 : IntKind.i64.wrap ((i : Int) + 1) = ((i + 1 : Nat) : Int) := wnext (by omega)
    have hx9 : x < 1000000000 := Nat.lt_of_lt_of_le hx (Nat.pow_le_pow_right (n := 10) (by decide) (by omega : m + 1 ≤ 9))
    have hm10 : x % 10 < 10 := Nat.mod_lt _ (by decide)
    have ed := (ndm (T := x) (d := 10)).1
    have em := (ndm (T := x) (d := 10)).2
    have hdm := Nat.div_add_mod x 10
    have hdig : Dg (l ++ [x % 10]) := fun d hd' => by
      rcases List.mem_append.1 hd' with h | h
      · exact hd d h
      · simp at h; omega
    obtain ⟨l', h1, h2, h3, h4⟩ := text_inner (V := V) (Q := Q) z0 z1 z2 z3 z4 z5 z6 z7 z8 z9 z10 m (i + 1) (x / 10) (l ++ [x % 10]) (by omega) (by rw [Nat.pow_succ] at hx; omega) (by simp; omega) hdig (by
      rw [Nat.pow_succ] at hv
      rw [lv_snoc, List.length_append, List.length_singleton, Nat.pow_succ, ← hv]
      have e1 : 10 ^ l.length * (x + 10 ^ m * 10 * Q) = 10 ^ l.length * (x % 10) + 10 ^ l.length * 10 * (x / 10 + 10 ^ m * Q) := by
        rw [Nat.mul_assoc (10 ^ l.length) 10, ← Nat.mul_add]
        congr 1
        rw [Nat.mul_add, Nat.mul_comm (10 ^ m) 10, Nat.mul_assoc 10]
        omega
      rw [e1]; omega)
    refine ⟨l', ?_, h2, by rw [h3]; simp; omega, h4⟩
    rw [← h1]
    refine runL_next (Tr.is_br_t (dt (by first | omega | (dsimp only; omega))) (Tr.is_ast ?_ (Tr.is_leaf ?_)))
    · apply dt; simp; omega
    · dsimp only
      have e5 : IntKind.u8.wrap (IntKind.u64.wrap (48 + (x : Int).tmod 10)) = chI (x % 10) := by
        rw [show (10 : Int) = ((10 : Nat) : Int) from rfl, em]; exact chI_wrap hm10
      have e6 : IntKind.u64.wrap ((x : Int).tdiv 10) = ((x / 10 : Nat) : Int) := by
        rw [show (10 : Int) = ((10 : Nat) : Int) from rfl, ed, u64i (by omega) (by omega)]
      rw [e4, e5, e6, List.map_append]; rfl
theorem text_outer {V n : Nat} (z : List UInt8) (hn : n ≤ 20000) : ∀ (k : Nat) (a : List Int) (x : Nat) (l : List Nat), x < 2 ^ k → NumIs a x n → k ≤ 100000 → l.length + 9 * k ≤ 1000000 → Dg l → lv l + 10 ^ l.length * x = V →
    ∃ a' l', runL (n_Text_L0_step z) (k + 1) (a, l.map chI) = some (a', l'.map chI) ∧ Dg l' ∧ lv l' = V ∧ l'.length ≤ 1000000 := by
  have fin : ∀ (k : Nat) (a : List Int) (l : List Nat), NumIs a 0 n → runL (n_Text_L0_step z) (k + 1) (a, l.map chI) = some (a, l.map chI) := fun k a l ha =>
    runL_out (Tr.is_br_f (by have := len_nz ha; exact this) (Tr.is_leaf rfl))
  intro k
  induction k with
  | zero =>
    intro a x l hx ha hk hl hd hv
    have : x = 0 := by simpa using hx
    subst this
    exact ⟨a, l, fin 0 a l ha, hd, by simpa using hv, by omega⟩
  | succ k ih =>
    intro a x l hx ha hk hl hd hv
    rcases Nat.eq_zero_or_pos x with h0 | h0
    · subst h0
      exact ⟨a, l, fin (k + 1) a l ha, hd, by simpa using hv, by omega⟩
    · have hnz := len_nz ha
      rw [dt h0] at hnz
      obtain ⟨aw, az, rfl, al⟩ := ha
      obtain ⟨s1, s2, s3⟩ : n_short_s a 1000000000 = true ∧ NumIs (n_short a 1000000000).1 (wv a / 1000000000) a.length ∧ NumIs (n_short a 1000000000).2 (wv a % 1000000000) 2 := nshort_spec aw (by omega) (b := 1000000000) (by decide) (by decide)
      obtain ⟨t1, t2⟩ := at_spec s3.1 (i := 0)
      obtain ⟨l', h1, h2, h3, h4⟩ := text_inner (V := V) (Q := wv a / 1000000000) (n_short a 1000000000).1 z (n_short a 1000000000).2 a (a.length : Int) true a (n_short a 1000000000).1 (n_short a 1000000000).2 (n_short a 1000000000).2 (n_at (n_short a 1000000000).2 0) 9 0 (wv a % 1000000000) l (by omega)
        (Nat.mod_lt _ (by decide)) (by omega) hd (by rw [Nat.add_comm (wv a % _), show 10 ^ 9 = 1000000000 from rfl, Nat.div_add_mod]; exact hv)
      obtain ⟨a', l2, k1, k2, k3, k4⟩ := ih (n_short a 1000000000).1 (wv a / 1000000000) l' (by rw [Nat.pow_succ] at hx; omega) ⟨s2.1, s2.2.1, s2.2.2.1, Nat.le_trans s2.2.2.2 al⟩ (by omega) (by omega) h2 h4
      refine ⟨a', l2, ?_, k2, k3, k4⟩
      have hw0 := wv_word s3.1 0
      have hd0 := s3.1.getD 0
      unfold W32 at hd0
      rw [s3.2.2.1, Nat.pow_zero, Nat.div_one, Nat.mod_eq_of_lt (by omega)] at hw0
      have ex : n_at (n_short a 1000000000).2 0 = ((wv a % 1000000000 : Nat) : Int) := by
        have t1' : n_at (n_short a 1000000000).2 0 = (n_short a 1000000000).2.getD 0 0 := t1
        rw [t1', ← hw0]; omega
      have hr : n_Text_L1_r ((n_short a 1000000000).1, z, (n_short a 1000000000).2, a, (a.length : Int), true, a, (n_short a 1000000000).1, (n_short a 1000000000).2, (n_short a 1000000000).2, n_at (n_short a 1000000000).2 0) (n_at (n_short a 1000000000).2 0, 0, l.map chI) = some (0, 9, l'.map chI) := by
        rw [ex]
        rw [ex] at h1
        exact runB_of h1 (by omega)
      rw [← k1]
      refine runL_next (Tr.is_br_t hnz (Tr.is_ast s1 (Tr.is_ast t2 (Tr.is_ast ?_ (Tr.is_leaf ?_)))))
      · show n_Text_L1_ok _ _ = true
        unfold n_Text_L1_ok; rw [hr]; rfl
      · dsimp only
        unfold n_Text_L1_v; rw [hr]; rfl
theorem getD_map_chI {l : List Nat} {i : Nat} (h : i < l.length) : (l.map chI).getD i 0 = chI (l.getD i 0) := by
  simp [List.getD, h]
theorem take_snoc {α : Type} {l : List α} {n : Nat} (d : α) (h : n < l.length) : l.take (n + 1) = l.take n ++ [l.getD n d] := by
  rw [List.take_add_one]; simp [List.getD, h]
theorem text_trim (z : List UInt8) (l : List Nat) (hl : l.length ≤ 1000000) : ∀ n : Nat, n ≤ l.length → lv (l.take n) = lv l →
    ∃ n', runL (n_Text_L2_step (z, l.map chI)) (n + 1) (0, n) = some (0, n') ∧ n' ≤ l.length ∧ lv (l.take n') = lv l ∧ Nzd (l.take n')
  | 0, _, hv => ⟨0, runL_out (Tr.is_br_f (df (by first | omega | (dsimp only; omega))) (Tr.is_leaf rfl)), Nat.zero_le _, hv, by
      intro a x h; simp at h⟩
  | n + 1, hn, hv => by
    have e4 : IntKind.i64.wrap (((n + 1 : Nat) : Int) - 1) = (n : Int) := by rw [w64 (by omega) (by omega)]; omega
    have hsn := take_snoc (l := l) (n := n) 0 (by omega)
    have ht : ∀ v, Tr.Is (.br (chI (l.getD n 0) == 48) (.leaf (.inl (0, n))) (.leaf (.inr (0, n + 1)))) v → Tr.Is (n_Text_L2_step (z, l.map chI) (0, n + 1)) v := by
      intro v hv
      refine Tr.is_br_t (dt (by first | omega | (dsimp only; omega))) (Tr.is_ast ?_ ?_)
      · dsimp only; rw [e4]; simp; omega
      · dsimp only
        have e5 : 0 + ((n : Int)).toNat = n := by simp
        rw [e4, e5, getD_map_chI (by omega)]
        by_cases hc : (chI (l.getD n 0) == 48) = true
        · rw [hc] at hv ⊢
          refine Tr.is_br_t rfl (Tr.is_ast (by simp; omega) ?_)
          exact hv
        · have hc : (chI (l.getD n 0) == 48) = false := by simpa using hc
          rw [hc] at hv ⊢
          exact hv
    by_cases h0 : l.getD n 0 = 0
    · have hc : (chI (l.getD n 0) == 48) = true := by rw [h0]; rfl
      obtain ⟨n', k1, k2, k3, k4⟩ := text_trim z l hl n (by omega) (by rw [hsn, lv_snoc, h0] at hv; simpa using hv)
      refine ⟨n', ?_, k2, k3, k4⟩
      rw [runL_next (ht (.inl (0, n)) (Tr.is_br_t hc (Tr.is_leaf rfl)))]
      exact k1
    · have hc : (chI (l.getD n 0) == 48) = false := bf (by unfold chI; omega)
      refine ⟨n + 1, runL_out (ht (.inr (0, n + 1)) (Tr.is_br_f hc (Tr.is_leaf rfl))), hn, hv, ?_⟩
      intro a x hx
      rw [hsn] at hx
      have := List.append_inj' hx rfl
      simp at this
      rw [← this.2]; exact h0
/-- what slices.Reverse has done after i rounds -/
theorem rev_run {h0 : List Int} {n : Nat} (hn : n ≤ h0.length) (hl : h0.length ≤ 1000000) : ∀ (m i : Nat) (h : List Int), 2 * i + m = n + 1 → i ≤ n → h.length = h0.length → (∀ t, t < n → h.getD t 0 = if t < i ∨ n ≤ t + i then h0.getD (n - 1 - t) 0 else h0.getD t 0) →
    ∃ h' a b, runL (s_Rev_L0_step (0, n)) (m + 1) ((i : Int), (n : Int) - 1 - (i : Int), h) = some (a, b, h') ∧ h'.length = h0.length ∧ ∀ t, t < n → h'.getD t 0 = h0.getD (n - 1 - t) 0 := by
  intro m
  induction m using Nat.strongRecOn with
  | _ m ih =>
    intro i h hm hi hlen hg
    by_cases hc : 2 * i + 1 < n
    · obtain ⟨m, rfl⟩ : ∃ k, m = k + 2 := ⟨m - 2, by omega⟩
      have e4 : IntKind.i64.wrap ((i : Int) + 1) = ((i + 1 : Nat) : Int) := wnext (by omega)
      have e5 : IntKind.i64.wrap ((n : Int) - 1 - (i : Int) - 1) = (n : Int) - 1 - ((i + 1 : Nat) : Int) := by rw [w64 (by omega) (by omega)]; omega
      have ej : ((n : Int) - 1 - (i : Int)).toNat = n - 1 - i := by omega
      have hstep : Tr.Is (s_Rev_L0_step (0, n) ((i : Int), (n : Int) - 1 - (i : Int), h)) (.inl (((i + 1 : Nat) : Int), (n : Int) - 1 - ((i + 1 : Nat) : Int), (h.set i (h.getD (n - 1 - i) 0)).set (n - 1 - i) (h.getD i 0))) := by
        refine Tr.is_br_t (dt (by first | omega | (dsimp only; omega))) (Tr.is_ast ?_ (Tr.is_ast ?_ (Tr.is_ast ?_ (Tr.is_ast ?_ (Tr.is_leaf ?_)))))
        · simp; omega
        · simp; omega
        · simp; omega
        · simp; omega
        · dsimp only
          rw [e4, e5, ej]; simp
      obtain ⟨h', a, b, k1, k2, k3⟩ := ih m (by omega) (i + 1) ((h.set i (h.getD (n - 1 - i) 0)).set (n - 1 - i) (h.getD i 0)) (by omega) (by omega) (by simp [hlen]) (by
        intro t ht
        have gi := hg i (by omega)
        have gj := hg (n - 1 - i) (by omega)
        rw [if_neg (by omega)] at gi gj
        by_cases h1 : t = n - 1 - i
        · subst h1
          rw [if_pos (by omega)]
          have e1 : ((h.set i (h.getD (n - 1 - i) 0)).set (n - 1 - i) (h.getD i 0)).getD (n - 1 - i) 0 = h.getD i 0 := by
            have h6 : n - 1 - i < h.length := by omega
            simp [List.getD, h6]
          rw [e1, gi, show n - 1 - (n - 1 - i) = i by omega]
        · rw [getD_set_ne (fun e => h1 e.symm)]
          by_cases h2 : t = i
          · subst h2
            rw [if_pos (by omega)]
            have e1 : (h.set t (h.getD (n - 1 - t) 0)).getD t 0 = h.getD (n - 1 - t) 0 := by
              have h6 : t < h.length := by omega
              simp [List.getD, h6]
            rw [e1, gj]
          · rw [getD_set_ne (fun e => h2 e.symm), hg t ht]
            by_cases h3 : t < i ∨ n ≤ t + i
            · rw [if_pos h3, if_pos (by omega)]
            · rw [if_neg h3, if_neg (by omega)])
      refine ⟨h', a, b, ?_, k2, k3⟩
      have : runL (s_Rev_L0_step (0, n)) (m + 2 + 1) ((i : Int), (n : Int) - 1 - (i : Int), h) = runL (s_Rev_L0_step (0, n)) (m + 1 + 1) (((i + 1 : Nat) : Int), (n : Int) - 1 - ((i + 1 : Nat) : Int), (h.set i (h.getD (n - 1 - i) 0)).set (n - 1 - i) (h.getD i 0)) := runL_next hstep
      rw [this]
      exact runL_more k1 _ (by omega)
    · refine ⟨h, (i : Int), (n : Int) - 1 - (i : Int), runL_out (Tr.is_br_f (df (by first | omega | (dsimp only; omega))) (Tr.is_leaf rfl)), hlen, fun t ht => ?_⟩
      rw [hg t ht]
      by_cases h3 : t < i ∨ n ≤ t + i
      · rw [if_pos h3]
      · rw [if_neg h3, show n - 1 - t = t by omega]
theorem rev_spec {h : List Int} {n : Nat} (hn : n ≤ h.length) (hl : h.length ≤ 1000000) : s_Rev_s h 0 n = true ∧ ((s_Rev h 0 n).2.drop 0).take n = (h.take n).reverse := by
  obtain ⟨h', a, b, h1, h2, h3⟩ := rev_run hn hl (n + 1) 0 h (by omega) (by omega) rfl (fun t ht => by rw [if_neg (by omega)])
  have e : IntKind.i64.wrap ((n : Int) - 1) = (n : Int) - 1 - ((0 : Nat) : Int) := by rw [w64 (by omega) (by omega)]; omega
  have hr : s_Rev_L0_r (0, n) (0, IntKind.i64.wrap ((n : Int) - 1), h) = some (a, b, h') := by
    rw [e]; exact runB_of h1 (by omega)
  have : Tr.Is (s_Rev_t h 0 n) ((), h') := by
    refine Tr.is_ast ?_ (Tr.is_leaf ?_)
    · unfold s_Rev_L0_ok; rw [hr]; rfl
    · unfold s_Rev_L0_v; rw [hr]; rfl
  refine ⟨this.2, ?_⟩
  have e2 : s_Rev h 0 n = ((), h') := this.1
  rw [e2, List.drop_zero]
  refine List.ext_getElem (by simp; omega) fun t ht1 ht2 => ?_
  have ht : t < n := by simp at ht1; omega
  have := h3 t ht
  have l1 : t < h'.length := by omega
  have l2 : n - 1 - t < h.length := by omega
  simp only [List.getD, List.getElem?_eq_getElem l1, List.getElem?_eq_getElem l2, Option.getD_some] at this
  simp only [List.getElem_take, List.getElem_reverse, List.length_take, this]
  congr 1
  omega
theorem ntext_spec {a : List Int} (ha : Wds a) (hl : a.length ≤ 1000) : n_Text_s a = true ∧ TextIs (n_Text a) (wv a) := by
  obtain ⟨t1, t2⟩ := numIs_trim (n := a.length) ha (Nat.le_refl _) (by omega)
  have hlt : wv a < 2 ^ (32 * a.length) := by rw [Nat.pow_mul]; exact wv_lt ha
  obtain ⟨a', l, h1, h2, h3, h4⟩ := text_outer (V := wv a) [] (n := a.length) (by omega) (32 * a.length) (n_trim a) (wv a) [] hlt t1 (by omega) (by simp; omega) (fun d hd => by cases hd) (by simp [lv])
  obtain ⟨n, k1, k2, k3, k4⟩ := text_trim [] l h4 l.length (Nat.le_refl _) (by rw [List.take_length])
  have hr0 : n_Text_L0_r [] (n_trim a, []) = some (a', l.map chI) := runB_of h1 (by omega)
  have hr1 : n_Text_L2_r ([], l.map chI) (0, l.length) = some (0, n) := runB_of k1 (by omega)
  have hd : Dg (l.take n) := fun d hd => h2 d (List.mem_of_mem_take hd)
  have hfin : ∀ v, Tr.Is (.br ((n : Int) == 0) (.leaf [48]) (.ast (s_Rev_s (l.map chI) 0 n) (.leaf (((((s_Rev (l.map chI) 0 n).2.drop 0).take n)).map (fun (k : Int) => UInt8.ofNat k.toNat))))) v → Tr.Is (n_Text_t a) v := by
    intro v hv
    unfold n_Text_t n_Text_T
    have e0 : (#[] : Array UInt8).toList = [] := rfl
    have q0 : n_Text_L0_ok [] (n_trim a, []) = true := by unfold n_Text_L0_ok; rw [hr0]; rfl
    have q1 : n_Text_L0_v [] (n_trim a, []) = (a', l.map chI) := by unfold n_Text_L0_v; rw [hr0]; rfl
    have q2 : n_Text_L2_ok ([], l.map chI) (0, l.length) = true := by unfold n_Text_L2_ok; rw [hr1]; rfl
    have q3 : n_Text_L2_v ([], l.map chI) (0, l.length) = (0, n) := by unfold n_Text_L2_v; rw [hr1]; rfl
    simp only [q0, q1, List.length_map, q2, q3]
    exact Tr.is_ast t2 (Tr.is_ast rfl (Tr.is_ast rfl hv))
  suffices h : ∃ v, Tr.Is (n_Text_t a) v ∧ TextIs v (wv a) by
    obtain ⟨v, h5, h6⟩ := h
    have e : n_Text a = v := h5.1
    rw [e]; exact ⟨h5.2, h6⟩
  rcases Nat.eq_zero_or_pos n with h0 | h0
  · subst h0
    refine ⟨[48], hfin _ (Tr.is_br_t rfl (Tr.is_leaf rfl)), [], (fun d hd => by cases hd), (fun a x h => by cases a <;> cases h), ?_, rfl⟩
    rw [← h3, ← k3]; rfl
  · obtain ⟨r1, r2⟩ := rev_spec (h := l.map chI) (n := n) (by simp; omega) (by simp; omega)
    refine ⟨_, hfin _ (Tr.is_br_f (bf (by omega)) (Tr.is_ast r1 (Tr.is_leaf rfl))), l.take n, hd, k4, by rw [k3, h3], ?_⟩
    have hne : (l.take n).isEmpty = false := by
      cases hc : l.take n with
      | nil => have := congrArg List.length hc; rw [List.length_take, List.length_nil] at this; omega
      | cons => rfl
    rw [r2, hne, ← List.map_take, List.map_reverse, List.map_map]
    have : ((fun (k : Int) => UInt8.ofNat k.toNat) ∘ chI) = chU := funext chI_to
    rw [this]; rfl
end Go.Fb
namespace Go.Fb
open Go.Ev
def isDig (c : UInt8) : Bool := decide (48 ≤ c.toNat) && decide (c.toNat ≤ 57)
def valS (s : List UInt8) : Nat := s.foldl (fun v c => 10 * v + (c.toNat - 48)) 0
theorem valS_snoc (s : List UInt8) (c : UInt8) : valS (s ++ [c]) = 10 * valS s + (c.toNat - 48) := by simp [valS]
theorem rtext_run {ten : List Bool} (hten : bv ten = 10) (htl : ten.length = 64) (z : List UInt8) : ∀ (k : Nat) (b : List Bool) (l : List Nat), bv b < 2 ^ k → b.length ≤ 1000 → l.length + k ≤ 100000 → Dg l → (bv b = 0 → Nzd l) →
    ∃ b' l', runL (r2_Text_L0_step (z, ten)) (k + 1) (b, (l.map chU).reverse) = some (b', (l'.map chU).reverse) ∧ Dg l' ∧ Nzd l' ∧ lv l' = lv l + 10 ^ l.length * bv b := by
  intro k
  induction k with
  | zero =>
    intro b l hx hb hl hd hnz
    have h0 : bv b = 0 := by simpa using hx
    obtain ⟨n, t1, t2, t3, t4, t5, t6⟩ := trim_spec (a := b) (by omega)
    refine ⟨b, l, runL_out (Tr.is_ast t1 (Tr.is_br_f ?_ (Tr.is_leaf rfl))), hd, hnz h0, by rw [h0]; simp⟩
    rw [t2, isLen t6, df (by omega)]
  | succ k ih =>
    intro b l hx hb hl hd hnz
    obtain ⟨n, t1, t2, t3, t4, t5, t6⟩ := trim_spec (a := b) (by omega)
    rcases Nat.eq_zero_or_pos (bv b) with h0 | h0
    · refine ⟨b, l, runL_out (Tr.is_ast t1 (Tr.is_br_f ?_ (Tr.is_leaf rfl))), hd, hnz h0, by rw [h0]; simp⟩
      rw [t2, isLen t6, df (by omega)]
    · have hc : decide (r1_Len b > 0) = true := by rw [t2, isLen t6, dt (by omega)]
      obtain ⟨d1, d2, d3, d4, d5, d6⟩ := rdiv_spec (a := b) (b := ten) (by omega) (by omega) (by omega)
      rw [hten] at d3 d5
      obtain ⟨q, u1, u2, u3, u4, u5, u6⟩ := trim_spec (a := (r1_Div b ten).1) (by omega)
      rw [d3] at u4
      obtain ⟨w1, w2⟩ := words1_spec (b := (r1_Div b ten).2) (by omega)
      rw [d5, Nat.mod_eq_of_lt (by have := Nat.mod_lt (bv b) (by decide : 0 < 10); omega)] at w1
      have hm10 : bv b % 10 < 10 := Nat.mod_lt _ (by decide)
      have hdig : Dg (l ++ [bv b % 10]) := fun d hd' => by
        rcases List.mem_append.1 hd' with h | h
        · exact hd d h
        · simp at h; omega
      obtain ⟨b', l', h1, h2, h3, h4⟩ := ih ((r1_Div b ten).1.take q) (l ++ [bv b % 10]) (by rw [u4]; rw [Nat.pow_succ] at hx; omega) (by rw [u5]; omega) (by simp; omega) hdig (fun h a x hax => by
        have := (List.append_inj' hax rfl).2
        simp at this
        rw [u4] at h
        rw [← this]; omega)
      refine ⟨b', l', ?_, h2, h3, ?_⟩
      · rw [← h1]
        refine runL_next (Tr.is_ast t1 (Tr.is_br_t hc (Tr.is_ast d1 (Tr.is_ast w2 (Tr.is_ast ?_ (Tr.is_ast ?_ (Tr.is_ast u1 (Tr.is_ast ?_ (Tr.is_leaf ?_)))))))))
        · dsimp only; rw [w1]; rfl
        · apply dt; simp; omega
        · dsimp only; rw [u2]; simp; omega
        · dsimp only
          rw [u2, w1]
          have e6 : ([((bv b % 10 : Nat) : Int)].getD (Int.toNat 0) 0) = ((bv b % 10 : Nat) : Int) := rfl
          rw [e6, chI_wrap hm10, chI_to]
          simp
      · rw [h4, lv_snoc, u4, List.length_append, List.length_singleton, Nat.pow_succ, Nat.add_assoc, Nat.mul_assoc, ← Nat.mul_add, Nat.add_comm (bv b % 10), Nat.div_add_mod]
theorem rtext_spec {b : List Bool} (hb : b.length ≤ 1000) : r2_Text_s b = true ∧ TextIs (r2_Text b) (bv b) := by
  obtain ⟨o1, o2, o3⟩ := of1_spec (x := 10) ⟨by omega, by omega⟩
  obtain ⟨b', l, h1, h2, h3, h4⟩ := rtext_run (ten := r1_Of1 10) (by rw [o3]; rfl) o2 [] b.length b [] (bv_lt b) hb (by simp; omega) (fun d hd => by cases hd) (fun _ a x h => by cases a <;> cases h)
  have hr : r2_Text_L0_r ([], r1_Of1 10) (b, []) = some (b', (l.map chU).reverse) := runB_of h1 (by omega)
  have hv : lv l = bv b := by rw [h4]; simp [lv]
  have hfin : ∀ v, Tr.Is (.br ((l.map chU).reverse == ([] : List UInt8)) (.leaf [48]) (.leaf (l.map chU).reverse)) v → Tr.Is (r2_Text_t b) v := by
    intro v hv
    unfold r2_Text_t r2_Text_T
    have e0 : (#[] : Array UInt8).toList = [] := rfl
    have q0 : r2_Text_L0_ok ([], r1_Of1 10) (b, []) = true := by unfold r2_Text_L0_ok; rw [hr]; rfl
    have q1 : r2_Text_L0_v ([], r1_Of1 10) (b, []) = (b', (l.map chU).reverse) := by unfold r2_Text_L0_v; rw [hr]; rfl
    simp only [q0, q1]
    exact Tr.is_ast o1 (Tr.is_ast rfl hv)
  cases l with
  | nil =>
    have := hfin [48] (Tr.is_br_t rfl (Tr.is_leaf rfl))
    have e : r2_Text b = [48] := this.1
    rw [e]
    exact ⟨this.2, [], h2, h3, hv, rfl⟩
  | cons d l =>
    have hne : (((d :: l).map chU).reverse == ([] : List UInt8)) = false := by
      cases hc : ((d :: l).map chU).reverse with
      | nil => have := congrArg List.length hc; simp at this
      | cons => rfl
    have := hfin _ (Tr.is_br_f hne (Tr.is_leaf rfl))
    have e : r2_Text b = ((d :: l).map chU).reverse := this.1
    rw [e]
    exact ⟨this.2, d :: l, h2, h3, hv, rfl⟩
theorem chU_to {d : Nat} (h : d < 10) : (chU d).toNat = 48 + d := by
  unfold chU; rw [UInt8.toNat_ofNat']; exact Nat.mod_eq_of_lt (by omega)
theorem valS_digits : ∀ {l : List Nat}, Dg l → valS (l.map chU).reverse = lv l
  | [], _ => rfl
  | d :: l, h => by
    have h1 := valS_digits (l := l) fun x hx => h x (by simp [hx])
    rw [List.map_cons, List.reverse_cons, valS_snoc, h1, chU_to (h d (by simp))]
    simp only [lv]; omega
theorem all_digits {l : List Nat} (h : Dg l) : ((l.map chU).reverse).all isDig = true := by
  rw [List.all_reverse, List.all_map, List.all_eq_true]
  intro d hd
  have := h d hd
  simp [isDig, chU_to this]; omega
theorem text_read {s : List UInt8} {v k : Nat} (h : TextIs s v) (hk : v < 10 ^ k) : s ≠ [] ∧ s.all isDig = true ∧ valS s = v ∧ s.length ≤ k + 1 := by
  obtain ⟨l, h1, h2, h3, rfl⟩ := h
  cases l with
  | nil => exact ⟨by simp, by decide, h3, by simp⟩
  | cons d l =>
    have e : ((d :: l).isEmpty) = false := rfl
    rw [e]
    refine ⟨?_, all_digits h1, ?_, ?_⟩
    · intro h; have := congrArg List.length h; simp at this
    · show valS ((d :: l).map chU).reverse = v
      rw [valS_digits h1, h3]
    · have := nzd_len h2 h3 hk
      simp at this ⊢; omega
end Go.Fb
