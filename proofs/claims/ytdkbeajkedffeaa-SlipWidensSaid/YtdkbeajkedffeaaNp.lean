/- Layer 2: plain laws of what the functions compute. Conditions: as each theorem states. -/
import Derived.Test.YtdkbeajkedffeaaWp
import Derived.Test.YtdkbeajkedffeaaNl
namespace Go.Fb
open Go.Ev
def wv : List Int → Nat
  | [] => 0
  | x :: l => x.toNat + 4294967296 * wv l
def W32 (x : Int) : Prop := 0 ≤ x ∧ x < 4294967296
def Wds (l : List Int) : Prop := ∀ x ∈ l, W32 x
def Nz (l : List Int) : Prop := ∀ a x, l = a ++ [x] → x ≠ 0
theorem Wds.nil : Wds [] := fun _ h => nomatch h
theorem Wds.cons {x : Int} {l : List Int} (h : W32 x) (hl : Wds l) : Wds (x :: l) := fun y hy => by
  rcases List.mem_cons.1 hy with rfl | hy
  · exact h
  · exact hl y hy
theorem Wds.app {a b : List Int} (ha : Wds a) (hb : Wds b) : Wds (a ++ b) := fun y hy => (List.mem_append.1 hy).elim (ha y) (hb y)
theorem Wds.left {a b : List Int} (h : Wds (a ++ b)) : Wds a := fun y hy => h y (List.mem_append.2 (.inl hy))
theorem Wds.tail {x : Int} {l : List Int} (h : Wds (x :: l)) : Wds l := fun y hy => h y (List.mem_cons_of_mem _ hy)
theorem Wds.head {x : Int} {l : List Int} (h : Wds (x :: l)) : W32 x := h x List.mem_cons_self
theorem wv_app : ∀ a b : List Int, wv (a ++ b) = wv a + 4294967296 ^ a.length * wv b
  | [], b => by simp [wv]
  | x :: a, b => by
    simp only [List.cons_append, wv, wv_app a b, List.length_cons, Nat.pow_succ]
    rw [Nat.mul_add, ← Nat.mul_assoc, Nat.mul_comm 4294967296 (4294967296 ^ a.length)]
    omega
theorem wv_lt : ∀ {l : List Int}, Wds l → wv l < 4294967296 ^ l.length
  | [], _ => by simp [wv]
  | x :: l, h => by
    have h1 := wv_lt h.tail
    have h2 := h.head
    simp only [wv, List.length_cons, Nat.pow_succ]
    rw [Nat.mul_comm (4294967296 ^ l.length)]
    generalize 4294967296 ^ l.length = P at *
    generalize wv l = v at *
    unfold W32 at h2
    omega
def trimW : List Int → List Int
  | [] => []
  | x :: l => match trimW l with
    | [] => if x = 0 then [] else [x]
    | y :: m => x :: y :: m
theorem trimW_snoc0 : ∀ l : List Int, trimW (l ++ [0]) = trimW l
  | [] => rfl
  | x :: l => by simp only [List.cons_append, trimW, trimW_snoc0 l]
theorem trimW_snoc {x : Int} (hx : x ≠ 0) : ∀ l : List Int, trimW (l ++ [x]) = l ++ [x]
  | [] => by simp [trimW, hx]
  | y :: l => by
    simp only [List.cons_append, trimW, trimW_snoc hx l]
    cases l <;> rfl
theorem wv_trim : ∀ l : List Int, wv (trimW l) = wv l
  | [] => rfl
  | x :: l => by
    have ih := wv_trim l
    simp only [trimW]
    cases h : trimW l with
    | nil =>
      rw [h] at ih
      simp only [wv] at ih
      simp only
      split
      · rename_i h0; simp only [wv, ← ih, h0]; rfl
      · simp only [wv, ← ih]
    | cons y m =>
      rw [h] at ih
      simp only [wv] at ih ⊢
      omega
theorem snoc_cases (l : List Int) : l = [] ∨ ∃ a x, l = a ++ [x] := by
  rcases List.eq_nil_or_concat l with h | ⟨a, x, h⟩
  · exact .inl h
  · exact .inr ⟨a, x, by simpa using h⟩
theorem trim_all : ∀ (n : Nat) (l : List Int), l.length = n → (trimW l).length ≤ l.length ∧ Nz (trimW l) ∧ (Wds l → Wds (trimW l))
  | 0, l, h => by
    obtain rfl := List.eq_nil_of_length_eq_zero h
    refine ⟨Nat.le_refl _, ?_, id⟩
    intro a x h
    cases a <;> cases h
  | n + 1, l, h => by
    rcases snoc_cases l with rfl | ⟨a, x, rfl⟩
    · cases h
    · by_cases hx : x = 0
      · subst hx
        rw [trimW_snoc0]
        obtain ⟨h1, h2, h3⟩ := trim_all n a (by simpa using h)
        exact ⟨by simp; omega, h2, fun hw => h3 hw.left⟩
      · rw [trimW_snoc hx]
        refine ⟨Nat.le_refl _, fun b y hy => ?_, id⟩
        have := List.append_inj' hy rfl
        cases this.2
        exact hx
theorem wv_inj : ∀ {a b : List Int}, Wds a → Wds b → Nz a → Nz b → wv a = wv b → a = b := by
  have key : ∀ {a : List Int}, Wds a → Nz a → wv a = 0 → a = [] := by
    intro a
    induction a with
    | nil => intros; rfl
    | cons x l ih =>
      intro hw hn h
      simp only [wv] at h
      have h0 : wv l = 0 := by omega
      have hl := ih hw.tail (fun b y hy => hn (x :: b) y (by rw [hy]; rfl)) h0
      subst hl
      have := hn [] x rfl
      have hx := hw.head
      unfold W32 at hx
      omega
  intro a
  induction a with
  | nil =>
    intro b _ hb _ hnb h
    exact (key hb hnb h.symm).symm
  | cons x l ih =>
    intro b ha hb hna hnb h
    cases b with
    | nil => exact key ha hna h
    | cons y m =>
      simp only [wv] at h
      have hx := ha.head
      have hy := hb.head
      unfold W32 at hx hy
      have e : x = y := by omega
      subst e
      have : wv l = wv m := by omega
      rw [ih ha.tail hb.tail (fun b z hz => hna (x :: b) z (by rw [hz]; rfl)) (fun b z hz => hnb (x :: b) z (by rw [hz]; rfl)) this]
theorem trim_run : ∀ (n : Nat) (l : List Int), l.length = n → n ≤ 4611686018427387904 → runL (n_trim_L0_step ()) (n + 1) l = some (trimW l)
  | 0, l, h, _ => by
    obtain rfl := List.eq_nil_of_length_eq_zero h
    rfl
  | n + 1, l, h, hn => by
    rcases snoc_cases l with rfl | ⟨a, x, rfl⟩
    · cases h
    have hl : a.length = n := by simpa using h
    have e1 : IntKind.i64.wrap (((a ++ [x]).length : Int) - 1) = (a.length : Int) := by
      have hl2 : (a ++ [x]).length = a.length + 1 := by simp
      rw [hl2, w64 (by omega) (by omega)]; omega
    have e2 : (a ++ [x]).getD ((a.length : Int)).toNat 0 = x := by simp
    have e3 : List.take (((some (a.length : Int)).getD ((a ++ [x]).length : Int)).toNat - Int.toNat 0) (List.drop (Int.toNat 0) (a ++ [x])) = a := by simp
    have e4 : decide (((a ++ [x]).length : Int) > 0) = true := by simp
    have e5 : (decide ((0 : Int) ≤ a.length) && decide ((a.length : Int) < ((a ++ [x]).length : Int))) = true := by simp; omega
    have e6 : (decide ((0 : Int) ≤ (some (a.length : Int)).getD ((a ++ [x]).length : Int)) && decide ((some (a.length : Int)).getD ((a ++ [x]).length : Int) ≤ ((a ++ [x]).length : Int))) = true := by simp; omega
    unfold runL
    simp only [n_trim_L0_step, n_trim_L0_T, e1, e2, e3, e4, e5, e6, Tr.val, Tr.safe, cond_true, Bool.true_and]
    by_cases hx : x = 0
    · subst hx
      simp only [beq_self_eq_true, cond_true]
      rw [trimW_snoc0]
      exact trim_run n a hl (by omega)
    · have : (x == 0) = false := by simp [hx]
      simp only [this, cond_false]
      rw [trimW_snoc hx]; rfl
theorem ntrim_spec {a : List Int} (h : a.length ≤ 4611686018427387904) : n_trim a = trimW a ∧ n_trim_s a = true := by
  have h1 : n_trim_L0_r () a = some (trimW a) := runB_of (trim_run a.length a rfl h) (by omega)
  have h2 : n_trim_L0_ok () a = true := by unfold n_trim_L0_ok; rw [h1]; rfl
  have h3 : n_trim_L0_v () a = trimW a := by unfold n_trim_L0_v; rw [h1]; rfl
  simp only [n_trim, n_trim_s, n_trim_t, n_trim_T, Tr.val, Tr.safe, h2, h3, Bool.true_and, and_self]
end Go.Fb
namespace Go.Fb
open Go.Ev
end Go.Fb
namespace Go.Fb
open Go.Ev
theorem u32w (n : Int) : IntKind.u32.wrap n = n % 4294967296 := by
  simp only [IntKind.wrap, IntKind.bits, IntKind.signed]
  rfl
theorem u32i {n : Int} (h0 : 0 ≤ n) (h1 : n < 4294967296) : IntKind.u32.wrap n = n := by rw [u32w]; omega
theorem wv_set : ∀ (l : List Int) (j : Nat) (y : Int), j < l.length → wv (l.set j y) + 4294967296 ^ j * (l.getD j 0).toNat = wv l + 4294967296 ^ j * y.toNat
  | [], j, y, h => by simp at h
  | x :: l, 0, y, h => by
    simp only [List.set_cons_zero, wv, List.getD_cons_zero, Nat.pow_zero]
    omega
  | x :: l, j + 1, y, h => by
    have ih := wv_set l j y (by simpa using h)
    simp only [List.set_cons_succ, wv, List.getD_cons_succ, Nat.pow_succ]
    rw [Nat.mul_comm (4294967296 ^ j) 4294967296, Nat.mul_assoc, Nat.mul_assoc]
    generalize 4294967296 ^ j * (l.getD j 0).toNat = P at *
    generalize 4294967296 ^ j * y.toNat = R at *
    omega
theorem Wds.set {l : List Int} (h : Wds l) {j : Nat} {y : Int} (hy : W32 y) : Wds (l.set j y) := fun z hz => by
  rcases List.mem_or_eq_of_mem_set hz with h1 | rfl
  · exact h z h1
  · exact hy
theorem Wds.getD {l : List Int} (h : Wds l) (j : Nat) : W32 (l.getD j 0) := by
  rcases Nat.lt_or_ge j l.length with hj | hj
  · have : l.getD j 0 = l[j] := by simp [hj]
    rw [this]; exact h _ (List.getElem_mem hj)
  · have : l.getD j 0 = 0 := by simp [hj]
    rw [this]; exact ⟨by decide, by decide⟩
theorem wv_word {l : List Int} (h : Wds l) : ∀ j : Nat, (l.getD j 0).toNat = wv l / 4294967296 ^ j % 4294967296 := by
  induction l with
  | nil => intro j; simp [wv]
  | cons x l ih =>
    intro j
    have hx := h.head
    unfold W32 at hx
    cases j with
    | zero =>
      simp only [List.getD_cons_zero, wv, Nat.pow_zero, Nat.div_one]
      omega
    | succ j =>
      rw [List.getD_cons_succ, ih h.tail j, Nat.pow_succ, Nat.mul_comm (4294967296 ^ j), ← Nat.div_div_eq_div_mul]
      congr 2
      simp only [wv]
      generalize wv l = v at *
      omega
theorem wv_rep (n : Nat) : wv (List.replicate n 0) = 0 := by
  induction n with
  | zero => rfl
  | succ n ih => simp [List.replicate_succ, wv, ih]
theorem Wds.rep (n : Nat) : Wds (List.replicate n 0) := fun x hx => by
  rw [(List.mem_replicate.1 hx).2]; exact ⟨by decide, by decide⟩
end Go.Fb
namespace Go.Fb
open Go.Ev
theorem tdiv32 {i : Nat} (h : i < 4611686018427387904) : IntKind.i64.wrap ((i : Int).tdiv 32) = ((i / 32 : Nat) : Int) := by
  have e : (i : Int).tdiv 32 = ((i / 32 : Nat) : Int) := by
    rw [show (32 : Int) = ((32 : Nat) : Int) from rfl, Int.natCast_tdiv_eq_ediv]; rfl
  rw [e, w64 (by omega) (by omega)]
theorem pow_block (i : Nat) : 4294967296 ^ (i / 32) * 2 ^ (i % 32) = 2 ^ i := by
  rw [show 4294967296 = 2 ^ 32 from rfl, ← Nat.pow_mul, ← Nat.pow_add, Nat.div_add_mod]
end Go.Fb
namespace Go.Fb
open Go.Ev
theorem shr32_nat (x k : Nat) (hk : k ≤ 32) : shrI .u32 (x : Int) (k : Int) = ((x / 2 ^ k : Nat) : Int) := by
  simp only [shrI, IntKind.bits, Int.toNat_natCast, Nat.min_eq_left hk]
  rw [Int.fdiv_eq_ediv_of_nonneg _ (Int.le_of_lt (Int.pow_pos (by decide)))]
  simp
theorem wv_take_succ {a : List Int} {i : Nat} (h : i < a.length) : wv (a.take (i + 1)) = wv (a.take i) + 4294967296 ^ i * (a.getD i 0).toNat := by
  have e : a.take (i + 1) = a.take i ++ [a.getD i 0] := by
    rw [List.take_add_one]
    simp [h]
  rw [e, wv_app]
  simp [wv, Nat.min_eq_left (Nat.le_of_lt h)]
end Go.Fb
namespace Go.Fb
open Go.Ev
theorem at_spec {a : List Int} (hw : Wds a) {i : Nat} : n_at a (i : Int) = a.getD i 0 ∧ n_at_s a (i : Int) = true := by
  have hd := hw.getD i
  unfold W32 at hd
  by_cases h : i < a.length
  · have e1 : decide ((i : Int) < (a.length : Int)) = true := decide_eq_true (by omega)
    have e2 : decide ((0 : Int) ≤ (i : Int)) = true := decide_eq_true (by omega)
    simp only [n_at, n_at_s, n_at_t, n_at_T, e1, e2, Int.toNat_natCast, Tr.val, Tr.safe, cond_true, Bool.and_true, and_true]
    exact u64i hd.1 (by omega)
  · have e1 : decide ((i : Int) < (a.length : Int)) = false := decide_eq_false (by omega)
    have e3 : a.getD i 0 = 0 := by have h2 : a.length ≤ i := by omega
                                   simp [List.getD, h2]
    simp only [n_at, n_at_s, n_at_t, n_at_T, e1, e3, Tr.val, Tr.safe, cond_false, and_self]
theorem wv_take_step {a : List Int} {i : Nat} : wv (a.take (i + 1)) = wv (a.take i) + 4294967296 ^ i * (a.getD i 0).toNat := by
  by_cases h : i < a.length
  · exact wv_take_succ h
  · rw [List.take_of_length_le (by omega), List.take_of_length_le (by omega)]
    have e3 : a.getD i 0 = 0 := by have h2 : a.length ≤ i := by omega
                                   simp [List.getD, h2]
    rw [e3]; simp
def NumIs (l : List Int) (v n : Nat) : Prop := Wds l ∧ Nz l ∧ wv l = v ∧ l.length ≤ n
theorem numIs_trim {l : List Int} {n : Nat} (hw : Wds l) (hn : l.length ≤ n) (hn2 : n ≤ 4611686018427387904) : NumIs (n_trim l) (wv l) n ∧ n_trim_s l = true := by
  obtain ⟨h1, h2⟩ := ntrim_spec (a := l) (by omega)
  obtain ⟨h3, h4, h5⟩ := trim_all l.length l rfl
  rw [h1]
  exact ⟨⟨h5 hw, h4, wv_trim l, by omega⟩, h2⟩
theorem imax_nat (x y : Nat) : imax (x : Int) (y : Int) = ((max x y : Nat) : Int) := by
  unfold imax
  split <;> omega
end Go.Fb
namespace Go.Fb
open Go.Ev
theorem div_block (n j : Nat) : n / 4294967296 ^ j = 4294967296 * (n / 4294967296 ^ (j + 1)) + n / 4294967296 ^ j % 4294967296 := by
  rw [Nat.pow_succ, ← Nat.div_div_eq_div_mul]
  omega
theorem ncmp_run {a b : List Int} (ha : Wds a) (hb : Wds b) : ∀ j : Nat, j ≤ 1000000 → wv a / 4294967296 ^ j = wv b / 4294967296 ^ j →
    runL (n_Cmp_L0_step (a, b, 0)) (j + 1) ((j : Int) - 1) = some (if wv a = wv b then .inl (-1) else .inr (cmpN (wv a) (wv b)))
  | 0, _, h => by
    have h : wv a = wv b := by simpa using h
    have e : decide (((0 : Nat) : Int) - 1 ≥ 0) = false := decide_eq_false (by omega)
    unfold runL
    simp only [n_Cmp_L0_step, n_Cmp_L0_T, e, Tr.val, Tr.safe, cond_false, cond_true]
    rw [if_pos h]; rfl
  | j + 1, hj, h => by
    have e0 : ((j + 1 : Nat) : Int) - 1 = (j : Int) := by omega
    have e1 : decide ((j : Int) ≥ 0) = true := decide_eq_true (by omega)
    have e4 : IntKind.i64.wrap ((j : Int) - 1) = (j : Int) - 1 := w64 (by omega) (by omega)
    have da := ha.getD j
    have db := hb.getD j
    unfold W32 at da db
    obtain ⟨u, hu⟩ : ∃ u : Nat, a.getD j 0 = (u : Int) := ⟨(a.getD j 0).toNat, by omega⟩
    obtain ⟨v, hv⟩ : ∃ v : Nat, b.getD j 0 = (v : Int) := ⟨(b.getD j 0).toNat, by omega⟩
    have wa := wv_word ha j
    have wb := wv_word hb j
    rw [hu, Int.toNat_natCast] at wa
    rw [hv, Int.toNat_natCast] at wb
    have xa := div_block (wv a) j
    have xb := div_block (wv b) j
    rw [← wa] at xa
    rw [← wb] at xb
    rw [h] at xa
    rw [e0]
    unfold runL
    simp only [n_Cmp_L0_step, n_Cmp_L0_T, e1, e4, (at_spec ha).1, (at_spec ha).2, (at_spec hb).1, (at_spec hb).2, hu, hv, Tr.val, Tr.safe, cond_true, Bool.true_and]
    by_cases huv : u = v
    · have : ((u : Int) != (v : Int)) = false := by rw [huv]; exact bne_self_eq_false _
      simp only [this, cond_false, cond_true]
      exact ncmp_run ha hb j (by omega) (by rw [xa, xb, huv])
    · have : ((u : Int) != (v : Int)) = true := by
        simp only [bne_iff_ne, ne_eq]; omega
      have hne : wv a ≠ wv b := fun e => by
        rw [e] at wa; omega
      simp only [this, cond_true]
      rw [if_neg hne]
      by_cases hlt : u < v
      · have e2 : decide ((u : Int) < (v : Int)) = true := decide_eq_true (by omega)
        simp only [e2, cond_true]
        have hd : wv a / 4294967296 ^ j < wv b / 4294967296 ^ j := by rw [xa, xb]; omega
        have : wv a < wv b := by
          rcases Nat.lt_or_ge (wv a) (wv b) with h1 | h1
          · exact h1
          · exact absurd (Nat.div_le_div_right (c := 4294967296 ^ j) h1) (by omega)
        unfold cmpN
        rw [if_pos this]
      · have e2 : decide ((u : Int) < (v : Int)) = false := decide_eq_false (by omega)
        simp only [e2, cond_false, cond_true]
        have hd : wv b / 4294967296 ^ j < wv a / 4294967296 ^ j := by rw [xa, xb]; omega
        have : wv b < wv a := by
          rcases Nat.lt_or_ge (wv b) (wv a) with h1 | h1
          · exact h1
          · exact absurd (Nat.div_le_div_right (c := 4294967296 ^ j) h1) (by omega)
        unfold cmpN
        rw [if_neg (by omega), if_neg (by omega)]
theorem ncmp_spec {a b : List Int} (ha : Wds a) (hb : Wds b) (hla : a.length ≤ 1000000) (hlb : b.length ≤ 1000000) : n_Cmp a b = cmpN (wv a) (wv b) ∧ n_Cmp_s a b = true := by
  have e1 : IntKind.i64.wrap (((max a.length b.length : Nat) : Int) - 1) = ((max a.length b.length : Nat) : Int) - 1 := w64 (by omega) (by omega)
  have hz : ∀ {l : List Int}, Wds l → l.length ≤ max a.length b.length → wv l / 4294967296 ^ (max a.length b.length) = 0 := fun h hl =>
    Nat.div_eq_of_lt (Nat.lt_of_lt_of_le (wv_lt h) (Nat.pow_le_pow_right (by decide) hl))
  have hr := ncmp_run ha hb (max a.length b.length) (by omega) (by rw [hz ha (by omega), hz hb (by omega)])
  have hr : n_Cmp_L0_r (a, b, 0) (((max a.length b.length : Nat) : Int) - 1) = _ := runB_of hr (by omega)
  have h1 : n_Cmp_L0_ok (a, b, 0) (((max a.length b.length : Nat) : Int) - 1) = true := by unfold n_Cmp_L0_ok; rw [hr]; rfl
  by_cases h : wv a = wv b
  · rw [if_pos h] at hr
    have h2 : n_Cmp_L0_rt (a, b, 0) (((max a.length b.length : Nat) : Int) - 1) = false := by unfold n_Cmp_L0_rt; rw [hr]; rfl
    simp only [n_Cmp, n_Cmp_s, n_Cmp_t, n_Cmp_T, imax_nat, e1, h1, h2, Tr.val, Tr.safe, cond_false, Bool.true_and, and_true]
    unfold cmpN
    rw [if_neg (by omega), if_pos h]
  · rw [if_neg h] at hr
    have h2 : n_Cmp_L0_rt (a, b, 0) (((max a.length b.length : Nat) : Int) - 1) = true := by unfold n_Cmp_L0_rt; rw [hr]; rfl
    have h3 : n_Cmp_L0_rv (a, b, 0) (((max a.length b.length : Nat) : Int) - 1) = cmpN (wv a) (wv b) := by unfold n_Cmp_L0_rv; rw [hr]; rfl
    simp only [n_Cmp, n_Cmp_s, n_Cmp_t, n_Cmp_T, imax_nat, e1, h1, h2, h3, Tr.val, Tr.safe, cond_true, Bool.true_and, and_self]
end Go.Fb
namespace Go.Fb
open Go.Ev
theorem sub_word {u v c : Nat} (hu : u < 4294967296) (hv : v < 4294967296) (hc : c ≤ 1) : ∃ c' x : Nat, c' ≤ 1 ∧ x < 4294967296 ∧ u + 4294967296 * c' = x + v + c ∧
    shrI .u64 (IntKind.u64.wrap (IntKind.u64.wrap ((u : Int) - (v : Int)) - (c : Int))) 63 = (c' : Int) ∧ IntKind.u32.wrap (IntKind.u64.wrap (IntKind.u64.wrap ((u : Int) - (v : Int)) - (c : Int))) = (x : Int) := by
  by_cases h : v + c ≤ u
  · have e : IntKind.u64.wrap (IntKind.u64.wrap ((u : Int) - (v : Int)) - (c : Int)) = ((u - v - c : Nat) : Int) := by rw [u64w, u64w]; omega
    refine ⟨0, u - v - c, by omega, by omega, by omega, ?_, ?_⟩
    · rw [e, show (63 : Int) = ((63 : Nat) : Int) from rfl, shr_nat _ 63 (by omega)]
      have : (u - v - c) / 2 ^ 63 = 0 := Nat.div_eq_of_lt (by omega)
      rw [this]
    · rw [e]; exact u32i (by omega) (by omega)
  · have e : IntKind.u64.wrap (IntKind.u64.wrap ((u : Int) - (v : Int)) - (c : Int)) = ((18446744073709551616 + u - v - c : Nat) : Int) := by rw [u64w, u64w]; omega
    refine ⟨1, 4294967296 + u - v - c, by omega, by omega, by omega, ?_, ?_⟩
    · rw [e, show (63 : Int) = ((63 : Nat) : Int) from rfl, shr_nat _ 63 (by omega)]
      have : (18446744073709551616 + u - v - c) / 2 ^ 63 = 1 := by
        rw [show 2 ^ 63 = 9223372036854775808 from rfl]; omega
      rw [this]
    · rw [e, u32w]; omega
end Go.Fb
namespace Go.Fb
open Go.Ev
theorem mul_word {u v o c : Nat} (hu : u < 4294967296) (hv : v < 4294967296) (ho : o < 4294967296) (hc : c < 4294967296) : ∃ c' x : Nat, c' < 4294967296 ∧ x < 4294967296 ∧ x + 4294967296 * c' = c + u * v + o ∧
    shrI .u64 (IntKind.u64.wrap ((c : Int) + IntKind.u64.wrap (IntKind.u64.wrap (IntKind.u64.wrap (u : Int) * IntKind.u64.wrap (v : Int)) + IntKind.u64.wrap (o : Int)))) 32 = (c' : Int) ∧
    IntKind.u32.wrap (IntKind.u64.wrap ((c : Int) + IntKind.u64.wrap (IntKind.u64.wrap (IntKind.u64.wrap (u : Int) * IntKind.u64.wrap (v : Int)) + IntKind.u64.wrap (o : Int)))) = (x : Int) := by
  have hm : u * v ≤ 4294967295 * 4294967295 := Nat.mul_le_mul (by omega) (by omega)
  have e : IntKind.u64.wrap ((c : Int) + IntKind.u64.wrap (IntKind.u64.wrap (IntKind.u64.wrap (u : Int) * IntKind.u64.wrap (v : Int)) + IntKind.u64.wrap (o : Int))) = ((c + u * v + o : Nat) : Int) := by
    rw [u64i (n := (u : Int)) (by omega) (by omega), u64i (n := (v : Int)) (by omega) (by omega), u64i (n := (o : Int)) (by omega) (by omega)]
    have e1 : (u : Int) * (v : Int) = ((u * v : Nat) : Int) := by simp
    rw [e1]
    generalize u * v = p at *
    rw [u64i (n := (p : Int)) (by omega) (by omega), u64i (n := (p : Int) + o) (by omega) (by omega), u64i (by omega) (by omega)]
    omega
  generalize u * v = p at *
  refine ⟨(c + p + o) / 4294967296, (c + p + o) % 4294967296, by omega, by omega, by omega, ?_, ?_⟩
  · rw [e, show (32 : Int) = ((32 : Nat) : Int) from rfl, shr_nat _ 32 (by omega)]
  · rw [e, u32w]; omega
theorem getD_set_ne {l : List Int} {i j : Nat} {y : Int} (h : i ≠ j) : (l.set i y).getD j 0 = l.getD j 0 := by
  simp [List.getD, h]
theorem mul_inner {b : List Int} (hb : Wds b) {i u : Nat} (hu : u < 4294967296) {L : Nat} (hL : i + b.length ≤ L) (hL2 : L ≤ 1000000) (out0 : List Int) (z1 z2 : List Int) (z3 z4 : Int) (z5 : Bool) (z6 z7 : Int) : ∀ (m j c : Nat) (out : List Int), j + m = b.length → out.length = L → Wds out → c < 4294967296 →
    wv out + 4294967296 ^ (i + j) * c = wv out0 + 4294967296 ^ i * (u * wv (b.take j)) → (∀ t, i + b.length ≤ t → out.getD t 0 = out0.getD t 0) →
    ∃ (c' : Nat) (out' : List Int), runL (n_Mul_L1_step (z1, (i : Int), (u : Int), z2, z3, z4, z5, z6, z7, b, (b.length : Int))) (m + 1) ((c : Int), (j : Int), out) = some ((c' : Int), (b.length : Int), out') ∧ out'.length = L ∧ Wds out' ∧ c' < 4294967296 ∧
      wv out' + 4294967296 ^ (i + b.length) * c' = wv out0 + 4294967296 ^ i * (u * wv b) ∧ (∀ t, i + b.length ≤ t → out'.getD t 0 = out0.getD t 0)
  | 0, j, c, out, hj, hl, hw, hc, hv, hf => by
    have : j = b.length := by omega
    subst this
    have e : decide ((b.length : Int) < (b.length : Int)) = false := by simp
    rw [List.take_length] at hv
    refine ⟨c, out, ?_, hl, hw, hc, hv, hf⟩
    unfold runL
    simp only [n_Mul_L1_step, n_Mul_L1_T, e, Tr.val, Tr.safe, cond_false, cond_true]
  | m + 1, j, c, out, hj, hl, hw, hc, hv, hf => by
    have hjl : j < b.length := by omega
    have e1 : decide ((j : Int) < (b.length : Int)) = true := decide_eq_true (by omega)
    have e2 : (decide ((0 : Int) ≤ (j : Int)) && decide ((j : Int) < (b.length : Int))) = true := by simp; omega
    have e3 : IntKind.i64.wrap ((i : Int) + (j : Int)) = ((i + j : Nat) : Int) := by rw [w64 (by omega) (by omega)]; omega
    have e4 : IntKind.i64.wrap ((j : Int) + 1) = ((j + 1 : Nat) : Int) := wnext (by omega)
    have e5 : (decide ((0 : Int) ≤ ((i + j : Nat) : Int)) && decide (((i + j : Nat) : Int) < (out.length : Int))) = true := by
      simp only [Bool.and_eq_true, decide_eq_true_eq]; omega
    have db := hb.getD j
    have dO := hw.getD (i + j)
    unfold W32 at db dO
    obtain ⟨v, hv'⟩ : ∃ v : Nat, b.getD j 0 = (v : Int) := ⟨(b.getD j 0).toNat, by omega⟩
    obtain ⟨o, ho⟩ : ∃ o : Nat, out.getD (i + j) 0 = (o : Int) := ⟨(out.getD (i + j) 0).toNat, by omega⟩
    obtain ⟨c', x, hc', hx, hk, es, ew⟩ := mul_word (u := u) (v := v) (o := o) (c := c) hu (by omega) (by omega) hc
    have hset := wv_set out (i + j) (x : Int) (by omega)
    rw [ho, Int.toNat_natCast, Int.toNat_natCast] at hset
    have hstep : wv (out.set (i + j) (x : Int)) + 4294967296 ^ (i + (j + 1)) * c' = wv out0 + 4294967296 ^ i * (u * wv (b.take (j + 1))) := by
      rw [wv_take_step, hv', Int.toNat_natCast, Nat.mul_add u, Nat.mul_add (4294967296 ^ i), ← Nat.add_assoc (wv out0), ← hv]
      have h1 : 4294967296 ^ i * (u * (4294967296 ^ j * v)) = 4294967296 ^ (i + j) * (u * v) := by
        rw [Nat.pow_add]; simp only [Nat.mul_assoc, Nat.mul_left_comm]
      have h2 : 4294967296 ^ (i + (j + 1)) * c' = 4294967296 ^ (i + j) * (4294967296 * c') := by
        rw [← Nat.add_assoc, Nat.pow_succ, Nat.mul_assoc]
      have h3 : 4294967296 ^ (i + j) * x + 4294967296 ^ (i + j) * (4294967296 * c') = 4294967296 ^ (i + j) * c + 4294967296 ^ (i + j) * (u * v) + 4294967296 ^ (i + j) * o := by
        rw [← Nat.mul_add, hk, Nat.mul_add, Nat.mul_add]
      rw [h1, h2]
      omega
    obtain ⟨c2, out', hr, h1, h2, h3, h4, h5⟩ := mul_inner hb hu hL hL2 out0 z1 z2 z3 z4 z5 z6 z7 m (j + 1) c' (out.set (i + j) (x : Int)) (by omega) (by simp [hl]) (hw.set ⟨by omega, by omega⟩) hc' hstep
      (fun t ht => by rw [getD_set_ne (by omega)]; exact hf t ht)
    refine ⟨c2, out', ?_, h1, h2, h3, h4, h5⟩
    unfold runL
    simp only [n_Mul_L1_step, n_Mul_L1_T, e1, e3, e4, e5, Int.toNat_natCast, hv', ho, es, ew, Tr.val, Tr.safe, cond_true, Bool.true_and]
    exact hr
theorem mul_outer {a b : List Int} (ha : Wds a) (hb : Wds b) (hL2 : a.length + b.length ≤ 1000000) : ∀ (m i : Nat) (out : List Int), i + m = a.length → out.length = a.length + b.length → Wds out → wv out = wv (a.take i) * wv b →
    ∃ out', runL (n_Mul_L0_step (b, a, (a.length : Int))) (m + 1) ((i : Int), out) = some ((a.length : Int), out') ∧ out'.length = a.length + b.length ∧ Wds out' ∧ wv out' = wv a * wv b
  | 0, i, out, hi, hl, hw, hv => by
    have : i = a.length := by omega
    subst this
    have e : decide ((a.length : Int) < (a.length : Int)) = false := by simp
    refine ⟨out, ?_, hl, hw, by rw [hv, List.take_length]⟩
    unfold runL
    simp only [n_Mul_L0_step, n_Mul_L0_T, e, Tr.val, Tr.safe, cond_false, cond_true]
  | m + 1, i, out, hi, hl, hw, hv => by
    have hil : i < a.length := by omega
    have e1 : decide ((i : Int) < (a.length : Int)) = true := decide_eq_true (by omega)
    have e2 : (decide ((0 : Int) ≤ (i : Int)) && decide ((i : Int) < (a.length : Int))) = true := by simp; omega
    have e3 : IntKind.i64.wrap ((i : Int) + (b.length : Int)) = ((i + b.length : Nat) : Int) := by rw [w64 (by omega) (by omega)]; omega
    have e4 : IntKind.i64.wrap ((i : Int) + 1) = ((i + 1 : Nat) : Int) := wnext (by omega)
    have da := ha.getD i
    unfold W32 at da
    obtain ⟨u, hu⟩ : ∃ u : Nat, a.getD i 0 = (u : Int) := ⟨(a.getD i 0).toNat, by omega⟩
    obtain ⟨c, out', hr, h1, h2, h3, h4, h5⟩ := mul_inner hb (i := i) (u := u) (by omega) (L := a.length + b.length) (by omega) hL2 out b a (a.length : Int) (i : Int) true (i : Int) (u : Int) b.length 0 0 out (by omega) hl hw (by omega) (by simp [wv]) (fun _ _ => rfl)
    have hr : n_Mul_L1_r (b, (i : Int), (u : Int), a, (a.length : Int), (i : Int), true, (i : Int), (u : Int), b, (b.length : Int)) (0, 0, out) = some ((c : Int), (b.length : Int), out') := runB_of hr (by omega)
    have h6 : n_Mul_L1_ok (b, (i : Int), (u : Int), a, (a.length : Int), (i : Int), true, (i : Int), (u : Int), b, (b.length : Int)) (0, 0, out) = true := by unfold n_Mul_L1_ok; rw [hr]; rfl
    have h7 : n_Mul_L1_v (b, (i : Int), (u : Int), a, (a.length : Int), (i : Int), true, (i : Int), (u : Int), b, (b.length : Int)) (0, 0, out) = ((c : Int), (b.length : Int), out') := by unfold n_Mul_L1_v; rw [hr]; rfl
    have e5 : (decide ((0 : Int) ≤ ((i + b.length : Nat) : Int)) && decide (((i + b.length : Nat) : Int) < (out'.length : Int))) = true := by
      simp only [Bool.and_eq_true, decide_eq_true_eq]; omega
    have e6 : IntKind.u32.wrap (c : Int) = (c : Int) := u32i (by omega) (by omega)
    have hta : wv (a.take i) < 4294967296 ^ i := by
      have h := wv_lt (l := a.take i) (fun x hx => ha x (List.mem_of_mem_take hx))
      rwa [List.length_take, Nat.min_eq_left (by omega)] at h
    have hob : wv out < 4294967296 ^ (i + b.length) := by
      rw [hv, Nat.pow_add]
      have hbl := wv_lt hb
      have hP : 0 < 4294967296 ^ i := Nat.pow_pos (by decide)
      exact Nat.lt_of_le_of_lt (Nat.mul_le_mul_right _ (Nat.le_of_lt hta)) ((Nat.mul_lt_mul_left hP).2 hbl)
    have hzero : (out'.getD (i + b.length) 0).toNat = 0 := by
      rw [h5 _ (Nat.le_refl _), wv_word hw, Nat.div_eq_of_lt hob]
    have hset := wv_set out' (i + b.length) (c : Int) (by omega)
    rw [hzero, Nat.mul_zero, Nat.add_zero, Int.toNat_natCast, h4] at hset
    have hnew : wv (out'.set (i + b.length) (c : Int)) = wv (a.take (i + 1)) * wv b := by
      rw [hset, wv_take_step, hu, Int.toNat_natCast, hv, Nat.add_mul, Nat.mul_assoc]
    obtain ⟨out2, g1, g2, g3, g4⟩ := mul_outer ha hb hL2 m (i + 1) (out'.set (i + b.length) (c : Int)) (by omega) (by simp [h1]) (h2.set ⟨by omega, by omega⟩) hnew
    refine ⟨out2, ?_, g2, g3, g4⟩
    unfold runL
    simp only [n_Mul_L0_step, n_Mul_L0_T, e1, e3, e4, Int.toNat_natCast, hu, h6, h7, e5, e6, Tr.val, Tr.safe, cond_true, Bool.true_and]
    exact g1
theorem nmul_spec {a b : List Int} (ha : Wds a) (hb : Wds b) (hL : a.length + b.length ≤ 1000000) : n_Mul_s a b = true ∧ NumIs (n_Mul a b) (wv a * wv b) (a.length + b.length) := by
  have e1 : IntKind.i64.wrap ((a.length : Int) + (b.length : Int)) = ((a.length + b.length : Nat) : Int) := by rw [w64 (by omega) (by omega)]; omega
  obtain ⟨out, hr, hl, hw, hv⟩ := mul_outer ha hb hL a.length 0 (List.replicate (a.length + b.length) 0) (by omega) (by simp) (Wds.rep _) (by rw [wv_rep]; simp [wv])
  have hr : n_Mul_L0_r (b, a, (a.length : Int)) (0, List.replicate (a.length + b.length) 0) = some ((a.length : Int), out) := runB_of hr (by omega)
  have h1 : n_Mul_L0_ok (b, a, (a.length : Int)) (0, List.replicate (a.length + b.length) 0) = true := by unfold n_Mul_L0_ok; rw [hr]; rfl
  have h2 : n_Mul_L0_v (b, a, (a.length : Int)) (0, List.replicate (a.length + b.length) 0) = ((a.length : Int), out) := by unfold n_Mul_L0_v; rw [hr]; rfl
  have e2 : (decide ((0 : Int) ≤ ((a.length + b.length : Nat) : Int)) && (decide (((a.length + b.length : Nat) : Int) ≤ ((a.length + b.length : Nat) : Int)) && decide ((4 : Int) * ((a.length + b.length : Nat) : Int) ≤ 281474976710656))) = true := by
    simp only [Bool.and_eq_true, decide_eq_true_eq]; omega
  obtain ⟨h3, h4⟩ := numIs_trim (n := a.length + b.length) hw (by omega) (by omega)
  have h5 : n_Mul a b = n_trim out ∧ n_Mul_s a b = true := by
    simp only [n_Mul, n_Mul_s, n_Mul_t, n_Mul_T, e1, e2, Int.toNat_natCast, h1, h2, h4, Tr.val, Tr.safe, Bool.true_and, and_self]
  rw [h5.1, ← hv]
  exact ⟨h5.2, h3⟩
end Go.Fb
namespace Go.Fb
open Go.Ev
theorem nnew_spec {x : Int} (hx : Wd x) : n_New_s x = true ∧ NumIs (n_New x) x.toNat 2 := by
  unfold Wd at hx
  obtain ⟨k, rfl⟩ : ∃ k : Nat, x = (k : Int) := ⟨x.toNat, by omega⟩
  have e1 : IntKind.u32.wrap (k : Int) = ((k % 4294967296 : Nat) : Int) := by rw [u32w]; omega
  have e2 : IntKind.u32.wrap (shrI IntKind.u64 (k : Int) 32) = ((k / 4294967296 : Nat) : Int) := by
    rw [show (32 : Int) = ((32 : Nat) : Int) from rfl, shr_nat _ 32 (by omega)]
    exact u32i (by omega) (by rw [show 2 ^ 32 = 4294967296 from rfl]; omega)
  have hw : Wds [((k % 4294967296 : Nat) : Int), ((k / 4294967296 : Nat) : Int)] := (Wds.nil.cons ⟨by omega, by omega⟩).cons ⟨by omega, by omega⟩
  have hv : wv [((k % 4294967296 : Nat) : Int), ((k / 4294967296 : Nat) : Int)] = k := by simp only [wv, Int.toNat_natCast]; omega
  obtain ⟨h1, h2⟩ := numIs_trim (n := 2) hw (by simp) (by omega)
  have h3 : n_New (k : Int) = n_trim [((k % 4294967296 : Nat) : Int), ((k / 4294967296 : Nat) : Int)] ∧ n_New_s (k : Int) = true := by
    simp only [n_New, n_New_s, n_New_t, n_New_T, e1, e2, h2, Tr.val, Tr.safe, Bool.true_and, and_self]
  rw [h3.1, Int.toNat_natCast]
  rw [hv] at h1
  exact ⟨h3.2, h1⟩
end Go.Fb
namespace Go.Fb
open Go.Ev
theorem len32_spec {k : Nat} (hk : k < 4294967296) : ∃ l : Nat, bits_Len32 (k : Int) = (l : Int) ∧ LenIs k l ∧ l ≤ 32 := by
  have st : ∀ m : Nat, strAt len8 (m : Int) = (len8n m : Int) := fun m => rfl
  have s8 : ∀ m : Nat, shrI .u32 (m : Int) 8 = ((m / 256 : Nat) : Int) := fun m => shr32_nat m 8 (by decide)
  have s16 : ∀ m : Nat, shrI .u32 (m : Int) 16 = ((m / 65536 : Nat) : Int) := fun m => shr32_nat m 16 (by decide)
  have e : bits_Len32 (k : Int) = (bits_Len32_t (k : Int)).val := rfl
  rw [e]
  simp only [bits_Len32_t, bits_Len32_T, Tr.val, s16, s8]
  have fin : ∀ (c : Nat) (m : Nat), m < 256 → c ≤ 56 → IntKind.i64.wrap ((c : Int) + IntKind.i64.wrap (strAt len8 (m : Int))) = ((c + len8n m : Nat) : Int) := fun c m hm hc => by
    have := (len8_is hm).2
    rw [st, w64 (n := (len8n m : Int)) (by omega) (by omega), w64 (by omega) (by omega)]
    omega
  have res : ∀ (c : Nat), k / 2 ^ c < 256 → (c = 0 ∨ 0 < k / 2 ^ c) → c ≤ 24 → LenIs k (c + len8n (k / 2 ^ c)) ∧ c + len8n (k / 2 ^ c) ≤ 32 := fun c hm h0 hc => by
    obtain ⟨h1, h2⟩ := len8_is hm
    refine ⟨?_, by omega⟩
    rcases h0 with rfl | h0
    · simpa using h1
    · exact LenIs.shift h0 h1
  by_cases c2 : (k : Int) ≥ 65536
  · rw [decide_eq_true c2]
    simp only [cond_true]
    by_cases c3 : ((k / 65536 : Nat) : Int) ≥ 256
    · rw [decide_eq_true c3]
      have hm : k / 65536 / 256 < 256 := by omega
      have := res 24 (by omega) (.inr (by omega)) (by omega)
      refine ⟨24 + len8n (k / 2 ^ 24), ?_, this⟩
      simp only [cond_true]
      rw [u8i hm, show IntKind.i64.wrap (16 + 8) = ((24 : Nat) : Int) from rfl, fin 24 _ hm (by omega), show k / 65536 / 256 = k / 2 ^ 24 by omega]
    · rw [decide_eq_false c3]
      have hm : k / 65536 < 256 := by omega
      have := res 16 (by omega) (.inr (by omega)) (by omega)
      refine ⟨16 + len8n (k / 2 ^ 16), ?_, this⟩
      simp only [cond_false]
      rw [u8i hm, show (16 : Int) = ((16 : Nat) : Int) from rfl, fin 16 _ hm (by omega)]
  · rw [decide_eq_false c2]
    simp only [cond_false]
    by_cases c3 : (k : Int) ≥ 256
    · rw [decide_eq_true c3]
      have hm : k / 256 < 256 := by omega
      have := res 8 (by omega) (.inr (by omega)) (by omega)
      refine ⟨8 + len8n (k / 2 ^ 8), ?_, this⟩
      simp only [cond_true]
      rw [u8i hm, show IntKind.i64.wrap (0 + 8) = ((8 : Nat) : Int) from rfl, fin 8 _ hm (by omega)]
    · rw [decide_eq_false c3]
      have hm : k < 256 := by omega
      have := res 0 (by omega) (.inl rfl) (by omega)
      refine ⟨0 + len8n (k / 2 ^ 0), ?_, this⟩
      simp only [cond_false]
      rw [u8i hm, show (0 : Int) = ((0 : Nat) : Int) from rfl, fin 0 _ hm (by omega)]
      simp
theorem nlen_spec {a : List Int} (hw : Wds a) (hn : a.length ≤ 1000000) : n_Len_s a = true ∧ ∃ l : Nat, n_Len a = (l : Int) ∧ LenIs (wv a) l := by
  obtain ⟨⟨h1, h2, h3, h4⟩, h5⟩ := numIs_trim (n := a.length) hw (by omega) (by omega)
  rcases snoc_cases (n_trim a) with h0 | ⟨t, x, h0⟩
  · rw [h0] at h3
    have e : (((n_trim a).length : Int) == 0) = true := by rw [h0]; rfl
    have h6 : n_Len a = 0 ∧ n_Len_s a = true := by
      simp only [n_Len, n_Len_s, n_Len_t, n_Len_T, h5, e, Tr.val, Tr.safe, cond_true, Bool.true_and, and_self]
    refine ⟨h6.2, 0, h6.1, ?_⟩
    rw [← h3]
    exact lenIs_zero
  · have hx := h2 t x h0
    have hxw := h1.getD t.length
    rw [h0] at h1 h3 h4
    have hl : (t ++ [x]).length = t.length + 1 := by simp
    have hg : (t ++ [x]).getD t.length 0 = x := by simp
    rw [h0, hg] at hxw
    unfold W32 at hxw
    obtain ⟨u, rfl⟩ : ∃ u : Nat, x = (u : Int) := ⟨x.toNat, by omega⟩
    obtain ⟨l, g1, g2, g3⟩ := len32_spec (k := u) (by omega)
    have e0 : (((n_trim a).length : Int) == 0) = false := by rw [h0, hl]; simp; omega
    have e1 : IntKind.i64.wrap (((n_trim a).length : Int) - 1) = (t.length : Int) := by rw [h0, hl, w64 (by omega) (by omega)]; omega
    have e2 : (decide ((0 : Int) ≤ (t.length : Int)) && decide ((t.length : Int) < ((n_trim a).length : Int))) = true := by
      rw [h0, hl]; simp only [Bool.and_eq_true, decide_eq_true_eq]; omega
    have e3 : (n_trim a).getD t.length 0 = (u : Int) := by rw [h0]; exact hg
    have e4 : IntKind.i64.wrap (IntKind.i64.wrap (32 * (t.length : Int)) + (l : Int)) = ((32 * t.length + l : Nat) : Int) := by
      rw [hl] at h4
      rw [w64 (n := 32 * (t.length : Int)) (by omega) (by omega), w64 (by omega) (by omega)]; omega
    have h6 : n_Len a = ((32 * t.length + l : Nat) : Int) ∧ n_Len_s a = true := by
      simp only [n_Len, n_Len_s, n_Len_t, n_Len_T, h5, e0, e1, e2, Int.toNat_natCast, e3, g1, e4, Tr.val, Tr.safe, cond_false, Bool.true_and, and_self]
    refine ⟨h6.2, _, h6.1, ?_⟩
    rw [← h3]
    have hv : wv (t ++ [(u : Int)]) / 2 ^ (32 * t.length) = u := by
      rw [wv_app, show 4294967296 = 2 ^ 32 from rfl, ← Nat.pow_mul, Nat.add_mul_div_left _ _ (Nat.two_pow_pos _)]
      have := wv_lt h1.left
      rw [show 4294967296 = 2 ^ 32 from rfl, ← Nat.pow_mul] at this
      rw [Nat.div_eq_of_lt this]
      simp [wv]
    exact LenIs.shift (by rw [hv]; omega) (by rw [hv]; exact g2)
end Go.Fb
namespace Go.Fb
open Go.Ev
end Go.Fb
namespace Go.Fb
open Go.Ev
theorem wv_two {s : List Int} (hw : Wds s) (i : Nat) : (s.getD i 0).toNat + 4294967296 * (s.getD (i + 1) 0).toNat = wv s / 4294967296 ^ i % 18446744073709551616 := by
  rw [wv_word hw i, wv_word hw (i + 1), Nat.pow_succ, ← Nat.div_div_eq_div_mul]
  generalize wv s / 4294967296 ^ i = v
  omega
theorem mod_div_word {V k : Nat} (hk : k < 32) : V % 18446744073709551616 / 2 ^ k % 4294967296 = V / 2 ^ k % 4294967296 := by
  have h1 : 18446744073709551616 = 2 ^ k * (2 ^ (32 - k) * 4294967296) := by
    rw [← Nat.mul_assoc, ← Nat.pow_add, show k + (32 - k) = 32 by omega]
  rw [h1, Nat.mod_mul_right_div_self, Nat.mod_mul_left_mod]
theorem nshr_word {s : List Int} (hw : Wds s) {i k : Nat} (hk : k < 32) : IntKind.u32.wrap (shrI .u64 (bitsI .or .u64 (s.getD i 0) (shlI .u64 (s.getD (i + 1) 0) 32)) (k : Int)) = ((wv s / 2 ^ k / 4294967296 ^ i % 4294967296 : Nat) : Int) := by
  have d0 := hw.getD i
  have d1 := hw.getD (i + 1)
  unfold W32 at d0 d1
  obtain ⟨u, hu⟩ : ∃ u : Nat, s.getD i 0 = (u : Int) := ⟨(s.getD i 0).toNat, by omega⟩
  obtain ⟨v, hv⟩ : ∃ v : Nat, s.getD (i + 1) 0 = (v : Int) := ⟨(s.getD (i + 1) 0).toNat, by omega⟩
  have h2 := wv_two hw i
  rw [hu, hv, Int.toNat_natCast, Int.toNat_natCast] at h2
  have e4 : shlI IntKind.u64 (v : Int) 32 = ((4294967296 * v : Nat) : Int) := by
    show IntKind.u64.wrap ((v : Int) * 2 ^ (min (32 : Int).toNat 64)) = _
    rw [show (2 : Int) ^ (min (32 : Int).toNat 64) = 4294967296 from rfl, u64i (by omega) (by omega)]
    omega
  have ho : u ||| 4294967296 * v = u + 4294967296 * v := by
    have := or_add (a := v) (b := u) (i := 32) (by omega)
    rw [show 2 ^ 32 = 4294967296 from rfl] at this
    rw [Nat.or_comm, this, Nat.add_comm]
  rw [hu, hv, e4, bits_or (by omega) (by omega), ho, h2, shr_nat _ k (by omega), u32w]
  have e6 : wv s / 2 ^ k / 4294967296 ^ i = wv s / 4294967296 ^ i / 2 ^ k := by rw [Nat.div_div_eq_div_mul, Nat.div_div_eq_div_mul, Nat.mul_comm]
  rw [e6, ← mod_div_word hk]
  rfl
theorem nshr_run {s : List Int} (hw : Wds s) {n k : Nat} (hk : n % 32 = k) (hL : s.length ≤ 1000000) (z : Bool) : ∀ (m i : Nat) (out : List Int), i + m = s.length → out.length = i → Wds out → wv out = wv s / 2 ^ k % 4294967296 ^ i →
    ∃ out', runL (n_Shr_L0_step ((n : Int), s, z, (s.length : Int))) (m + 1) ((i : Int), out) = some ((s.length : Int), out') ∧ out'.length = s.length ∧ Wds out' ∧ wv out' = wv s / 2 ^ k
  | 0, i, out, hi, hl, ho, hv => by
    have : i = s.length := by omega
    subst this
    have e : decide ((s.length : Int) < (s.length : Int)) = false := by simp
    refine ⟨out, ?_, hl, ho, ?_⟩
    · unfold runL
      simp only [n_Shr_L0_step, n_Shr_L0_T, e, Tr.val, Tr.safe, cond_false, cond_true]
    · rw [hv, Nat.mod_eq_of_lt (Nat.lt_of_le_of_lt (Nat.div_le_self _ _) (wv_lt hw))]
  | m + 1, i, out, hi, hl, ho, hv => by
    have e1 : decide ((i : Int) < (s.length : Int)) = true := decide_eq_true (by omega)
    have e4 : IntKind.i64.wrap ((i : Int) + 1) = ((i + 1 : Nat) : Int) := wnext (by omega)
    have et : (n : Int).tmod 32 = (k : Int) := by rw [Int.tmod_eq_emod_of_nonneg (by omega), ← hk]; rfl
    have e3 : decide ((0 : Int) ≤ (k : Int)) = true := decide_eq_true (by omega)
    have hwd := nshr_word hw (i := i) (k := k) (by omega)
    generalize hx : wv s / 2 ^ k / 4294967296 ^ i % 4294967296 = x at hwd
    have hxl : x < 4294967296 := by rw [← hx]; exact Nat.mod_lt _ (by decide)
    have e5 : decide ((out.length + [(x : Int)].length) * 4 ≤ 140737488355328) = true := decide_eq_true (by simp; omega)
    have hnew : wv (out ++ [(x : Int)]) = wv s / 2 ^ k % 4294967296 ^ (i + 1) := by
      rw [wv_app, hl, hv, Nat.mod_pow_succ, hx]
      simp [wv]
    obtain ⟨out', g1, g2, g3, g4⟩ := nshr_run hw hk hL z m (i + 1) (out ++ [(x : Int)]) (by omega) (by simp [hl]) (ho.app (Wds.nil.cons ⟨by omega, by omega⟩)) hnew
    refine ⟨out', ?_, g2, g3, g4⟩
    unfold runL
    simp only [n_Shr_L0_step, n_Shr_L0_T, e1, e4, et, e3, (at_spec hw).1, (at_spec hw).2, hwd, e5, Tr.val, Tr.safe, cond_true, Bool.true_and]
    exact g1
theorem wv_drop {a : List Int} (hw : Wds a) (j : Nat) : Wds (a.drop j) ∧ wv (a.drop j) = wv a / 4294967296 ^ j := by
  refine ⟨fun x hx => hw x (List.mem_of_mem_drop hx), ?_⟩
  by_cases hj : j ≤ a.length
  · have e : wv a = wv (a.take j) + 4294967296 ^ (a.take j).length * wv (a.drop j) := by rw [← wv_app, List.take_append_drop]
    have ht := wv_lt (l := a.take j) (fun x hx => hw x (List.mem_of_mem_take hx))
    rw [List.length_take, Nat.min_eq_left hj] at e ht
    rw [e, Nat.add_mul_div_left _ _ (Nat.pow_pos (by decide)), Nat.div_eq_of_lt ht, Nat.zero_add]
  · rw [List.drop_eq_nil_of_le (by omega), Nat.div_eq_of_lt]
    · rfl
    · exact Nat.lt_of_lt_of_le (wv_lt hw) (Nat.pow_le_pow_right (by decide) (by omega))
theorem nshr_spec {a : List Int} (hw : Wds a) (hn : a.length ≤ 1000000) {n : Int} {N : Nat} (hN : imax n 0 = (N : Int)) (hN2 : N < 9223372036854775808) : n_Shr_s a n = true ∧ NumIs (n_Shr a n) (wv a / 2 ^ N) a.length := by
  have et : IntKind.i64.wrap ((N : Int).tdiv 32) = ((N / 32 : Nat) : Int) := by
    have e : (N : Int).tdiv 32 = ((N / 32 : Nat) : Int) := by
      rw [show (32 : Int) = ((32 : Nat) : Int) from rfl, Int.natCast_tdiv_eq_ediv]; rfl
    rw [e, w64 (by omega) (by omega)]
  have hp : wv a / 2 ^ N = wv a / 4294967296 ^ (N / 32) / 2 ^ (N % 32) := by
    rw [Nat.div_div_eq_div_mul, pow_block]
  by_cases hj : a.length ≤ N / 32
  · have e1 : decide (((N / 32 : Nat) : Int) ≥ (a.length : Int)) = true := decide_eq_true (by omega)
    have h0 : wv a / 4294967296 ^ (N / 32) = 0 := Nat.div_eq_of_lt (Nat.lt_of_lt_of_le (wv_lt hw) (Nat.pow_le_pow_right (by decide) hj))
    have h6 : n_Shr a n = [] ∧ n_Shr_s a n = true := by
      simp only [n_Shr, n_Shr_s, n_Shr_t, n_Shr_T, hN, et, e1, Tr.val, Tr.safe, cond_true, and_self]
    rw [h6.1, hp, h0]
    refine ⟨h6.2, Wds.nil, ?_, ?_, Nat.zero_le _⟩
    · intro b x h; cases b <;> cases h
    · simp [wv]
  · have e1 : decide (((N / 32 : Nat) : Int) ≥ (a.length : Int)) = false := decide_eq_false (by omega)
    have e2 : (decide ((0 : Int) ≤ (some ((N / 32 : Nat) : Int)).getD 0) && (decide ((some ((N / 32 : Nat) : Int)).getD 0 ≤ (none : Option Int).getD (a.length : Int)) && decide ((none : Option Int).getD (a.length : Int) ≤ (a.length : Int)))) = true := by
      simp only [Option.getD_some, Option.getD_none, Bool.and_eq_true, decide_eq_true_eq]; omega
    have e3 : List.take (((none : Option Int).getD (a.length : Int)).toNat - ((some ((N / 32 : Nat) : Int)).getD 0).toNat) (List.drop ((some ((N / 32 : Nat) : Int)).getD 0).toNat a) = a.drop (N / 32) := by
      simp only [Option.getD_some, Option.getD_none, Int.toNat_natCast]
      exact List.take_of_length_le (by simp)
    obtain ⟨hd, hdv⟩ := wv_drop hw (N / 32)
    obtain ⟨out, hr, hl, hwo, hv⟩ := nshr_run hd (n := N) rfl (by simp; omega) false (a.drop (N / 32)).length 0 [] (by omega) rfl Wds.nil (by rw [Nat.pow_zero, Nat.mod_one]; rfl)
    have hr : n_Shr_L0_r ((N : Int), a.drop (N / 32), false, ((a.drop (N / 32)).length : Int)) (0, []) = some (((a.drop (N / 32)).length : Int), out) := runB_of hr (by simp; omega)
    have h1 : n_Shr_L0_ok ((N : Int), a.drop (N / 32), false, ((a.drop (N / 32)).length : Int)) (0, []) = true := by unfold n_Shr_L0_ok; rw [hr]; rfl
    have h2 : n_Shr_L0_v ((N : Int), a.drop (N / 32), false, ((a.drop (N / 32)).length : Int)) (0, []) = (((a.drop (N / 32)).length : Int), out) := by unfold n_Shr_L0_v; rw [hr]; rfl
    obtain ⟨h3, h4⟩ := numIs_trim (n := a.length) hwo (by rw [hl]; simp) (by omega)
    have h6 : n_Shr a n = n_trim out ∧ n_Shr_s a n = true := by
      simp only [n_Shr, n_Shr_s, n_Shr_t, n_Shr_T, hN, et, e1, e2, e3, h1, h2, h4, Tr.val, Tr.safe, cond_false, Bool.true_and, and_self]
    rw [h6.1, hp, ← hdv, ← hv]
    exact ⟨h6.2, h3⟩
end Go.Fb
namespace Go.Fb
open Go.Ev
theorem nshl_word {u c k : Nat} (hu : u < 4294967296) (hk : k < 32) (hc : c < 2 ^ k) : bitsI .or .u64 (c : Int) (shlI .u64 (IntKind.u64.wrap (u : Int)) (k : Int)) = ((2 ^ k * u + c : Nat) : Int) ∧ 2 ^ k * u + c < 2 ^ k * 4294967296 ∧ 2 ^ k * 4294967296 ≤ 9223372036854775808 := by
  have hk2 : (2 : Nat) ^ k ≤ 2 ^ 31 := Nat.pow_le_pow_right (by decide) (by omega)
  have hlt : 2 ^ k * u + c < 2 ^ k * 4294967296 := by
    have : 2 ^ k * (u + 1) ≤ 2 ^ k * 4294967296 := Nat.mul_le_mul_left _ (by omega)
    rw [Nat.mul_add, Nat.mul_one] at this
    omega
  have hb : 2 ^ k * 4294967296 ≤ 9223372036854775808 := by
    have := Nat.mul_le_mul_right 4294967296 hk2
    rw [show 2 ^ 31 * 4294967296 = 9223372036854775808 from rfl] at this
    exact this
  refine ⟨?_, hlt, hb⟩
  have e1 : shlI .u64 (IntKind.u64.wrap (u : Int)) (k : Int) = ((2 ^ k * u : Nat) : Int) := by
    show IntKind.u64.wrap (IntKind.u64.wrap (u : Int) * 2 ^ (min (k : Int).toNat 64)) = _
    rw [u64i (n := (u : Int)) (by omega) (by omega), Int.toNat_natCast, Nat.min_eq_left (by omega)]
    have e : (u : Int) * 2 ^ k = ((2 ^ k * u : Nat) : Int) := by rw [Nat.mul_comm]; simp
    rw [e]
    generalize 2 ^ k * u = p at *
    exact u64i (by omega) (by omega)
  have ho : c ||| 2 ^ k * u = 2 ^ k * u + c := by rw [Nat.or_comm]; exact or_add hc
  rw [e1, bits_or (by omega) (by generalize 2 ^ k * u = p at *; omega), ho]
theorem nshl_run {a : List Int} (ha : Wds a) {N j k : Nat} (hk : N % 32 = k) (hL : j + a.length ≤ 1000000) (z1 : Int) (z2 z3 : Bool) : ∀ (m i c : Nat) (out : List Int), i + m = a.length → out.length = j + i → Wds out → c < 2 ^ k → wv out + 4294967296 ^ (j + i) * c = 4294967296 ^ j * (2 ^ k * wv (a.take i)) →
    ∃ (c' : Nat) (out' : List Int), runL (n_Shl_L0_step ((N : Int), z1, z2, z3, a, (a.length : Int))) (m + 1) ((c : Int), (i : Int), out) = some ((c' : Int), (a.length : Int), out') ∧ out'.length = j + a.length ∧ Wds out' ∧ c' < 2 ^ k ∧ wv out' + 4294967296 ^ (j + a.length) * c' = 4294967296 ^ j * (2 ^ k * wv a)
  | 0, i, c, out, hi, hl, ho, hc, hv => by
    have : i = a.length := by omega
    subst this
    have e : decide ((a.length : Int) < (a.length : Int)) = false := by simp
    refine ⟨c, out, ?_, hl, ho, hc, by rw [hv, List.take_length]⟩
    unfold runL
    simp only [n_Shl_L0_step, n_Shl_L0_T, e, Tr.val, Tr.safe, cond_false, cond_true]
  | m + 1, i, c, out, hi, hl, ho, hc, hv => by
    have hil : i < a.length := by omega
    have e1 : decide ((i : Int) < (a.length : Int)) = true := decide_eq_true (by omega)
    have e2 : (decide ((0 : Int) ≤ (i : Int)) && decide ((i : Int) < (a.length : Int))) = true := by simp; omega
    have e4 : IntKind.i64.wrap ((i : Int) + 1) = ((i + 1 : Nat) : Int) := wnext (by omega)
    have et : (N : Int).tmod 32 = (k : Int) := by rw [Int.tmod_eq_emod_of_nonneg (by omega), ← hk]; rfl
    have e3 : decide ((0 : Int) ≤ (k : Int)) = true := decide_eq_true (by omega)
    have da := ha.getD i
    unfold W32 at da
    obtain ⟨u, hu⟩ : ∃ u : Nat, a.getD i 0 = (u : Int) := ⟨(a.getD i 0).toNat, by omega⟩
    obtain ⟨g1, g2, g3⟩ := nshl_word (u := u) (c := c) (k := k) (by omega) (by omega) hc
    have hP : 0 < 2 ^ k := Nat.two_pow_pos k
    generalize hT : 2 ^ k * u + c = T at g1 g2
    have eh : shrI .u64 (T : Int) 32 = ((T / 4294967296 : Nat) : Int) := shr_nat T 32 (by omega)
    have ew : IntKind.u32.wrap (T : Int) = ((T % 4294967296 : Nat) : Int) := by rw [u32w]; omega
    have e5 : decide ((out.length + [((T % 4294967296 : Nat) : Int)].length) * 4 ≤ 140737488355328) = true := decide_eq_true (by simp; omega)
    have hc' : T / 4294967296 < 2 ^ k := by rw [Nat.div_lt_iff_lt_mul (by decide)]; exact g2
    have hdm := Nat.div_add_mod T 4294967296
    have hnew : wv (out ++ [((T % 4294967296 : Nat) : Int)]) + 4294967296 ^ (j + (i + 1)) * (T / 4294967296) = 4294967296 ^ j * (2 ^ k * wv (a.take (i + 1))) := by
      rw [wv_take_step, hu, Int.toNat_natCast, wv_app, hl]
      simp only [wv, Int.toNat_natCast, Nat.mul_zero, Nat.add_zero]
      rw [← Nat.add_assoc j, Nat.pow_succ, Nat.mul_assoc, Nat.add_assoc, ← Nat.mul_add, Nat.add_comm (T % 4294967296), hdm, ← hT, Nat.mul_add, Nat.mul_add (2 ^ k), Nat.mul_add (4294967296 ^ j), ← hv]
      have : 4294967296 ^ j * (2 ^ k * (4294967296 ^ i * u)) = 4294967296 ^ (j + i) * (2 ^ k * u) := by
        rw [Nat.pow_add]; simp only [Nat.mul_assoc, Nat.mul_left_comm]
      rw [this]
      omega
    obtain ⟨c2, out', r1, r2, r3, r4, r5⟩ := nshl_run ha hk hL z1 z2 z3 m (i + 1) (T / 4294967296) (out ++ [((T % 4294967296 : Nat) : Int)]) (by omega) (by simp [hl]; omega) (ho.app (Wds.nil.cons ⟨by omega, by omega⟩)) hc' hnew
    refine ⟨c2, out', ?_, r2, r3, r4, r5⟩
    unfold runL
    simp only [n_Shl_L0_step, n_Shl_L0_T, e1, e3, e4, et, Int.toNat_natCast, hu, g1, eh, ew, e5, Tr.val, Tr.safe, cond_true, Bool.true_and]
    exact r1
end Go.Fb
namespace Go.Fb
open Go.Ev
theorem lenIs_nought {v l : Nat} (h : LenIs v l) : l = 0 ↔ v = 0 := by
  constructor
  · rintro rfl
    have := h.1
    omega
  · intro h0
    rcases h.2 with h1 | h1
    · exact h1
    · subst h0
      have := Nat.two_pow_pos (l - 1)
      omega
theorem nshl_spec {a : List Int} (hw : Wds a) (hn : a.length ≤ 500000) {n : Int} {N : Nat} (hN : imax n 0 = (N : Int)) (hN2 : N < 9223372036854775808) {l : Nat} (hlen : LenIs (wv a) l) : n_Shl_s a n = true ∧
    (wv a = 0 → n_Shl a n = ([], 0)) ∧ (wv a ≠ 0 → (N : Int) > 65536 - (l : Int) → n_Shl a n = ([], 20)) ∧ (wv a ≠ 0 → ¬ (N : Int) > 65536 - (l : Int) → (n_Shl a n).2 = 0 ∧ NumIs (n_Shl a n).1 (2 ^ N * wv a) (N / 32 + a.length + 1)) := by
  obtain ⟨h1, l', h2, h3⟩ := nlen_spec hw (by omega)
  have hll := LenIs.unique h3 hlen
  subst hll
  have hz := lenIs_nought hlen
  have hl2 : l' ≤ 32 * a.length := lenIs_le hlen (by
    have := wv_lt hw
    rwa [show 4294967296 = 2 ^ 32 from rfl, ← Nat.pow_mul] at this)
  have e65 : IntKind.i64.wrap (65536 - (l' : Int)) = 65536 - (l' : Int) := w64 (by omega) (by omega)
  by_cases h0 : wv a = 0
  · have e : ((l' : Int) == 0) = true := by rw [hz.2 h0]; rfl
    have h6 : n_Shl a n = ([], 0) ∧ n_Shl_s a n = true := by
      simp only [n_Shl, n_Shl_s, n_Shl_t, n_Shl_T, h1, h2, e, Tr.val, Tr.safe, cond_true, Bool.true_and, and_self]
    exact ⟨h6.2, fun _ => h6.1, fun h => absurd h0 h, fun h => absurd h0 h⟩
  · have e : ((l' : Int) == 0) = false := by
      have : l' ≠ 0 := fun h => h0 (hz.1 h)
      simp; omega
    by_cases hb : (N : Int) > 65536 - (l' : Int)
    · have e1 : decide ((N : Int) > 65536 - (l' : Int)) = true := decide_eq_true hb
      have h6 : n_Shl a n = ([], 20) ∧ n_Shl_s a n = true := by
        simp only [n_Shl, n_Shl_s, n_Shl_t, n_Shl_T, hN, h1, h2, e65, e, e1, Tr.val, Tr.safe, cond_true, cond_false, Bool.true_and, and_self]
      exact ⟨h6.2, fun h => absurd h h0, fun _ _ => h6.1, fun _ h => absurd hb h⟩
    · have e1 : decide ((N : Int) > 65536 - (l' : Int)) = false := decide_eq_false hb
      have hNs : N ≤ 65536 := by omega
      have et : IntKind.i64.wrap ((N : Int).tdiv 32) = ((N / 32 : Nat) : Int) := tdiv32 (by omega)
      have e3 : IntKind.i64.wrap (IntKind.i64.wrap (((N / 32 : Nat) : Int) + (a.length : Int)) + 1) = ((N / 32 + a.length + 1 : Nat) : Int) := by
        rw [w64 (n := ((N / 32 : Nat) : Int) + (a.length : Int)) (by omega) (by omega), w64 (by omega) (by omega)]; omega
      have e4 : (decide ((0 : Int) ≤ ((N / 32 : Nat) : Int)) && (decide (((N / 32 : Nat) : Int) ≤ ((N / 32 + a.length + 1 : Nat) : Int)) && decide ((4 : Int) * ((N / 32 + a.length + 1 : Nat) : Int) ≤ 281474976710656))) = true := by
        simp only [Bool.and_eq_true, decide_eq_true_eq]; omega
      obtain ⟨c, out, hr, g1, g2, g3, g4⟩ := nshl_run hw (N := N) (j := N / 32) rfl (by omega) 0 false false a.length 0 0 (List.replicate (N / 32) 0) (by omega) (by simp) (Wds.rep _) (Nat.two_pow_pos _) (by rw [wv_rep]; simp [wv])
      have hr : n_Shl_L0_r ((N : Int), 0, false, false, a, (a.length : Int)) (0, 0, List.replicate (N / 32) 0) = some ((c : Int), (a.length : Int), out) := runB_of hr (by omega)
      have h5 : n_Shl_L0_ok ((N : Int), 0, false, false, a, (a.length : Int)) (0, 0, List.replicate (N / 32) 0) = true := by unfold n_Shl_L0_ok; rw [hr]; rfl
      have h7 : n_Shl_L0_v ((N : Int), 0, false, false, a, (a.length : Int)) (0, 0, List.replicate (N / 32) 0) = ((c : Int), (a.length : Int), out) := by unfold n_Shl_L0_v; rw [hr]; rfl
      have hc : c < 4294967296 := Nat.lt_of_lt_of_le g3 (by
        rw [show 4294967296 = 2 ^ 32 from rfl]; exact Nat.pow_le_pow_right (by decide) (by omega))
      have e6 : IntKind.u32.wrap (c : Int) = (c : Int) := u32i (by omega) (by omega)
      have e7 : decide ((out.length + [(c : Int)].length) * 4 ≤ 140737488355328) = true := decide_eq_true (by simp; omega)
      have hv2 : wv (out ++ [(c : Int)]) = 2 ^ N * wv a := by
        rw [wv_app, g1]
        simp only [wv, Int.toNat_natCast, Nat.mul_zero, Nat.add_zero]
        rw [g4, ← Nat.mul_assoc, pow_block]
      obtain ⟨h3', h4'⟩ := numIs_trim (l := out ++ [(c : Int)]) (n := N / 32 + a.length + 1) (g2.app (Wds.nil.cons ⟨by omega, by omega⟩)) (by simp; omega) (by omega)
      have h6 : n_Shl a n = (n_trim (out ++ [(c : Int)]), 0) ∧ n_Shl_s a n = true := by
        simp only [n_Shl, n_Shl_s, n_Shl_t, n_Shl_T, hN, h1, h2, e65, e, e1, et, e3, e4, Int.toNat_natCast, h5, h7, e6, e7, h4', Tr.val, Tr.safe, cond_false, Bool.true_and, and_self]
      refine ⟨h6.2, fun h => absurd h h0, fun _ h => absurd h hb, fun _ _ => ?_⟩
      rw [h6.1, ← hv2]
      exact ⟨rfl, h3'⟩
end Go.Fb
namespace Go.Fb
open Go.Ev
end Go.Fb
namespace Go.Fb
open Go.Ev
end Go.Fb
namespace Go.Fb
open Go.Ev
def Tr.Is {α : Type} (t : Tr α) (v : α) : Prop := t.val = v ∧ t.safe = true
theorem Tr.is_leaf {α : Type} {a v : α} (h : a = v) : Tr.Is (.leaf a) v := ⟨h, rfl⟩
theorem Tr.is_ast {α : Type} {b : Bool} {t : Tr α} {v : α} (hb : b = true) (h : Tr.Is t v) : Tr.Is (.ast b t) v := by
  subst hb; exact ⟨h.1, by simpa [Tr.safe] using h.2⟩
theorem Tr.is_br_t {α : Type} {b : Bool} {t e : Tr α} {v : α} (hb : b = true) (h : Tr.Is t v) : Tr.Is (.br b t e) v := by subst hb; exact h
theorem Tr.is_br_f {α : Type} {b : Bool} {t e : Tr α} {v : α} (hb : b = false) (h : Tr.Is e v) : Tr.Is (.br b t e) v := by subst hb; exact h
theorem runL_next {ι ρ : Type} {step : ι → Tr (ι ⊕ ρ)} {n : Nat} {i j : ι} (h : Tr.Is (step i) (.inl j)) : runL step (n + 1) i = runL step n j := by
  unfold runL; rw [h.2, h.1]; cases n <;> rfl
theorem runL_out {ι ρ : Type} {step : ι → Tr (ι ⊕ ρ)} {n : Nat} {i : ι} {r : ρ} (h : Tr.Is (step i) (.inr r)) : runL step (n + 1) i = some r := by
  unfold runL; rw [h.2, h.1]; rfl
theorem dt {p : Prop} [Decidable p] (h : p) : decide p = true := decide_eq_true h
theorem df {p : Prop} [Decidable p] (h : ¬ p) : decide p = false := decide_eq_false h
theorem bt {a b : Int} (h : a = b) : (a == b) = true := by simp [h]
theorem bf {a b : Int} (h : a ≠ b) : (a == b) = false := by simp [h]
theorem nbt {a b : Int} (h : a ≠ b) : (a != b) = true := by simp [h]
theorem nbf {a b : Int} (h : a = b) : (a != b) = false := by simp [h]
def bwdTo (a : List Int) (k : Nat) : List (Int × Int) := ((List.range k).reverse).map fun j : Nat => ((j : Int), a.getD j 0)
theorem bwdTo_succ (a : List Int) (k : Nat) : bwdTo a (k + 1) = ((k : Int), a.getD k 0) :: bwdTo a k := by
  simp [bwdTo, List.range_succ]
theorem short_run {a : List Int} (ha : Wds a) {b : Nat} (hb : b < 4294967296) (hb0 : 0 < b) : ∀ (k : Nat) (q : List Int) (r : Nat), k ≤ a.length → q.length = a.length → Wds q → r = wv a / 4294967296 ^ k % b → wv q = 4294967296 ^ k * (wv a / 4294967296 ^ k / b) →
    ∃ q', (bwdTo a k).foldl (n_short_st (b : Int)) (q, (r : Int)) = (q', ((wv a % b : Nat) : Int)) ∧ q'.length = a.length ∧ Wds q' ∧ wv q' = wv a / b
  | 0, q, r, _, hl, hw, hr, hv => by
    refine ⟨q, ?_, hl, hw, by simpa using hv⟩
    have : r = wv a % b := by simpa using hr
    rw [this]; rfl
  | k + 1, q, r, hk, hl, hw, hr, hv => by
    have hd := ha.getD k
    have hword := wv_word ha k
    obtain ⟨x, hx⟩ : ∃ x : Nat, a.getD k 0 = (x : Int) := ⟨(a.getD k 0).toNat, by unfold W32 at hd; omega⟩
    rw [hx, Int.toNat_natCast] at hword
    have hblk := div_block (wv a) k
    rw [← hword] at hblk
    unfold W32 at hd
    rw [hx] at hd
    have hxl : x < 4294967296 := by omega
    have hrb : r < b := by rw [hr]; exact Nat.mod_lt _ hb0
    generalize hN : wv a / 4294967296 ^ (k + 1) = N at *
    have hNd := Nat.div_add_mod N b
    rw [← hr] at hNd
    have hW : wv a / 4294967296 ^ k = b * (4294967296 * (N / b)) + (4294967296 * r + x) := by
      rw [hblk, ← hNd, Nat.mul_add, Nat.mul_left_comm, hNd]; omega
    have hq : wv a / 4294967296 ^ k / b = 4294967296 * (N / b) + (4294967296 * r + x) / b := by
      rw [hW, Nat.mul_add_div hb0]
    have hm : wv a / 4294967296 ^ k % b = (4294967296 * r + x) % b := by
      rw [hW, Nat.mul_add_mod]
    have hw1 : n_short_w (q, (r : Int)) ((k : Int), (x : Int)) = ((4294967296 * r + x : Nat) : Int) := by
      have e4 : shlI IntKind.u64 (r : Int) 32 = ((4294967296 * r : Nat) : Int) := by
        show IntKind.u64.wrap ((r : Int) * 2 ^ (min (32 : Int).toNat 64)) = _
        rw [show (2 : Int) ^ (min (32 : Int).toNat 64) = 4294967296 from rfl, u64i (by omega) (by omega)]
        omega
      have ho : 4294967296 * r ||| x = 4294967296 * r + x := by
        have := or_add (a := r) (b := x) (i := 32) (by omega)
        rwa [show 2 ^ 32 = 4294967296 from rfl] at this
      unfold n_short_w
      simp only []
      rw [e4, u64i (n := (x : Int)) (by omega) (by omega), bits_or (by omega) (by omega), ho]
    have hbw : IntKind.u64.wrap (b : Int) = (b : Int) := u64i (by omega) (by omega)
    have hdiv : (4294967296 * r + x) / b < 4294967296 := by
      rw [Nat.div_lt_iff_lt_mul hb0]
      have : 4294967296 * (r + 1) ≤ 4294967296 * b := Nat.mul_le_mul_left _ hrb
      omega
    have hst : n_short_st (b : Int) (q, (r : Int)) ((k : Int), (x : Int)) = (q.set k (((4294967296 * r + x) / b : Nat) : Int), (((4294967296 * r + x) % b : Nat) : Int)) := by
      unfold n_short_st
      rw [hw1, hbw]
      have e1 : (((4294967296 * r + x : Nat) : Int)).tdiv (b : Int) = (((4294967296 * r + x) / b : Nat) : Int) := by
        rw [Int.tdiv_eq_ediv_of_nonneg (Int.natCast_nonneg _)]; exact (Int.natCast_ediv _ _).symm
      have e2 : (((4294967296 * r + x : Nat) : Int)).tmod (b : Int) = (((4294967296 * r + x) % b : Nat) : Int) := by
        rw [Int.tmod_eq_emod_of_nonneg (Int.natCast_nonneg _)]; exact (Int.natCast_emod _ _).symm
      rw [e1, e2]
      clear e1 e2 hw1
      generalize (4294967296 * r + x) / b = dq at hdiv ⊢
      rw [u64i (n := (dq : Int)) (by omega) (by omega), u32i (by omega) (by omega), Int.toNat_natCast]
    have hmod : (4294967296 * r + x) % b < b := Nat.mod_lt _ hb0
    rw [bwdTo_succ, List.foldl_cons, hx, hst]
    have hqk : (q.getD k 0).toNat = 0 := by
      rw [wv_word hw k, hv, Nat.pow_succ, Nat.mul_assoc, Nat.mul_div_cancel_left _ (Nat.pow_pos (by decide)), Nat.mul_mod_right]
    have hset := wv_set q k (((4294967296 * r + x) / b : Nat) : Int) (by omega)
    rw [hqk, hv, Int.toNat_natCast, Nat.mul_zero, Nat.add_zero] at hset
    refine short_run ha hb hb0 k _ _ (by omega) (by simpa using hl) (hw.set ⟨Int.natCast_nonneg _, by generalize (4294967296 * r + x) / b = dq at hdiv ⊢; omega⟩) hm.symm ?_
    rw [hset, hq, Nat.pow_succ, Nat.mul_add, Nat.mul_assoc]
theorem nshort_spec {a : List Int} (ha : Wds a) (hn : a.length ≤ 1000000) {b : Nat} (hb : b < 4294967296) (hb0 : 0 < b) : n_short_s a (b : Int) = true ∧ NumIs (n_short a (b : Int)).1 (wv a / b) a.length ∧ NumIs (n_short a (b : Int)).2 (wv a % b) 2 := by
  have hz : wv a / 4294967296 ^ a.length = 0 := Nat.div_eq_of_lt (wv_lt ha)
  obtain ⟨q, h1, h2, h3, h4⟩ := short_run ha hb hb0 a.length (List.replicate a.length 0) 0 (Nat.le_refl _) (by simp) (Wds.rep _) (by rw [hz]; simp) (by rw [hz, wv_rep]; simp)
  have hf : n_short_f a (b : Int) = (q, ((wv a % b : Nat) : Int)) := h1
  have hmod : wv a % b < 4294967296 := Nat.lt_trans (Nat.mod_lt _ hb0) hb
  obtain ⟨h5, h6⟩ := numIs_trim (n := a.length) h3 (by omega) (by omega)
  obtain ⟨h7, h8⟩ := nnew_spec (x := ((wv a % b : Nat) : Int)) ⟨by omega, by omega⟩
  rw [Int.toNat_natCast] at h8
  have hbw : IntKind.u64.wrap (b : Int) = (b : Int) := u64i (by omega) (by omega)
  have e1 : ((b : Int) == 0) = false := bf (by omega)
  have e2 : decide (4 * (a.length : Int) ≤ 281474976710656) = true := dt (by omega)
  unfold n_short_s n_short
  rw [hf, hbw, e1, e2, h6, h7]
  rw [h4] at h5
  exact ⟨rfl, h5, h8⟩
end Go.Fb
namespace Go.Fb
open Go.Ev
theorem mod_div_word' {V m : Nat} (hm : m ≤ 32) : V % 18446744073709551616 / 2 ^ m % 4294967296 = V / 2 ^ m % 4294967296 := by
  rcases Nat.lt_or_ge m 32 with h | h
  · exact mod_div_word h
  · obtain rfl : m = 32 := by omega
    rw [show 2 ^ 32 = 4294967296 from rfl]; omega
theorem pow32 {k : Nat} (hk : k ≤ 32) : 2 ^ k * 2 ^ (32 - k) = 4294967296 := by
  rw [← Nat.pow_add, show k + (32 - k) = 32 by omega]
theorem div_of_pow32 (x : Nat) {k : Nat} (hk : k ≤ 32) : x * 2 ^ k / 4294967296 = x / 2 ^ (32 - k) := by
  rw [← pow32 hk, Nat.mul_comm x, Nat.mul_div_mul_left _ _ (Nat.two_pow_pos k)]
theorem shifted_digit {a : List Int} (ha : Wds a) {k : Nat} (hk : k < 32) (j : Nat) : wv a * 2 ^ k / 4294967296 ^ (j + 1) % 4294967296 = ((a.getD (j + 1) 0).toNat * 2 ^ k + (a.getD j 0).toNat * 2 ^ k / 4294967296) % 4294967296 := by
  have h2 := wv_two ha j
  have hu : (a.getD j 0).toNat < 4294967296 := by have := ha.getD j; unfold W32 at this; omega
  generalize (a.getD j 0).toNat = u at *
  generalize (a.getD (j + 1) 0).toNat = v at *
  have e : wv a * 2 ^ k / 4294967296 ^ (j + 1) = wv a / 4294967296 ^ j / 2 ^ (32 - k) := by
    rw [Nat.pow_succ, Nat.mul_comm (4294967296 ^ j), ← Nat.div_div_eq_div_mul, div_of_pow32 _ (by omega), Nat.div_div_eq_div_mul, Nat.div_div_eq_div_mul, Nat.mul_comm]
  rw [e, ← mod_div_word' (by omega), ← h2]
  have e2 : u + 4294967296 * v = u + 2 ^ (32 - k) * (2 ^ k * v) := by
    rw [← Nat.mul_assoc, Nat.mul_comm (2 ^ (32 - k)), pow32 (by omega)]
  rw [e2, Nat.add_mul_div_left _ _ (Nat.two_pow_pos _), div_of_pow32 _ (by omega), Nat.add_comm, Nat.mul_comm (2 ^ k)]
theorem shifted_digit0 {a : List Int} (ha : Wds a) (k : Nat) : wv a * 2 ^ k % 4294967296 = (a.getD 0 0).toNat * 2 ^ k % 4294967296 := by
  have := wv_word ha 0
  rw [Nat.pow_zero, Nat.div_one] at this
  rw [this, Nat.mod_mul_mod]
theorem shl_small32 {u k : Nat} (hu : u < 4294967296) (hk : k < 32) : shlI .u64 (u : Int) (k : Int) = ((u * 2 ^ k : Nat) : Int) ∧ u * 2 ^ k < 9223372036854775808 := by
  have h : u * 2 ^ k < 9223372036854775808 := by
    have h1 : u * 2 ^ k ≤ u * 2 ^ 31 := Nat.mul_le_mul_left _ (Nat.pow_le_pow_right (by decide) (by omega))
    have : (2 : Nat) ^ 31 = 2147483648 := rfl
    rw [this] at h1; omega
  rw [shl_nat _ _ (by omega), Nat.mod_eq_of_lt (by omega)]
  exact ⟨rfl, h⟩
theorem shifted_word {u v k : Nat} (hu : u < 4294967296) (hv : v < 4294967296) (hk : k < 32) :
    IntKind.u32.wrap (bitsI .or .u64 (shlI .u64 (v : Int) (k : Int)) (shrI .u64 (shlI .u64 (u : Int) (k : Int)) 32)) = (((v * 2 ^ k + u * 2 ^ k / 4294967296) % 4294967296 : Nat) : Int) := by
  obtain ⟨e1, h1⟩ := shl_small32 hu hk
  obtain ⟨e2, h2⟩ := shl_small32 hv hk
  have e3 : u * 2 ^ k / 4294967296 < 2 ^ k := by
    rw [Nat.div_lt_iff_lt_mul (by decide)]
    rw [Nat.mul_comm]; exact Nat.mul_lt_mul_of_pos_left hu (Nat.two_pow_pos k)
  rw [e1, e2, show (32 : Int) = ((32 : Nat) : Int) from rfl, shr_nat _ 32 (by omega), show 2 ^ 32 = 4294967296 from rfl, bits_or (by omega) (by omega)]
  have e4 := or_add (a := v) e3
  rw [Nat.mul_comm v, e4, u32w]
  rfl
theorem shifted_run {a : List Int} (ha : Wds a) {k S : Nat} (hk : k < 32) (hS : S ≤ 2000000) : ∀ (m i : Nat) (h : List Int), i + m = S → h.length = S → Wds h → wv h = wv a * 2 ^ k % 4294967296 ^ i →
    ∃ h', runL (n_shifted_L0_step (a, (k : Int), (S : Int))) (m + 1) ((i : Int), h) = some ((S : Int), h') ∧ h'.length = S ∧ Wds h' ∧ wv h' = wv a * 2 ^ k % 4294967296 ^ S
  | 0, i, h, hi, hl, hw, hv => by
    have : i = S := by omega
    subst this
    exact ⟨h, runL_out (Tr.is_br_f (df (by first | omega | (dsimp only; omega))) (Tr.is_leaf rfl)), hl, hw, hv⟩
  | m + 1, i, h, hi, hl, hw, hv => by
    have e4 : IntKind.i64.wrap ((i : Int) + 1) = ((i + 1 : Nat) : Int) := wnext (by omega)
    have hz : (h.getD i 0).toNat = 0 := by
      rw [wv_word hw i, hv, Nat.div_eq_of_lt (Nat.mod_lt _ (Nat.pow_pos (by decide)))]
    have e6 : (decide ((0 : Int) ≤ (i : Int)) && decide ((i : Int) < (h.length : Int))) = true := by simp; omega
    obtain ⟨y, hy, hstep⟩ : ∃ y : Nat, y = wv a * 2 ^ k / 4294967296 ^ i % 4294967296 ∧ Tr.Is (n_shifted_L0_step (a, (k : Int), (S : Int)) ((i : Int), h)) (.inl (((i + 1 : Nat) : Int), h.set i (y : Int))) := by
      have hd := ha.getD i
      unfold W32 at hd
      obtain ⟨v, hv'⟩ : ∃ v : Nat, a.getD i 0 = (v : Int) := ⟨(a.getD i 0).toNat, by omega⟩
      rcases i with _ | j
      · refine ⟨_, rfl, ?_⟩
        refine Tr.is_br_t (dt (by first | omega | (dsimp only; omega))) (Tr.is_ast (at_spec ha).2 (Tr.is_ast (dt (by first | omega | (dsimp only; omega))) (Tr.is_br_f (df (by first | omega | (dsimp only; omega))) (Tr.is_ast e6 (Tr.is_leaf ?_)))))
        simp only [e4]
        have hw0 : IntKind.u32.wrap (shlI IntKind.u64 (n_at a ((0 : Nat) : Int)) (k : Int)) = ((wv a * 2 ^ k / 4294967296 ^ 0 % 4294967296 : Nat) : Int) := by
          rw [(at_spec ha).1, hv', (shl_small32 (by omega) hk).1, Nat.pow_zero, Nat.div_one, shifted_digit0 ha, hv', u32w]
          rfl
        rw [hw0]; rfl
      · have e7 : IntKind.i64.wrap (((j + 1 : Nat) : Int) - 1) = (j : Int) := by rw [w64 (by omega) (by omega)]; omega
        have hd2 := ha.getD j
        unfold W32 at hd2
        obtain ⟨u, hu'⟩ : ∃ u : Nat, a.getD j 0 = (u : Int) := ⟨(a.getD j 0).toNat, by omega⟩
        refine ⟨_, rfl, ?_⟩
        refine Tr.is_br_t (dt (by first | omega | (dsimp only; omega))) (Tr.is_ast (at_spec ha).2 (Tr.is_ast (dt (by first | omega | (dsimp only; omega))) (Tr.is_br_t (dt (by first | omega | (dsimp only; omega))) (Tr.is_ast (by rw [e7]; exact (at_spec ha).2) (Tr.is_ast (dt (by first | omega | (dsimp only; omega))) (Tr.is_ast e6 (Tr.is_leaf ?_)))))))
        simp only [e4, e7]
        rw [(at_spec ha).1, (at_spec ha).1, hv', hu', shifted_word (by omega) (by omega) hk, shifted_digit ha hk, hv', hu', Int.toNat_natCast, Int.toNat_natCast, Int.toNat_natCast]
    have hyl : y < 4294967296 := by rw [hy]; exact Nat.mod_lt _ (by decide)
    have hset := wv_set h i (y : Int) (by omega)
    rw [hz, Nat.mul_zero, Nat.add_zero, Int.toNat_natCast] at hset
    obtain ⟨h', h1, h2, h3, h4⟩ := shifted_run ha hk hS m (i + 1) (h.set i (y : Int)) (by omega) (by simpa using hl) (hw.set ⟨by omega, by omega⟩) (by rw [hset, hv, hy, Nat.pow_succ, Nat.mod_mul])
    exact ⟨h', by rw [runL_next hstep, h1], h2, h3, h4⟩
theorem shifted_spec {a : List Int} (ha : Wds a) {k S : Nat} (hk : k < 32) (hS : S ≤ 2000000) : n_shifted_s a (k : Int) (S : Int) = true ∧ Wds (n_shifted a (k : Int) (S : Int)) ∧ (n_shifted a (k : Int) (S : Int)).length = S ∧ wv (n_shifted a (k : Int) (S : Int)) = wv a * 2 ^ k % 4294967296 ^ S := by
  obtain ⟨h', h1, h2, h3, h4⟩ := shifted_run ha hk hS S 0 (List.replicate S 0) (by omega) (by simp) (Wds.rep _) (by rw [wv_rep, Nat.pow_zero, Nat.mod_one])
  have hr : n_shifted_L0_r (a, (k : Int), (S : Int)) (0, List.replicate S 0) = some ((S : Int), h') := runB_of h1 (by omega)
  have : Tr.Is (n_shifted_t a (k : Int) (S : Int)) h' := by
    have el : ((List.replicate (S : Int).toNat (0 : Int)).length : Int) = (S : Int) := by simp
    refine Tr.is_ast (by simp; omega) (Tr.is_ast ?_ (Tr.is_leaf ?_))
    · rw [el]
      show n_shifted_L0_ok (a, (k : Int), (S : Int)) (0, List.replicate S 0) = true
      unfold n_shifted_L0_ok; rw [hr]; rfl
    · rw [el]
      show (n_shifted_L0_v (a, (k : Int), (S : Int)) (0, List.replicate S 0)).2 = h'
      unfold n_shifted_L0_v; rw [hr]; rfl
  have hv : n_shifted a (k : Int) (S : Int) = h' := this.1
  rw [hv]
  exact ⟨this.2, h3, h2, h4⟩
end Go.Fb
namespace Go.Fb
open Go.Ev
theorem guess_run {den xs : List Int} {lo M L d1 d0 w top Q : Nat} (z : Int) (hL : den.length = L) (hL2 : 2 ≤ L) (hM : M = L + 1) (hlen : L ≤ 1000000)
    (h1 : d1 < 4294967296) (h0 : d0 < 4294967296) (hw : w < 4294967296) (hd0 : den.getD (L - 2) 0 = (d0 : Int)) (hwx : xs.getD (lo + (L - 2)) 0 = (w : Int))
    (hQ1 : Q < 4294967296) (hQ2 : Q * (4294967296 * d1 + d0) ≤ 4294967296 * top + w) : ∀ (n g r : Nat), g ≤ Q + n → g ≤ 4294967297 → Q ≤ g → g * d1 + r = top → r < 4294967296 →
    ∃ g' r' : Nat, runL (n_step_L0_step (lo, M, den, z, (L : Int), (d1 : Int), xs)) (n + 1) ((g : Int), (r : Int)) = some ((g' : Int), (r' : Int)) ∧ Q ≤ g' ∧ g' ≤ 4294967296 ∧ g' * (4294967296 * d1 + d0) ≤ 4294967296 * top + w := by
  have ei : IntKind.i64.wrap ((L : Int) - 2) = ((L - 2 : Nat) : Int) := by rw [w64 (by omega) (by omega)]; omega
  have a1 : (decide ((0 : Int) ≤ IntKind.i64.wrap ((L : Int) - 2)) && decide (IntKind.i64.wrap ((L : Int) - 2) < (den.length : Int))) = true := by simp only [ei, hL]; simp; omega
  have a2 : (decide ((0 : Int) ≤ IntKind.i64.wrap ((L : Int) - 2)) && decide (IntKind.i64.wrap ((L : Int) - 2) < (M : Int))) = true := by simp only [ei]; simp; omega
  -- what is known where the guess is too great
  have big : ∀ {g r : Nat}, g * d1 + r = top → 4294967296 * r + w < g * d0 → Q < g := by
    intro g r hg hlt
    have h3 : 4294967296 * top + w < g * (4294967296 * d1 + d0) := by
      rw [← hg, Nat.mul_add, Nat.mul_left_comm, Nat.mul_add]; omega
    exact Nat.lt_of_mul_lt_mul_right (Nat.lt_of_le_of_lt hQ2 h3)
  intro n
  induction n with
  | zero =>
    intro g r hgn hgB hQg hg hr
    have hgQ : g = Q := by omega
    have hgd : g * d0 ≤ 4294967296 * r + w := by
      rcases Nat.lt_or_ge (4294967296 * r + w) (g * d0) with h | h
      · have := big hg h; omega
      · exact h
    refine ⟨g, r, ?_, hQg, by omega, ?_⟩
    · refine runL_out (Tr.is_br_f (df (by first | omega | (dsimp only; omega))) (Tr.is_ast ?_ (Tr.is_ast ?_ (Tr.is_br_f (df ?_) (Tr.is_leaf rfl)))))
      · simp only [ei, hL]; simp; omega
      · simp only [ei]; simp; omega
      · simp only [ei, Int.toNat_natCast, hd0, hwx]
        have e1 : IntKind.u64.wrap ((g : Int) * IntKind.u64.wrap (d0 : Int)) = ((g * d0 : Nat) : Int) := by
          have hb : g * d0 ≤ 4294967295 * 4294967295 := Nat.mul_le_mul (by omega) (by omega)
          rw [u64i (n := (d0 : Int)) (by omega) (by omega), ← Int.natCast_mul, u64i (by omega) (by omega)]
        have e2 : bitsI BinOp.or IntKind.u64 (shlI IntKind.u64 (r : Int) 32) (IntKind.u64.wrap (w : Int)) = ((4294967296 * r + w : Nat) : Int) := by
          have e4 : shlI IntKind.u64 (r : Int) 32 = ((4294967296 * r : Nat) : Int) := by
            show IntKind.u64.wrap ((r : Int) * 2 ^ (min (32 : Int).toNat 64)) = _
            rw [show (2 : Int) ^ (min (32 : Int).toNat 64) = 4294967296 from rfl, u64i (by omega) (by omega)]
            omega
          have ho : 4294967296 * r ||| w = 4294967296 * r + w := by
            have := or_add (a := r) (b := w) (i := 32) (by omega)
            rwa [show 2 ^ 32 = 4294967296 from rfl] at this
          rw [e4, u64i (n := (w : Int)) (by omega) (by omega), bits_or (by omega) (by omega), ho]
        rw [e1, e2]; omega
    · rw [← hg, Nat.mul_add, Nat.mul_left_comm, Nat.mul_add]; omega
  | succ n ih =>
    intro g r hgn hgB hQg hg hr
    -- one less
    have down : Q < g → ∃ g' r' : Nat, (if 4294967296 ≤ r + d1 then g' = g - 1 ∧ r' = r + d1 else runL (n_step_L0_step (lo, M, den, z, (L : Int), (d1 : Int), xs)) (n + 1) (((g - 1 : Nat) : Int), ((r + d1 : Nat) : Int)) = some ((g' : Int), (r' : Int))) ∧ Q ≤ g' ∧ g' ≤ 4294967296 ∧ g' * (4294967296 * d1 + d0) ≤ 4294967296 * top + w := by
      intro hlt
      have hg1 : (g - 1) * d1 + (r + d1) = top := by
        have : (g - 1 + 1) * d1 = (g - 1) * d1 + d1 := by rw [Nat.add_mul, Nat.one_mul]
        rw [Nat.sub_add_cancel (by omega)] at this
        omega
      by_cases hB : 4294967296 ≤ r + d1
      · refine ⟨g - 1, r + d1, by rw [if_pos hB]; exact ⟨rfl, rfl⟩, by omega, by omega, ?_⟩
        have h3 : (g - 1) * d0 ≤ 4294967296 * (r + d1) := Nat.mul_le_mul (by omega) (by omega)
        rw [← hg1, Nat.mul_add (g - 1), Nat.mul_left_comm, Nat.mul_add]
        omega
      · obtain ⟨g', r', k1, k2, k3, k4⟩ := ih (g - 1) (r + d1) (by omega) (by omega) (by omega) hg1 (by omega)
        exact ⟨g', r', by rw [if_neg hB]; exact k1, k2, k3, k4⟩
    have e5 : IntKind.u64.wrap ((r : Int) + (d1 : Int)) = ((r + d1 : Nat) : Int) := by rw [u64i (by omega) (by omega)]; omega
    -- the two ways on, after the test
    have go : Q < g → ∃ g' r' : Nat, (∀ t : Tr ((Int × Int) ⊕ (Int × Int)), n_step_L0_step (lo, M, den, z, (L : Int), (d1 : Int), xs) ((g : Int), (r : Int)) = t →
        (∀ v, Tr.Is (.br (decide (IntKind.u64.wrap ((r : Int) + (d1 : Int)) ≥ 4294967296)) (.leaf (.inr (IntKind.u64.wrap ((g : Int) - 1), IntKind.u64.wrap ((r : Int) + (d1 : Int))))) (.leaf (.inl (IntKind.u64.wrap ((g : Int) - 1), IntKind.u64.wrap ((r : Int) + (d1 : Int)))))) v → Tr.Is t v) →
        runL (n_step_L0_step (lo, M, den, z, (L : Int), (d1 : Int), xs)) (n + 1 + 1) ((g : Int), (r : Int)) = some ((g' : Int), (r' : Int))) ∧ Q ≤ g' ∧ g' ≤ 4294967296 ∧ g' * (4294967296 * d1 + d0) ≤ 4294967296 * top + w := by
      intro hlt
      obtain ⟨g', r', k1, k2, k3, k4⟩ := down hlt
      refine ⟨g', r', fun t ht hv => ?_, k2, k3, k4⟩
      have e6 : IntKind.u64.wrap ((g : Int) - 1) = ((g - 1 : Nat) : Int) := by rw [u64i (by omega) (by omega)]; omega
      by_cases hB : 4294967296 ≤ r + d1
      · rw [if_pos hB] at k1
        obtain ⟨rfl, rfl⟩ := k1
        exact runL_out (by rw [ht]; exact hv _ (Tr.is_br_t (dt (by rw [e5]; omega)) (Tr.is_leaf (by rw [e5, e6]))))
      · rw [if_neg hB] at k1
        rw [← k1]
        exact runL_next (by rw [ht]; exact hv _ (Tr.is_br_f (df (by rw [e5]; omega)) (Tr.is_leaf (by rw [e5, e6]))))
    by_cases hgB2 : 4294967296 ≤ g
    · obtain ⟨g', r', k1, k2, k3, k4⟩ := go (by omega)
      exact ⟨g', r', k1 _ rfl fun v hv => Tr.is_br_t (dt (by first | omega | (dsimp only; omega))) hv, k2, k3, k4⟩
    · have e1 : IntKind.u64.wrap ((g : Int) * IntKind.u64.wrap (d0 : Int)) = ((g * d0 : Nat) : Int) := by
        have hb : g * d0 ≤ 4294967295 * 4294967295 := Nat.mul_le_mul (by omega) (by omega)
        rw [u64i (n := (d0 : Int)) (by omega) (by omega), ← Int.natCast_mul, u64i (by omega) (by omega)]
      have e2 : bitsI BinOp.or IntKind.u64 (shlI IntKind.u64 (r : Int) 32) (IntKind.u64.wrap (w : Int)) = ((4294967296 * r + w : Nat) : Int) := by
        have e4 : shlI IntKind.u64 (r : Int) 32 = ((4294967296 * r : Nat) : Int) := by
          show IntKind.u64.wrap ((r : Int) * 2 ^ (min (32 : Int).toNat 64)) = _
          rw [show (2 : Int) ^ (min (32 : Int).toNat 64) = 4294967296 from rfl, u64i (by omega) (by omega)]
          omega
        have ho : 4294967296 * r ||| w = 4294967296 * r + w := by
          have := or_add (a := r) (b := w) (i := 32) (by omega)
          rwa [show 2 ^ 32 = 4294967296 from rfl] at this
        rw [e4, u64i (n := (w : Int)) (by omega) (by omega), bits_or (by omega) (by omega), ho]
      by_cases hc : 4294967296 * r + w < g * d0
      · obtain ⟨g', r', k1, k2, k3, k4⟩ := go (big hg hc)
        refine ⟨g', r', k1 _ rfl fun v hv => Tr.is_br_f (df (by first | omega | (dsimp only; omega))) (Tr.is_ast a1 (Tr.is_ast a2 (Tr.is_br_t (dt ?_) hv))), k2, k3, k4⟩
        simp only [ei, Int.toNat_natCast, hd0, hwx]
        rw [e1, e2]; omega
      · refine ⟨g, r, ?_, hQg, by omega, ?_⟩
        · refine runL_out (Tr.is_br_f (df (by first | omega | (dsimp only; omega))) (Tr.is_ast a1 (Tr.is_ast a2 (Tr.is_br_f (df ?_) (Tr.is_leaf rfl)))))
          simp only [ei, Int.toNat_natCast, hd0, hwx]
          rw [e1, e2]; omega
        · rw [← hg, Nat.mul_add, Nat.mul_left_comm, Nat.mul_add]; omega
end Go.Fb
namespace Go.Fb
open Go.Ev
theorem and32n {z : Nat} (h : z < 18446744073709551616) : bitsI .and .u64 (z : Int) 4294967295 = ((z % 4294967296 : Nat) : Int) := by
  rw [and32 ⟨by omega, by omega⟩]; omega
theorem shr32n (z : Nat) : shrI .u64 (z : Int) 32 = ((z / 4294967296 : Nat) : Int) := by
  rw [show (32 : Int) = ((32 : Nat) : Int) from rfl, shr_nat _ 32 (by omega)]
theorem u32n (z : Nat) : IntKind.u32.wrap (z : Int) = ((z % 4294967296 : Nat) : Int) := by rw [u32w]; omega
theorem drop_set_lt {l : List Int} {j k : Nat} {y : Int} (h : j < k) : (l.set j y).drop k = l.drop k := by
  rw [List.drop_set, if_pos h]
theorem mulsub_alg {P Pn Wh Wh' Wx G D u bo ca c' y bo' : Nat} (hPn : Pn = 4294967296 * P) (hinv : Wh + G * D = Wx + P * (bo + ca)) (hset : Wh' + P * u = Wh + P * y) (hy : u + 4294967296 * bo' = y + c' % 4294967296 + bo) {gd : Nat} (hc : c' = ca + gd) :
    Wh' + (G * D + P * gd) = Wx + Pn * (bo' + c' / 4294967296) := by
  have hd := Nat.div_add_mod c' 4294967296
  have e1 : P * (4294967296 * (bo' + c' / 4294967296)) + P * u = P * (y + bo + c') := by
    rw [← Nat.mul_add]; congr 1; omega
  have e2 : P * (y + bo + c') = P * y + P * bo + P * ca + P * gd := by rw [hc]; simp only [Nat.mul_add]; omega
  rw [hPn, Nat.mul_assoc, Nat.mul_left_comm]
  rw [Nat.mul_add P bo ca] at hinv
  omega
theorem mulsub_run {den xs : List Int} (hd : Wds den) {lo L M g : Nat} (z : Int) (hL : den.length = L) (hM : M = L + 1) (hlen : L ≤ 1000000) (hg : g ≤ 4294967296) (hlo : lo ≤ 1000000) (hxs : lo + M ≤ xs.length) :
    ∀ (m i bo ca : Nat) (h : List Int), i + m = M → h.length = xs.length → Wds h → bo ≤ 1 → ca < 4294967296 → (i ≤ L ∨ ca = 0) → wv h + g * (wv (den.take i) * 4294967296 ^ lo) = wv xs + 4294967296 ^ (lo + i) * (bo + ca) → h.drop (lo + M) = xs.drop (lo + M) →
    ∃ (bo' : Nat) (h' : List Int), runL (n_step_L1_step (lo, M, den, z, (L : Int), (g : Int), (M : Int))) (m + 1) ((bo : Int), (ca : Int), (i : Int), h) = some ((bo' : Int), 0, (M : Int), h') ∧ h'.length = xs.length ∧ Wds h' ∧ bo' ≤ 1 ∧ wv h' + g * (wv den * 4294967296 ^ lo) = wv xs + 4294967296 ^ (lo + M) * bo' ∧ h'.drop (lo + M) = xs.drop (lo + M)
  | 0, i, bo, ca, h, hi, hl, hw, hbo, hca, hz, hv, hdr => by
    have hiM : i = M := by omega
    have hca0 : ca = 0 := by omega
    subst hca0
    rw [hiM] at hv ⊢
    refine ⟨bo, h, runL_out (Tr.is_br_f (df (by first | omega | (dsimp only; omega))) (Tr.is_leaf rfl)), hl, hw, hbo, ?_, hdr⟩
    rw [List.take_of_length_le (by omega)] at hv
    simpa using hv
  | m + 1, i, bo, ca, h, hi, hl, hw, hbo, hca, hz, hv, hdr => by
    have e4 : IntKind.i64.wrap ((i : Int) + 1) = ((i + 1 : Nat) : Int) := wnext (by omega)
    have dh := hw.getD (lo + i)
    unfold W32 at dh
    obtain ⟨u, hu⟩ : ∃ u : Nat, h.getD (lo + i) 0 = (u : Int) := ⟨(h.getD (lo + i) 0).toNat, by omega⟩
    have hpw : 4294967296 ^ (lo + (i + 1)) = 4294967296 * 4294967296 ^ (lo + i) := by rw [← Nat.add_assoc, Nat.pow_succ, Nat.mul_comm]
    have a1 : (decide ((0 : Int) ≤ (i : Int)) && decide ((i : Int) < (M : Int))) = true := by simp; omega
    have huw : IntKind.u64.wrap (u : Int) = (u : Int) := u64i (by omega) (by omega)
    by_cases hiL : i < L
    · have dd := hd.getD i
      unfold W32 at dd
      obtain ⟨v, hv'⟩ : ∃ v : Nat, den.getD i 0 = (v : Int) := ⟨(den.getD i 0).toNat, by omega⟩
      have hvl : v < 4294967296 := by omega
      have hgv : g * v ≤ 4294967296 * 4294967295 := Nat.mul_le_mul hg (by omega)
      have ec : IntKind.u64.wrap ((ca : Int) + IntKind.u64.wrap ((g : Int) * IntKind.u64.wrap (v : Int))) = ((ca + g * v : Nat) : Int) := by
        rw [u64i (n := (v : Int)) (by omega) (by omega), ← Int.natCast_mul, u64i (n := ((g * v : Nat) : Int)) (by omega) (by omega), u64i (by omega) (by omega)]
        omega
      obtain ⟨bo', y, hbo', hyl, hk, es, ew⟩ := sub_word (u := u) (v := (ca + g * v) % 4294967296) (c := bo) (by omega) (Nat.mod_lt _ (by decide)) hbo
      have hset := wv_set h (lo + i) (y : Int) (by omega)
      rw [hu, Int.toNat_natCast, Int.toNat_natCast] at hset
      have hnew := mulsub_alg hpw hv hset hk rfl (gd := g * v)
      have htk : g * (wv (den.take (i + 1)) * 4294967296 ^ lo) = g * (wv (den.take i) * 4294967296 ^ lo) + 4294967296 ^ (lo + i) * (g * v) := by
        rw [wv_take_step, hv', Int.toNat_natCast, Nat.add_mul, Nat.mul_add, Nat.pow_add]
        congr 1
        ac_rfl
      rw [← htk] at hnew
      obtain ⟨bo2, h2, k1, k2, k3, k4, k5, k6⟩ := mulsub_run hd z hL hM hlen hg hlo hxs m (i + 1) bo' ((ca + g * v) / 4294967296) (h.set (lo + i) (y : Int)) (by omega) (by simpa using hl) (hw.set ⟨by omega, by omega⟩) hbo' (by omega) (.inl (by omega)) hnew
        (by rw [drop_set_lt (by omega)]; exact hdr)
      refine ⟨bo2, h2, ?_, k2, k3, k4, k5, k6⟩
      rw [← k1]
      refine runL_next (Tr.is_br_t (dt (by first | omega | (dsimp only; omega))) (Tr.is_br_t (dt (by first | omega | (dsimp only; omega))) (Tr.is_ast ?_ (Tr.is_ast a1 (Tr.is_ast a1 (Tr.is_leaf ?_))))))
      · simp only [hL]; simp; omega
      · simp only [Int.toNat_natCast, hv', hu, ec, huw, e4]
        rw [and32n (by omega), es, ew, shr32n]
    · have hiL' : i = L := by omega
      obtain ⟨bo', y, hbo', hyl, hk, es, ew⟩ := sub_word (u := u) (v := ca % 4294967296) (c := bo) (by omega) (Nat.mod_lt _ (by decide)) hbo
      have hset := wv_set h (lo + i) (y : Int) (by omega)
      rw [hu, Int.toNat_natCast, Int.toNat_natCast] at hset
      have hnew := mulsub_alg hpw hv hset hk (Nat.add_zero ca).symm (gd := 0)
      rw [Nat.mul_zero, Nat.add_zero] at hnew
      have htk : g * (wv (den.take (i + 1)) * 4294967296 ^ lo) = g * (wv (den.take i) * 4294967296 ^ lo) := by
        rw [List.take_of_length_le (by omega), List.take_of_length_le (by omega)]
      rw [← htk] at hnew
      have hcz : ca / 4294967296 = 0 := Nat.div_eq_of_lt hca
      obtain ⟨bo2, h2, k1, k2, k3, k4, k5, k6⟩ := mulsub_run hd z hL hM hlen hg hlo hxs m (i + 1) bo' (ca / 4294967296) (h.set (lo + i) (y : Int)) (by omega) (by simpa using hl) (hw.set ⟨by omega, by omega⟩) hbo' (by omega) (.inr hcz) hnew
        (by rw [drop_set_lt (by omega)]; exact hdr)
      refine ⟨bo2, h2, ?_, k2, k3, k4, k5, k6⟩
      rw [← k1]
      refine runL_next (Tr.is_br_t (dt (by first | omega | (dsimp only; omega))) (Tr.is_br_f (df (by first | omega | (dsimp only; omega))) (Tr.is_ast a1 (Tr.is_ast a1 (Tr.is_leaf ?_)))))
      simp only [Int.toNat_natCast, hu, huw, e4]
      rw [and32n (by omega), es, ew, shr32n]
theorem addback_run {den xs : List Int} (hd : Wds den) {lo L M : Nat} (z z2 : Int) (z3 : Bool) (hL : den.length = L) (hM : M = L + 1) (hlen : L ≤ 1000000) (hlo : lo ≤ 1000000) (hxs : lo + M ≤ xs.length) :
    ∀ (m i s : Nat) (h : List Int), i + m = M → h.length = xs.length → Wds h → s ≤ 1 → wv h + 4294967296 ^ (lo + i) * s = wv xs + wv (den.take i) * 4294967296 ^ lo → h.drop (lo + M) = xs.drop (lo + M) →
    ∃ (s' : Nat) (h' : List Int), runL (n_step_L2_step (lo, M, den, z, (L : Int), z2, z3, (M : Int))) (m + 1) ((s : Int), (i : Int), h) = some ((s' : Int), (M : Int), h') ∧ h'.length = xs.length ∧ Wds h' ∧ s' ≤ 1 ∧ wv h' + 4294967296 ^ (lo + M) * s' = wv xs + wv den * 4294967296 ^ lo ∧ h'.drop (lo + M) = xs.drop (lo + M)
  | 0, i, s, h, hi, hl, hw, hs, hv, hdr => by
    have hiM : i = M := by omega
    rw [hiM] at hv ⊢
    refine ⟨s, h, runL_out (Tr.is_br_f (df (by first | omega | (dsimp only; omega))) (Tr.is_leaf rfl)), hl, hw, hs, ?_, hdr⟩
    rwa [List.take_of_length_le (by omega)] at hv
  | m + 1, i, s, h, hi, hl, hw, hs, hv, hdr => by
    have e4 : IntKind.i64.wrap ((i : Int) + 1) = ((i + 1 : Nat) : Int) := wnext (by omega)
    have dh := hw.getD (lo + i)
    unfold W32 at dh
    obtain ⟨u, hu⟩ : ∃ u : Nat, h.getD (lo + i) 0 = (u : Int) := ⟨(h.getD (lo + i) 0).toNat, by omega⟩
    have hpw : 4294967296 ^ (lo + (i + 1)) = 4294967296 * 4294967296 ^ (lo + i) := by rw [← Nat.add_assoc, Nat.pow_succ, Nat.mul_comm]
    have a1 : (decide ((0 : Int) ≤ (i : Int)) && decide ((i : Int) < (M : Int))) = true := by simp; omega
    have huw : IntKind.u64.wrap (u : Int) = (u : Int) := u64i (by omega) (by omega)
    have alg : ∀ {v : Nat}, wv (h.set (lo + i) (((s + v + u) % 4294967296 : Nat) : Int)) + 4294967296 ^ (lo + (i + 1)) * ((s + v + u) / 4294967296) = wv xs + (wv (den.take i) * 4294967296 ^ lo + 4294967296 ^ (lo + i) * v) := by
      intro v
      have hset := wv_set h (lo + i) (((s + v + u) % 4294967296 : Nat) : Int) (by omega)
      rw [hu, Int.toNat_natCast, Int.toNat_natCast] at hset
      have hdm := Nat.div_add_mod (s + v + u) 4294967296
      generalize (s + v + u) / 4294967296 = q at *
      generalize (s + v + u) % 4294967296 = r at *
      have e1 : 4294967296 ^ (lo + i) * (4294967296 * q) + 4294967296 ^ (lo + i) * r = 4294967296 ^ (lo + i) * s + 4294967296 ^ (lo + i) * v + 4294967296 ^ (lo + i) * u := by
        rw [← Nat.mul_add, hdm, Nat.mul_add, Nat.mul_add]
      rw [hpw, Nat.mul_assoc, Nat.mul_left_comm]
      omega
    by_cases hiL : i < L
    · have dd := hd.getD i
      unfold W32 at dd
      obtain ⟨v, hv'⟩ : ∃ v : Nat, den.getD i 0 = (v : Int) := ⟨(den.getD i 0).toNat, by omega⟩
      have ec : IntKind.u64.wrap (IntKind.u64.wrap ((s : Int) + IntKind.u64.wrap (v : Int)) + IntKind.u64.wrap (u : Int)) = ((s + v + u : Nat) : Int) := by
        rw [huw, u64i (n := (v : Int)) (by omega) (by omega), u64i (n := (s : Int) + v) (by omega) (by omega), u64i (by omega) (by omega)]
        omega
      have htk : wv (den.take (i + 1)) * 4294967296 ^ lo = wv (den.take i) * 4294967296 ^ lo + 4294967296 ^ (lo + i) * v := by
        rw [wv_take_step, hv', Int.toNat_natCast, Nat.add_mul, Nat.pow_add]
        congr 1
        ac_rfl
      obtain ⟨s2, h2, k1, k2, k3, k4, k5, k6⟩ := addback_run hd z z2 z3 hL hM hlen hlo hxs m (i + 1) ((s + v + u) / 4294967296) (h.set (lo + i) (((s + v + u) % 4294967296 : Nat) : Int)) (by omega) (by simpa using hl) (hw.set ⟨by omega, by omega⟩) (by omega) (by rw [htk]; exact alg)
        (by rw [drop_set_lt (by omega)]; exact hdr)
      refine ⟨s2, h2, ?_, k2, k3, k4, k5, k6⟩
      rw [← k1]
      refine runL_next (Tr.is_br_t (dt (by first | omega | (dsimp only; omega))) (Tr.is_br_t (dt (by first | omega | (dsimp only; omega))) (Tr.is_ast ?_ (Tr.is_ast a1 (Tr.is_ast a1 (Tr.is_leaf ?_))))))
      · simp only [hL]; simp; omega
      · simp only [Int.toNat_natCast, hv', hu, ec, e4]
        rw [shr32n, u32n]
    · have ec : IntKind.u64.wrap ((s : Int) + IntKind.u64.wrap (u : Int)) = ((s + 0 + u : Nat) : Int) := by
        rw [huw, u64i (by omega) (by omega)]
        omega
      have htk : wv (den.take (i + 1)) * 4294967296 ^ lo = wv (den.take i) * 4294967296 ^ lo + 4294967296 ^ (lo + i) * 0 := by
        rw [List.take_of_length_le (by omega), List.take_of_length_le (by omega)]; omega
      obtain ⟨s2, h2, k1, k2, k3, k4, k5, k6⟩ := addback_run hd z z2 z3 hL hM hlen hlo hxs m (i + 1) ((s + 0 + u) / 4294967296) (h.set (lo + i) (((s + 0 + u) % 4294967296 : Nat) : Int)) (by omega) (by simpa using hl) (hw.set ⟨by omega, by omega⟩) (by omega) (by rw [htk]; exact alg)
        (by rw [drop_set_lt (by omega)]; exact hdr)
      refine ⟨s2, h2, ?_, k2, k3, k4, k5, k6⟩
      rw [← k1]
      refine runL_next (Tr.is_br_t (dt (by first | omega | (dsimp only; omega))) (Tr.is_br_f (df (by first | omega | (dsimp only; omega))) (Tr.is_ast a1 (Tr.is_ast a1 (Tr.is_leaf ?_)))))
      simp only [Int.toNat_natCast, hu, ec, e4]
      rw [shr32n, u32n]
end Go.Fb
namespace Go.Fb
open Go.Ev
theorem pow_pos32 (n : Nat) : 0 < 4294967296 ^ n := Nat.pow_pos (by decide)
theorem top_words {l : List Int} (hw : Wds l) (j : Nat) : wv l / 4294967296 ^ j = (l.getD j 0).toNat + 4294967296 * (wv l / 4294967296 ^ (j + 1)) := by
  have := div_block (wv l) j
  rw [← wv_word hw] at this
  omega
theorem kd_pre {D X n lo d1 d0 T x0 : Nat} (hD1 : D / 4294967296 ^ (n + 1) = d1) (hD0 : D / 4294967296 ^ n = 4294967296 * d1 + d0) (hX1 : X / 4294967296 ^ (lo + (n + 1)) = T) (hX0 : X / 4294967296 ^ (lo + n) = 4294967296 * T + x0)
    (hd1n : 2147483648 ≤ d1) (hDP : 0 < D * 4294967296 ^ lo) (hlt : X < D * 4294967296 ^ (lo + 1)) :
    X / (D * 4294967296 ^ lo) < 4294967296 ∧ X / (D * 4294967296 ^ lo) * (4294967296 * d1 + d0) ≤ 4294967296 * T + x0 ∧ X / (D * 4294967296 ^ lo) ≤ T / d1 ∧ T / d1 ≤ 4294967297 := by
  have hQX : X / (D * 4294967296 ^ lo) * (D * 4294967296 ^ lo) ≤ X := Nat.div_mul_le_self _ _
  have hQB : X / (D * 4294967296 ^ lo) < 4294967296 := by
    rw [Nat.div_lt_iff_lt_mul hDP]
    rw [Nat.pow_succ, ← Nat.mul_assoc] at hlt
    rw [Nat.mul_comm]; exact hlt
  generalize X / (D * 4294967296 ^ lo) = Q at *
  have hDd1 : d1 * 4294967296 ^ (n + 1) ≤ D := by rw [← hD1]; exact Nat.div_mul_le_self _ _
  have hDd0 : (4294967296 * d1 + d0) * 4294967296 ^ n ≤ D := by rw [← hD0]; exact Nat.div_mul_le_self _ _
  refine ⟨hQB, ?_, ?_, ?_⟩
  · rw [← hX0, Nat.le_div_iff_mul_le (pow_pos32 _)]
    refine Nat.le_trans ?_ hQX
    have h := Nat.mul_le_mul_left Q (Nat.mul_le_mul_right (4294967296 ^ lo) hDd0)
    refine Nat.le_trans (Nat.le_of_eq ?_) h
    rw [Nat.pow_add]; ac_rfl
  · rw [Nat.le_div_iff_mul_le (by omega), ← hX1, Nat.le_div_iff_mul_le (pow_pos32 _)]
    refine Nat.le_trans ?_ hQX
    have h := Nat.mul_le_mul_left Q (Nat.mul_le_mul_right (4294967296 ^ lo) hDd1)
    refine Nat.le_trans (Nat.le_of_eq ?_) h
    rw [Nat.pow_add]; ac_rfl
  · have htopd : T < 4294967296 * (d1 + 1) := by
      rw [← hX1, Nat.div_lt_iff_lt_mul (pow_pos32 _)]
      refine Nat.lt_of_lt_of_le hlt ?_
      have h1 : D ≤ (d1 + 1) * 4294967296 ^ (n + 1) := by
        have := Nat.div_add_mod D (4294967296 ^ (n + 1))
        have h3 := Nat.mod_lt D (pow_pos32 (n + 1))
        rw [hD1] at this
        rw [Nat.add_mul, Nat.one_mul, Nat.mul_comm d1]; omega
      refine Nat.le_trans (Nat.mul_le_mul_right _ h1) (Nat.le_of_eq ?_)
      rw [Nat.pow_succ 4294967296 lo, Nat.pow_add 4294967296 lo]
      ac_rfl
    rw [Nat.div_le_iff_le_mul_add_pred (by omega)]; omega
theorem kd_post {D X n lo d1 d0 T x0 g : Nat} (hD0 : D / 4294967296 ^ n = 4294967296 * d1 + d0) (hX0 : X / 4294967296 ^ (lo + n) = 4294967296 * T + x0)
    (hnorm : 2147483648 * 4294967296 ^ (n + 1) ≤ D) (hDP : 0 < D * 4294967296 ^ lo) (hg2 : g ≤ 4294967296) (hg3 : g * (4294967296 * d1 + d0) ≤ 4294967296 * T + x0) :
    g ≤ X / (D * 4294967296 ^ lo) + 1 := by
  rcases Nat.eq_zero_or_pos g with h0 | h0
  · rw [h0]; exact Nat.zero_le _
  have h1 : g * D * 4294967296 ^ lo ≤ X + D * 4294967296 ^ lo := by
    have hDdm := Nat.div_add_mod D (4294967296 ^ n)
    have hdl := Nat.mod_lt D (pow_pos32 n)
    rw [hD0] at hDdm
    have h2 : g * (4294967296 ^ n * (4294967296 * d1 + d0)) * 4294967296 ^ lo ≤ X := by
      have h3 := Nat.mul_le_mul_right (4294967296 ^ (lo + n)) hg3
      rw [← hX0] at h3
      refine Nat.le_trans (Nat.le_of_eq ?_) (Nat.le_trans h3 (Nat.div_mul_le_self _ _))
      rw [Nat.pow_add]
      ac_rfl
    have h4 : g * (D % 4294967296 ^ n) * 4294967296 ^ lo ≤ D * 4294967296 ^ lo := by
      refine Nat.mul_le_mul_right _ ?_
      refine Nat.le_trans (Nat.mul_le_mul hg2 (Nat.le_of_lt hdl)) ?_
      refine Nat.le_trans ?_ hnorm
      rw [Nat.pow_succ, Nat.mul_comm 4294967296]
      exact Nat.le_mul_of_pos_left _ (by decide)
    have h5 : g * D * 4294967296 ^ lo = g * (4294967296 ^ n * (4294967296 * d1 + d0)) * 4294967296 ^ lo + g * (D % 4294967296 ^ n) * 4294967296 ^ lo := by
      rw [← Nat.add_mul, ← Nat.mul_add, hDdm]
    omega
  have h2 : (g - 1) * (D * 4294967296 ^ lo) ≤ X := by
    rw [Nat.mul_assoc] at h1
    have : g * (D * 4294967296 ^ lo) = (g - 1) * (D * 4294967296 ^ lo) + D * 4294967296 ^ lo := by
      conv => lhs; rw [show g = g - 1 + 1 by omega, Nat.add_mul, Nat.one_mul]
    omega
  have h3 : g - 1 ≤ X / (D * 4294967296 ^ lo) := by rw [Nat.le_div_iff_mul_le hDP]; exact h2
  omega
theorem pair32 {x y : Nat} (hx : x < 4294967296) (hy : y < 4294967296) : bitsI BinOp.or IntKind.u64 (shlI IntKind.u64 (IntKind.u64.wrap (x : Int)) 32) (IntKind.u64.wrap (y : Int)) = ((4294967296 * x + y : Nat) : Int) := by
  have e4 : shlI IntKind.u64 (x : Int) 32 = ((4294967296 * x : Nat) : Int) := by
    show IntKind.u64.wrap ((x : Int) * 2 ^ (min (32 : Int).toNat 64)) = _
    rw [show (2 : Int) ^ (min (32 : Int).toNat 64) = 4294967296 from rfl, u64i (by omega) (by omega)]
    omega
  have ho : 4294967296 * x ||| y = 4294967296 * x + y := by
    have := or_add (a := x) (b := y) (i := 32) (by omega)
    rwa [show 2 ^ 32 = 4294967296 from rfl] at this
  rw [u64i (n := (x : Int)) (by omega) (by omega), u64i (n := (y : Int)) (by omega) (by omega), e4, bits_or (by omega) (by omega), ho]
theorem ndm {T d : Nat} : ((T : Nat) : Int).tdiv (d : Int) = ((T / d : Nat) : Int) ∧ ((T : Nat) : Int).tmod (d : Int) = ((T % d : Nat) : Int) := by
  rw [Int.tdiv_eq_ediv_of_nonneg (Int.natCast_nonneg _), Int.tmod_eq_emod_of_nonneg (Int.natCast_nonneg _)]
  exact ⟨(Int.natCast_ediv _ _).symm, (Int.natCast_emod _ _).symm⟩
theorem nstep_tree {den xs h1 : List Int} {lo n d1 x2 x1 g bo : Nat} {r : Int} (hL : den.length = n + 2) (hlen : n ≤ 1000000) (hd1 : den.getD (n + 1) 0 = (d1 : Int)) (hx2 : xs.getD (lo + (n + 2)) 0 = (x2 : Int)) (hx1 : xs.getD (lo + (n + 1)) 0 = (x1 : Int))
    (l1 : d1 < 4294967296) (l0 : 0 < d1) (l2 : x2 < 4294967296) (l3 : x1 < 4294967296) (hq : (4294967296 * x2 + x1) / d1 < 18446744073709551616)
    (hR0 : n_step_L0_r (lo, n + 2 + 1, den, 0, ((n + 2 : Nat) : Int), (d1 : Int), xs) ((((4294967296 * x2 + x1) / d1 : Nat) : Int), (((4294967296 * x2 + x1) % d1 : Nat) : Int)) = some ((g : Int), r))
    (hR1 : n_step_L1_r (lo, n + 2 + 1, den, 0, ((n + 2 : Nat) : Int), (g : Int), ((n + 2 + 1 : Nat) : Int)) (0, 0, 0, xs) = some ((bo : Int), 0, ((n + 2 + 1 : Nat) : Int), h1)) {v : Int × List Int}
    (hv : Tr.Is (.br ((bo : Int) == 0) (.leaf (IntKind.u32.wrap (g : Int), h1))
      (.ast (n_step_L2_ok (lo, n + 2 + 1, den, 0, ((n + 2 : Nat) : Int), (g : Int), false, ((n + 2 + 1 : Nat) : Int)) (0, 0, h1))
        (.leaf (IntKind.u32.wrap (IntKind.u64.wrap ((g : Int) - 1)), (n_step_L2_v (lo, n + 2 + 1, den, 0, ((n + 2 : Nat) : Int), (g : Int), false, ((n + 2 + 1 : Nat) : Int)) (0, 0, h1)).2.2)))) v) :
    n_step_s xs lo (n + 2 + 1) den = true ∧ n_step xs lo (n + 2 + 1) den = v := by
  have e1 : IntKind.i64.wrap (((n + 2 : Nat) : Int) - 1) = ((n + 1 : Nat) : Int) := by rw [w64 (by omega) (by omega)]; omega
  have e2 : IntKind.u64.wrap (d1 : Int) = (d1 : Int) := u64i (by omega) (by omega)
  have e3 := pair32 l2 l3
  have hdl : (den.length : Int) = ((n + 2 : Nat) : Int) := by rw [hL]
  have hdt : ((n + 2 : Nat) : Int).toNat = n + 2 := rfl
  have hdt1 : ((n + 1 : Nat) : Int).toNat = n + 1 := rfl
  have e5 : IntKind.u64.wrap (((4294967296 * x2 + x1) / d1 : Nat) : Int) = (((4294967296 * x2 + x1) / d1 : Nat) : Int) := by
    generalize (4294967296 * x2 + x1) / d1 = k at *
    exact u64i (by omega) (by omega)
  have a1 : (!((d1 : Int) == 0)) = true := by rw [bf (by omega)]; rfl
  have q0 : n_step_L0_ok (lo, n + 2 + 1, den, 0, ((n + 2 : Nat) : Int), (d1 : Int), xs) ((((4294967296 * x2 + x1) / d1 : Nat) : Int), (((4294967296 * x2 + x1) % d1 : Nat) : Int)) = true := by unfold n_step_L0_ok; rw [hR0]; rfl
  have q1 : n_step_L0_v (lo, n + 2 + 1, den, 0, ((n + 2 : Nat) : Int), (d1 : Int), xs) ((((4294967296 * x2 + x1) / d1 : Nat) : Int), (((4294967296 * x2 + x1) % d1 : Nat) : Int)) = ((g : Int), r) := by unfold n_step_L0_v; rw [hR0]; rfl
  have q2 : n_step_L1_ok (lo, n + 2 + 1, den, 0, ((n + 2 : Nat) : Int), (g : Int), ((n + 2 + 1 : Nat) : Int)) (0, 0, 0, xs) = true := by unfold n_step_L1_ok; rw [hR1]; rfl
  have q3 : n_step_L1_v (lo, n + 2 + 1, den, 0, ((n + 2 : Nat) : Int), (g : Int), ((n + 2 + 1 : Nat) : Int)) (0, 0, 0, xs) = ((bo : Int), 0, ((n + 2 + 1 : Nat) : Int), h1) := by unfold n_step_L1_v; rw [hR1]; rfl
  have b0 : decide (((n + 2 : Nat) : Int) < ((n + 2 + 1 : Nat) : Int)) = true := dt (by omega)
  have b1 : (decide ((0 : Int) ≤ ((n + 1 : Nat) : Int)) && decide (((n + 1 : Nat) : Int) < ((n + 2 + 1 : Nat) : Int))) = true := by simp; omega
  have b2 : (decide ((0 : Int) ≤ ((n + 1 : Nat) : Int)) && decide (((n + 1 : Nat) : Int) < ((n + 2 : Nat) : Int))) = true := by simp; omega
  have : Tr.Is (n_step_t xs lo (n + 2 + 1) den) v := by
    unfold n_step_t n_step_T
    simp only [hdl, e1, hdt, hdt1, hd1, hx2, hx1, e2, e3, ndm.1, ndm.2, e5, a1, q0, q1, q2, q3]
    exact Tr.is_ast b0 (Tr.is_ast b1 (Tr.is_ast b2 (Tr.is_ast rfl (Tr.is_ast rfl (Tr.is_ast rfl (Tr.is_ast rfl hv))))))
  exact ⟨this.2, this.1⟩
theorem short_high {l m : List Int} {k : Nat} (hl : Wds l) (hm : Wds m) (h : l.drop k = m.drop k) (hlt : wv m < 4294967296 ^ k) : wv l < 4294967296 ^ k := by
  have e1 := (wv_drop hl k).2
  have e2 := (wv_drop hm k).2
  rw [h, e2, Nat.div_eq_of_lt hlt] at e1
  have := Nat.div_add_mod (wv l) (4294967296 ^ k)
  have h3 := Nat.mod_lt (wv l) (pow_pos32 k)
  rw [← e1] at this
  omega
theorem nstep_spec {den xs : List Int} (hd : Wds den) (hx : Wds xs) {lo L : Nat} (hL : den.length = L) (hL2 : 2 ≤ L) (hlen : L ≤ 1000000) (hlo : lo ≤ 1000000) (hxs : lo + (L + 1) ≤ xs.length)
    (hnorm : 2147483648 * 4294967296 ^ (L - 1) ≤ wv den) (hlt : wv xs < wv den * 4294967296 ^ (lo + 1)) :
    n_step_s xs lo (L + 1) den = true ∧ ∃ (q : Nat) (xs' : List Int), n_step xs lo (L + 1) den = ((q : Int), xs') ∧ q < 4294967296 ∧ xs'.length = xs.length ∧ Wds xs' ∧ wv xs' + q * (wv den * 4294967296 ^ lo) = wv xs ∧ wv xs' < wv den * 4294967296 ^ lo := by
  obtain ⟨n, rfl⟩ : ∃ n, L = n + 2 := ⟨L - 2, by omega⟩
  have hDl : wv den < 4294967296 ^ (n + 2) := by rw [← hL]; exact wv_lt hd
  have dd1 := hd.getD (n + 1)
  have dd0 := hd.getD n
  have dx2 := hx.getD (lo + (n + 2))
  have dx1 := hx.getD (lo + (n + 1))
  have dx0 := hx.getD (lo + n)
  unfold W32 at dd1 dd0 dx2 dx1 dx0
  obtain ⟨d1, hd1⟩ : ∃ u : Nat, den.getD (n + 1) 0 = (u : Int) := ⟨_, (Int.toNat_of_nonneg dd1.1).symm⟩
  obtain ⟨d0, hd0⟩ : ∃ u : Nat, den.getD n 0 = (u : Int) := ⟨_, (Int.toNat_of_nonneg dd0.1).symm⟩
  obtain ⟨x2, hx2⟩ : ∃ u : Nat, xs.getD (lo + (n + 2)) 0 = (u : Int) := ⟨_, (Int.toNat_of_nonneg dx2.1).symm⟩
  obtain ⟨x1, hx1⟩ : ∃ u : Nat, xs.getD (lo + (n + 1)) 0 = (u : Int) := ⟨_, (Int.toNat_of_nonneg dx1.1).symm⟩
  obtain ⟨x0, hx0⟩ : ∃ u : Nat, xs.getD (lo + n) 0 = (u : Int) := ⟨_, (Int.toNat_of_nonneg dx0.1).symm⟩
  have l1 : d1 < 4294967296 := by omega
  have l0 : d0 < 4294967296 := by omega
  have m2 : x2 < 4294967296 := by omega
  have m1 : x1 < 4294967296 := by omega
  have m0 : x0 < 4294967296 := by omega
  clear dd1 dd0 dx2 dx1 dx0
  have tD1 := top_words hd (n + 1)
  have tD0 := top_words hd n
  rw [hd1, Int.toNat_natCast, Nat.div_eq_of_lt hDl] at tD1
  replace tD1 : wv den / 4294967296 ^ (n + 1) = d1 := tD1
  rw [hd0, Int.toNat_natCast, tD1] at tD0
  replace tD0 := tD0.trans (Nat.add_comm _ _)
  have hXl : wv xs < 4294967296 ^ (lo + (n + 2 + 1)) := by
    refine Nat.lt_trans hlt ?_
    have := Nat.mul_lt_mul_of_pos_right hDl (pow_pos32 (lo + 1))
    rwa [← Nat.pow_add, show n + 2 + (lo + 1) = lo + (n + 2 + 1) by omega] at this
  have tX2 := top_words hx (lo + (n + 2))
  have tX1 := top_words hx (lo + (n + 1))
  have tX0 := top_words hx (lo + n)
  rw [hx2, Int.toNat_natCast, show lo + (n + 2) + 1 = lo + (n + 2 + 1) by omega, Nat.div_eq_of_lt hXl] at tX2
  replace tX2 : wv xs / 4294967296 ^ (lo + (n + 2)) = x2 := tX2
  rw [hx1, Int.toNat_natCast, show lo + (n + 1) + 1 = lo + (n + 2) by omega, tX2] at tX1
  replace tX1 := tX1.trans (Nat.add_comm _ _)
  rw [hx0, Int.toNat_natCast, show lo + n + 1 = lo + (n + 1) by omega, tX1] at tX0
  replace tX0 := tX0.trans (Nat.add_comm _ _)
  have hnorm' : 2147483648 * 4294967296 ^ (n + 1) ≤ wv den := hnorm
  have hd1n : 2147483648 ≤ d1 := by
    rw [← tD1, Nat.le_div_iff_mul_le (pow_pos32 _)]; exact hnorm'
  have hDP : 0 < wv den * 4294967296 ^ lo := Nat.mul_pos (Nat.lt_of_lt_of_le (Nat.mul_pos (by decide) (pow_pos32 _)) hnorm') (pow_pos32 lo)
  obtain ⟨hQB, hQ2, hQg, hg0⟩ := kd_pre tD1 tD0 tX1 tX0 hd1n hDP hlt
  have hpost := fun g => kd_post (g := g) tD0 tX0 hnorm' hDP
  have hQX := Nat.div_add_mod (wv xs) (wv den * 4294967296 ^ lo)
  have hQm := Nat.mod_lt (wv xs) hDP
  have hQle : ∀ g, g * (wv den * 4294967296 ^ lo) ≤ wv xs → g ≤ wv xs / (wv den * 4294967296 ^ lo) := fun g h => (Nat.le_div_iff_mul_le hDP).2 h
  generalize hQ : wv xs / (wv den * 4294967296 ^ lo) = Q at *
  have hdm := Nat.div_add_mod (4294967296 * x2 + x1) d1
  have hlm : (4294967296 * x2 + x1) % d1 < d1 := Nat.mod_lt _ (by omega)
  obtain ⟨g, r, hgr, hg1, hg2, hg3⟩ := guess_run (den := den) (xs := xs) (lo := lo) (M := n + 2 + 1) (L := n + 2) (d1 := d1) (d0 := d0) (w := x0) (top := 4294967296 * x2 + x1) (Q := Q) 0 hL (by omega) rfl hlen l1 l0 m0
    hd0 hx0 hQB hQ2 4294967297 ((4294967296 * x2 + x1) / d1) ((4294967296 * x2 + x1) % d1) (by omega) hg0 hQg (by rw [Nat.mul_comm]; exact hdm) (by omega)
  have hgQ := hpost g hg2 hg3
  obtain ⟨bo, h1, hr1, k2, k3, k4, k5, k6⟩ := mulsub_run (den := den) (xs := xs) hd (lo := lo) (L := n + 2) (M := n + 2 + 1) (g := g) 0 hL rfl hlen hg2 hlo hxs (n + 2 + 1) 0 0 0 xs (by omega) rfl hx (by omega) (by omega) (.inl (by omega)) (by simp [wv]) rfl
  have hR0 : n_step_L0_r (lo, n + 2 + 1, den, 0, ((n + 2 : Nat) : Int), (d1 : Int), xs) ((((4294967296 * x2 + x1) / d1 : Nat) : Int), (((4294967296 * x2 + x1) % d1 : Nat) : Int)) = some ((g : Int), (r : Int)) := runB_of hgr (by omega)
  have hR1 : n_step_L1_r (lo, n + 2 + 1, den, 0, ((n + 2 : Nat) : Int), (g : Int), ((n + 2 + 1 : Nat) : Int)) (0, 0, 0, xs) = some ((bo : Int), 0, ((n + 2 + 1 : Nat) : Int), h1) := runB_of hr1 (by omega)
  have fin := fun {v} hv => nstep_tree (h1 := h1) (bo := bo) (v := v) hL (by omega) hd1 hx2 hx1 l1 (by omega) m2 m1 (by omega) hR0 hR1 hv
  clear hpost hR0 hR1 hr1 hgr hdm hlm hg3 hg0 hQ2 hQg tX0 tX1 tX2 tD0 tD1 hnorm hnorm'
  rw [Nat.mul_comm] at hQX
  by_cases hbo0 : bo = 0
  · subst hbo0
    rw [Nat.mul_zero, Nat.add_zero] at k5
    have hgQ' : g = Q := Nat.le_antisymm (hQle g (by omega)) hg1
    obtain ⟨r1, r2⟩ := fin (v := (IntKind.u32.wrap (g : Int), h1)) (Tr.is_br_t (bt rfl) (Tr.is_leaf rfl))
    rw [hgQ'] at k5
    refine ⟨r1, g, h1, by rw [r2, u32i (by omega) (by omega)], by omega, k2, k3, by rw [hgQ']; exact k5, by omega⟩
  · have hbo1 : bo = 1 := by omega
    subst hbo1
    rw [Nat.mul_one] at k5
    have hh1 := short_high k3 hx k6 hXl
    have hgQ' : g = Q + 1 := by
      have : Q < g := by
        refine Nat.lt_of_mul_lt_mul_right (a := wv den * 4294967296 ^ lo) ?_
        omega
      omega
    obtain ⟨s, h2, hr2, j2, j3, j4, j5, j6⟩ := addback_run (den := den) (xs := h1) hd (lo := lo) (L := n + 2) (M := n + 2 + 1) 0 (g : Int) false hL rfl hlen hlo (by rw [k2]; exact hxs) (n + 2 + 1) 0 0 h1 (by omega) rfl k3 (by omega) (by simp [wv]) rfl
    have hh2 := short_high j3 k3 j6 hh1
    have hR2 : n_step_L2_r (lo, n + 2 + 1, den, 0, ((n + 2 : Nat) : Int), (g : Int), false, ((n + 2 + 1 : Nat) : Int)) (0, 0, h1) = some ((s : Int), ((n + 2 + 1 : Nat) : Int), h2) := runB_of hr2 (by omega)
    have q0 : n_step_L2_ok (lo, n + 2 + 1, den, 0, ((n + 2 : Nat) : Int), (g : Int), false, ((n + 2 + 1 : Nat) : Int)) (0, 0, h1) = true := by unfold n_step_L2_ok; rw [hR2]; rfl
    have q1 : n_step_L2_v (lo, n + 2 + 1, den, 0, ((n + 2 : Nat) : Int), (g : Int), false, ((n + 2 + 1 : Nat) : Int)) (0, 0, h1) = ((s : Int), ((n + 2 + 1 : Nat) : Int), h2) := by unfold n_step_L2_v; rw [hR2]; rfl
    obtain ⟨r1, r2⟩ := fin (v := (IntKind.u32.wrap (IntKind.u64.wrap ((g : Int) - 1)), h2)) (Tr.is_br_f (bf (by decide)) (Tr.is_ast q0 (Tr.is_leaf (by rw [q1]))))
    have e7 : IntKind.u32.wrap (IntKind.u64.wrap ((g : Int) - 1)) = (Q : Int) := by
      rw [u64i (by omega) (by omega), u32i (by omega) (by omega)]; omega
    rw [hgQ', Nat.add_mul, Nat.one_mul] at k5
    clear fin hR2 q0 q1
    have hs1 : s = 1 := by
      rcases Nat.eq_zero_or_pos s with h0 | h0
      · subst h0
        rw [Nat.mul_zero, Nat.add_zero] at j5
        omega
      · omega
    subst hs1
    rw [Nat.mul_one] at j5
    refine ⟨r1, Q, h2, by rw [r2, e7], hQB, by rw [j2, k2], j3, by omega, by omega⟩
end Go.Fb
namespace Go.Fb
open Go.Ev
theorem Nz.nil : Nz [] := by intro c x h; cases c <;> cases h
theorem nz_len {l : List Int} (hn : Nz l) (hw : Wds l) {k : Nat} (h : wv l < 4294967296 ^ k) : l.length ≤ k := by
  rcases snoc_cases l with rfl | ⟨a, x, rfl⟩
  · exact Nat.zero_le _
  · have hx := hn a x rfl
    have hxw := hw x (by simp)
    unfold W32 at hxw
    rw [wv_app] at h
    simp only [wv, Nat.mul_zero, Nat.add_zero] at h
    have h1 : 4294967296 ^ a.length < 4294967296 ^ k := by
      refine Nat.lt_of_le_of_lt ?_ h
      refine Nat.le_trans (Nat.le_mul_of_pos_right _ (by omega : 0 < x.toNat)) (Nat.le_add_left _ _)
    have := (Nat.pow_lt_pow_iff_right (by decide : 1 < 4294967296)).1 h1
    simp; omega
theorem NumIs.len {l : List Int} {v n k : Nat} (h : NumIs l v n) (hk : v < 4294967296 ^ k) : NumIs l v k :=
  ⟨h.1, h.2.1, h.2.2.1, nz_len h.2.1 h.1 (by rw [h.2.2.1]; exact hk)⟩
theorem lz32_spec {y : Nat} (hy : y < 4294967296) (h0 : 0 < y) : ∃ s : Nat, bits_LZ32 (y : Int) = (s : Int) ∧ s < 32 ∧ 2147483648 ≤ y * 2 ^ s ∧ y * 2 ^ s < 4294967296 ∧ (y + 1) * 2 ^ s ≤ 4294967296 := by
  obtain ⟨l, hl, ⟨h1, h2⟩, h3⟩ := len32_spec hy
  have hl0 : l ≠ 0 := by rintro rfl; simp at h1; omega
  have hy1 : (y + 1) * 2 ^ (32 - l) ≤ 4294967296 := by
    have := Nat.mul_le_mul_right (2 ^ (32 - l)) (Nat.succ_le_of_lt h1)
    rw [← Nat.pow_add, show l + (32 - l) = 32 by omega] at this
    exact this
  refine ⟨32 - l, ?_, by omega, ?_, ?_, hy1⟩
  · have e : bits_LZ32 (y : Int) = IntKind.i64.wrap (32 - bits_Len32 (y : Int)) := rfl
    rw [e, hl, w64 (by omega) (by omega)]
    omega
  · have h4 : 2 ^ (l - 1) ≤ y := h2.resolve_left hl0
    have := Nat.mul_le_mul_right (2 ^ (32 - l)) h4
    rw [← Nat.pow_add, show l - 1 + (32 - l) = 31 by omega] at this
    exact this
  · have := Nat.two_pow_pos (32 - l)
    rw [Nat.add_mul] at hy1; omega
theorem div_run {den : List Int} (hd : Wds den) {L : Nat} (hL : den.length = L) (hL2 : 2 ≤ L) (hlen : L ≤ 1000000) (hnorm : 2147483648 * 4294967296 ^ (L - 1) ≤ wv den) {K S : Nat} (hK : K ≤ 1000000) (hS : S = K + L) (z1 z2 : Int) (z3 z4 z5 : Bool) (N0 : Nat) :
    ∀ (j Qh : Nat) (num q : List Int), j ≤ K → num.length = S → q.length = K → Wds num → Wds q → wv num < wv den * 4294967296 ^ j → wv q = 4294967296 ^ j * Qh → Qh * (wv den * 4294967296 ^ j) + wv num = N0 →
    ∃ num' q', runL (n_Div_L0_step (z1, z2, z3, z4, z5, den)) (j + 1) ((j : Int) - 1, num, q) = some (-1, num', q') ∧ num'.length = S ∧ q'.length = K ∧ Wds num' ∧ Wds q' ∧ wv num' < wv den ∧ wv q' * wv den + wv num' = N0
  | 0, Qh, num, q, _, hl1, hl2, hw1, hw2, hlt, hq, hN => by
    refine ⟨num, q, runL_out (Tr.is_br_f (df (by first | omega | (dsimp only; omega))) (Tr.is_leaf rfl)), hl1, hl2, hw1, hw2, by simpa using hlt, ?_⟩
    rw [Nat.pow_zero, Nat.one_mul] at hq
    rw [Nat.pow_zero, Nat.mul_one] at hN
    rw [hq, hN]
  | j + 1, Qh, num, q, hj, hl1, hl2, hw1, hw2, hlt, hq, hN => by
    have e0 : ((j + 1 : Nat) : Int) - 1 = (j : Int) := by omega
    have e4 : IntKind.i64.wrap ((j : Int) - 1) = (j : Int) - 1 := w64 (by omega) (by omega)
    have e5 : IntKind.i64.wrap (IntKind.i64.wrap ((j : Int) + (den.length : Int)) + 1) = ((j + (L + 1) : Nat) : Int) := by
      rw [hL, w64 (n := (j : Int) + L) (by omega) (by omega), w64 (by omega) (by omega)]; omega
    obtain ⟨s1, qd, num2, s2, s3, s4, s5, s6, s7⟩ := nstep_spec hd hw1 (lo := j) hL hL2 hlen (by omega) (by omega) hnorm hlt
    have hqz : (q.getD j 0).toNat = 0 := by
      rw [wv_word hw2 j, hq, Nat.pow_succ, Nat.mul_assoc, Nat.mul_div_cancel_left _ (pow_pos32 j), Nat.mul_mod_right]
    have hset := wv_set q j (qd : Int) (by omega)
    rw [hqz, Nat.mul_zero, Nat.add_zero, Int.toNat_natCast, hq] at hset
    obtain ⟨num', q', k1, k2, k3, k4, k5, k6, k7⟩ := div_run hd hL hL2 hlen hnorm hK hS z1 z2 z3 z4 z5 N0 j (4294967296 * Qh + qd) num2 (q.set j (qd : Int)) (by omega) (by omega) (by simpa using hl2) s5 (hw2.set ⟨by omega, by omega⟩) s7
      (by rw [hset, Nat.pow_succ, Nat.mul_add, Nat.mul_assoc])
      (by
        rw [← hN, ← s6, Nat.add_mul, Nat.pow_succ]
        have : 4294967296 * Qh * (wv den * 4294967296 ^ j) = Qh * (wv den * (4294967296 ^ j * 4294967296)) := by
          ac_rfl
        rw [this]; omega)
    refine ⟨num', q', ?_, k2, k3, k4, k5, k6, k7⟩
    rw [e0, ← k1]
    have ew : ((some (IntKind.i64.wrap (IntKind.i64.wrap ((j : Int) + (den.length : Int)) + 1))).getD (num.length : Int)).toNat - ((some (j : Int)).getD 0).toNat = L + 1 := by
      rw [e5]; simp only [Option.getD_some, Int.toNat_natCast]; omega
    have ej : ((some (j : Int)).getD 0).toNat = j := rfl
    refine runL_next (Tr.is_br_t (dt (by first | omega | (dsimp only; omega))) (Tr.is_ast ?_ (Tr.is_ast ?_ (Tr.is_ast ?_ (Tr.is_leaf ?_)))))
    · simp only [e5, Option.getD_some, Bool.and_eq_true, decide_eq_true_eq]; omega
    · simp only []
      rw [ew, ej]; exact s1
    · simp; omega
    · simp only []
      rw [ew, ej, s2, e4]
      rfl
theorem ndiv_spec {a b : List Int} (ha : Wds a) (hb : Wds b) (hla : a.length ≤ 200000) (hlb : b.length ≤ 200000) (h0 : 0 < wv b) :
    n_Div_s a b = true ∧ ∃ q r, n_Div a b = (q, r, 0) ∧ NumIs q (wv a / wv b) a.length ∧ NumIs r (wv a % wv b) b.length := by
  obtain ⟨⟨a1, a2, a3, a4⟩, ta⟩ := numIs_trim (n := a.length) ha (by omega) (by omega)
  obtain ⟨⟨b1, b2, b3, b4⟩, tb⟩ := numIs_trim (n := b.length) hb (by omega) (by omega)
  have hmb : wv a % wv b < 4294967296 ^ b.length := Nat.lt_trans (Nat.mod_lt _ h0) (wv_lt hb)
  have hda : wv a / wv b < 4294967296 ^ a.length := Nat.lt_of_le_of_lt (Nat.div_le_self _ _) (wv_lt ha)
  suffices h : ∃ q r n m, Tr.Is (n_Div_t a b) (q, r, 0) ∧ NumIs q (wv a / wv b) n ∧ NumIs r (wv a % wv b) m by
    obtain ⟨q, r, n, m, h1, h2, h3⟩ := h
    exact ⟨h1.2, q, r, h1.1, h2.len hda, h3.len hmb⟩
  have hbn : (n_trim b).length ≠ 0 := by
    intro h
    rw [List.eq_nil_of_length_eq_zero h] at b3
    simp [wv] at b3; omega
  obtain ⟨c1, c2⟩ := ncmp_spec a1 b1 (by omega) (by omega)
  rw [a3, b3] at c1
  have e1 : (((n_trim b).length : Int) == 0) = false := bf (by omega)
  by_cases hlt : wv a < wv b
  · have ec : decide (n_Cmp (n_trim a) (n_trim b) < 0) = true := by rw [c1]; unfold cmpN; rw [if_pos hlt]; rfl
    refine ⟨[], n_trim a, 0, a.length, Tr.is_ast ta (Tr.is_ast tb (Tr.is_br_f e1 (Tr.is_ast c2 (Tr.is_br_t ec (Tr.is_ast (dt (by first | omega | (dsimp only; omega))) (Tr.is_leaf rfl)))))), ?_, ?_⟩
    · rw [Nat.div_eq_of_lt hlt]
      exact ⟨Wds.nil, Nz.nil, rfl, Nat.zero_le _⟩
    · rw [Nat.mod_eq_of_lt hlt]
      exact ⟨a1, a2, a3, a4⟩
  · have ec : decide (n_Cmp (n_trim a) (n_trim b) < 0) = false := by rw [c1]; unfold cmpN; rw [if_neg hlt]; split <;> rfl
    by_cases hb1 : (n_trim b).length = 1
    · have e2 : (((n_trim b).length : Int) == 1) = true := bt (by omega)
      obtain ⟨y, hy⟩ : ∃ y, n_trim b = [y] := List.length_eq_one_iff.1 hb1
      have hyw := b1 y (by rw [hy]; simp)
      unfold W32 at hyw
      obtain ⟨Y, rfl⟩ : ∃ Y : Nat, y = (Y : Int) := ⟨y.toNat, by omega⟩
      have hYb : wv b = Y := by rw [← b3, hy]; simp [wv]
      obtain ⟨s1, s2, s3⟩ := nshort_spec (a := n_trim a) a1 (by omega) (b := Y) (by omega) (by omega)
      rw [a3] at s2 s3
      have e3 : (n_trim b).getD (Int.toNat 0) 0 = (Y : Int) := by rw [hy]; rfl
      refine ⟨(n_short (n_trim a) (Y : Int)).1, (n_short (n_trim a) (Y : Int)).2, (n_trim a).length, 2, Tr.is_ast ta (Tr.is_ast tb (Tr.is_br_f e1 (Tr.is_ast c2 (Tr.is_br_f ec (Tr.is_br_t e2 (Tr.is_ast (dt (by first | omega | (dsimp only; omega))) (Tr.is_ast (by rw [e3]; exact s1) (Tr.is_leaf (by rw [e3]))))))))), ?_, ?_⟩
      · rw [hYb]; exact s2
      · rw [hYb]; exact s3
    · have e2 : (((n_trim b).length : Int) == 1) = false := bf (by omega)
      generalize hA : n_trim a = A at *
      generalize hB : n_trim b = Bt at *
      rcases snoc_cases Bt with rfl | ⟨bi, y, rfl⟩
      · exact absurd rfl hbn
      have hbl : (bi ++ [y]).length = bi.length + 1 := by simp
      have hy0 : y ≠ 0 := b2 bi y rfl
      have hyw := b1 y (by simp)
      unfold W32 at hyw
      obtain ⟨Y, rfl⟩ : ∃ Y : Nat, y = (Y : Int) := ⟨y.toNat, by omega⟩
      obtain ⟨s, hs, hs32, hs1, hs2, hs3⟩ := lz32_spec (y := Y) (by omega) (by omega)
      have hbv : wv b = wv bi + 4294967296 ^ bi.length * Y := by rw [← b3, wv_app]; simp [wv]
      have hbil := wv_lt b1.left
      have hlen : bi.length + 1 ≤ A.length := by
        have h1 : wv bi + 4294967296 ^ bi.length * Y < 4294967296 ^ A.length := by
          have := wv_lt a1; omega
        have h2 : 4294967296 ^ bi.length < 4294967296 ^ A.length := by
          refine Nat.lt_of_le_of_lt ?_ h1
          exact Nat.le_trans (Nat.le_mul_of_pos_right _ (by omega)) (Nat.le_add_left _ _)
        exact (Nat.pow_lt_pow_iff_right (by decide : 1 < 4294967296)).1 h2
      -- the shifted divisor
      have hpl : 4294967296 ^ (bi.length + 1) = 4294967296 ^ bi.length * 4294967296 := Nat.pow_succ _ _
      have hDlt : wv b * 2 ^ s < 4294967296 ^ (bi.length + 1) := by
        have h1 : wv b < 4294967296 ^ bi.length * (Y + 1) := by rw [hbv, Nat.mul_add, Nat.mul_one]; omega
        have h2 := Nat.mul_lt_mul_of_pos_right h1 (Nat.two_pow_pos s)
        refine Nat.lt_of_lt_of_le h2 ?_
        rw [Nat.mul_assoc, hpl]
        exact Nat.mul_le_mul_left _ hs3
      obtain ⟨d1, d2, d3, d4⟩ := shifted_spec (a := bi ++ [(Y : Int)]) b1 hs32 (S := bi.length + 1) (by omega)
      rw [b3, Nat.mod_eq_of_lt hDlt] at d4
      have hnorm : 2147483648 * 4294967296 ^ (bi.length + 1 - 1) ≤ wv (n_shifted (bi ++ [(Y : Int)]) (s : Int) ((bi.length + 1 : Nat) : Int)) := by
        rw [d4, hbv, Nat.add_sub_cancel, Nat.add_mul]
        have h1 := Nat.mul_le_mul_left (4294967296 ^ bi.length) hs1
        rw [← Nat.mul_assoc] at h1
        rw [Nat.mul_comm 2147483648]; omega
      have h2s : 2 ^ s ≤ 2147483648 := by
        have := Nat.pow_le_pow_right (n := 2) (by decide) (by omega : s ≤ 31)
        exact this
      have hNlt : wv a * 2 ^ s < 4294967296 ^ (A.length + 1) := by
        have h1 := wv_lt a1
        rw [a3] at h1
        have h2 := Nat.mul_lt_mul_of_lt_of_le h1 h2s (by decide)
        refine Nat.lt_of_lt_of_le h2 ?_
        rw [Nat.pow_succ]; exact Nat.mul_le_mul_left _ (by decide)
      obtain ⟨n1, n2, n3, n4⟩ := shifted_spec (a := A) a1 hs32 (S := A.length + 1) (by omega)
      rw [a3, Nat.mod_eq_of_lt hNlt] at n4
      generalize hden : n_shifted (bi ++ [(Y : Int)]) (s : Int) ((bi.length + 1 : Nat) : Int) = den at *
      generalize hnum : n_shifted A (s : Int) ((A.length + 1 : Nat) : Int) = num at *
      obtain ⟨K, hK⟩ : ∃ K, A.length = bi.length + K := ⟨A.length - bi.length, by omega⟩
      have hstart : wv num < wv den * 4294967296 ^ K := by
        have h1 := wv_lt a1
        rw [a3] at h1
        have h2 : wv a * 2 ^ s < 4294967296 ^ A.length * 2147483648 := Nat.mul_lt_mul_of_lt_of_le h1 h2s (by decide)
        rw [n4]
        refine Nat.lt_of_lt_of_le h2 ?_
        have h3 := Nat.mul_le_mul_right (4294967296 ^ K) hnorm
        rw [Nat.add_sub_cancel, Nat.mul_assoc, ← Nat.pow_add, ← hK] at h3
        rw [Nat.mul_comm]; exact h3
      obtain ⟨num', q', k1, k2, k3, k4, k5, k6, k7⟩ := div_run (den := den) d2 d3 (by omega) (by omega) hnorm (K := K) (S := A.length + 1) (by omega) (by omega) 0 (s : Int) false false false (wv a * 2 ^ s) K 0 num (List.replicate K 0) (Nat.le_refl _) n3 (by simp) n2 (Wds.rep _) hstart (by rw [wv_rep]; simp) (by rw [n4]; omega)
      have hr : n_Div_L0_r (0, (s : Int), false, false, false, den) ((K : Int) - 1, num, List.replicate K 0) = some (-1, num', q') := runB_of k1 (by omega)
      have hdm : (wv a * 2 ^ s) / wv den = wv q' ∧ (wv a * 2 ^ s) % wv den = wv num' := by
        rw [← k7]
        have hpos : 0 < wv den := by omega
        constructor
        · rw [Nat.add_comm, Nat.add_mul_div_right _ _ hpos, Nat.div_eq_of_lt k6, Nat.zero_add]
        · rw [Nat.add_comm, Nat.add_mul_mod_self_right, Nat.mod_eq_of_lt k6]
      rw [d4, Nat.mul_div_mul_right _ _ (Nat.two_pow_pos s), Nat.mul_mod_mul_right] at hdm
      obtain ⟨q1, q2⟩ := numIs_trim (n := K) k5 (by omega) (by omega)
      obtain ⟨r1, r2⟩ := nshr_spec (a := num') k4 (by omega) (n := (s : Int)) (N := s) (by unfold imax; split <;> omega) (by omega)
      rw [← hdm.2, Nat.mul_div_cancel _ (Nat.two_pow_pos s)] at r2
      rw [← hdm.1] at q1
      have t2 : IntKind.i64.wrap (((bi ++ [(Y : Int)]).length : Int) - 1) = (bi.length : Int) := by rw [hbl, w64 (by omega) (by omega)]; omega
      have t3 : IntKind.i64.wrap ((A.length : Int) + 1) = ((A.length + 1 : Nat) : Int) := wnext (by omega)
      have t4 : bits_LZ32 ((bi ++ [(Y : Int)]).getD ((bi.length : Int)).toNat 0) = (s : Int) := by
        rw [Int.toNat_natCast]
        have : (bi ++ [(Y : Int)]).getD bi.length 0 = (Y : Int) := by simp
        rw [this, hs]
      have t5 : IntKind.i64.wrap (IntKind.i64.wrap ((A.length : Int) - ((bi ++ [(Y : Int)]).length : Int)) + 1) = (K : Int) := by
        rw [hbl, w64 (n := (A.length : Int) - _) (by omega) (by omega), w64 (by omega) (by omega)]; omega
      have t6 : (List.replicate (K : Int).toNat (0 : Int)) = List.replicate K 0 := by simp
      have t9 : IntKind.i64.wrap (((List.replicate K (0 : Int)).length : Int) - 1) = (K : Int) - 1 := by
        rw [List.length_replicate, w64 (by omega) (by omega)]
      have t10 : ((bi ++ [(Y : Int)]).length : Int) = ((bi.length + 1 : Nat) : Int) := by rw [hbl]
      refine ⟨n_trim q', n_Shr num' (s : Int), K, num'.length, ?_, q1, r2⟩
      unfold n_Div_t n_Div_T
      simp only [hA, hB, t2, t3, t4, t5, t6, t9]
      simp only [t10, hden, hnum]
      have o1 : n_Div_L0_ok (0, (s : Int), false, false, false, den) ((K : Int) - 1, num, List.replicate K 0) = true := by unfold n_Div_L0_ok; rw [hr]; rfl
      have o2 : n_Div_L0_v (0, (s : Int), false, false, false, den) ((K : Int) - 1, num, List.replicate K 0) = (-1, num', q') := by unfold n_Div_L0_v; rw [hr]; rfl
      simp only [o1, o2]
      rw [t10] at e1 e2
      exact Tr.is_ast ta (Tr.is_ast tb (Tr.is_br_f e1 (Tr.is_ast c2 (Tr.is_br_f ec (Tr.is_br_f e2 (Tr.is_ast (by simp; omega) (Tr.is_ast n1 (Tr.is_ast d1 (Tr.is_ast (by simp; omega) (Tr.is_ast rfl (Tr.is_ast q2 (Tr.is_ast r1 (Tr.is_leaf rfl)))))))))))))
end Go.Fb
namespace Go.Fb
open Go.Ev
theorem gcd_step (a b : Nat) : Nat.gcd a b = Nat.gcd b (a % b) := by
  rw [Nat.gcd_comm a b, Nat.gcd_rec b a, Nat.gcd_comm]
theorem mod_half {b r : Nat} (hr : 0 < r) (hrb : r < b) : 2 * (b % r) < b := by
  have h1 := Nat.div_add_mod b r
  have h2 : 1 ≤ b / r := (Nat.le_div_iff_mul_le hr).2 (by omega)
  have h3 := Nat.mod_lt b hr
  have h4 : r * 1 ≤ r * (b / r) := Nat.mul_le_mul_left _ h2
  omega
theorem len_nz {l : List Int} {v n : Nat} (h : NumIs l v n) : decide ((l.length : Int) > 0) = decide (0 < v) := by
  obtain ⟨h1, h2, h3, _⟩ := h
  cases l with
  | nil => simp [wv] at h3; subst h3; rfl
  | cons x l =>
    have : 0 < v := by
      rcases Nat.eq_zero_or_pos v with h0 | h0
      · subst h0
        have := wv_inj h1 Wds.nil h2 Nz.nil (by rw [h3]; rfl)
        cases this
      · exact h0
    rw [dt this, dt (by simp)]
theorem ngcd_round {a b : List Int} {x y n : Nat} (ha : NumIs a x n) (hb : NumIs b y n) (hn : n ≤ 200000) (h0 : 0 < y) :
    ∃ r, Tr.Is (n_Gcd_L0_step () (a, b)) (.inl (b, r)) ∧ NumIs r (x % y) n := by
  have e := len_nz hb
  obtain ⟨a1, a2, rfl, a4⟩ := ha
  obtain ⟨b1, b2, rfl, b4⟩ := hb
  obtain ⟨s, q, r, h1, h2, h3⟩ := ndiv_spec a1 b1 (by omega) (by omega) h0
  rw [dt h0] at e
  refine ⟨r, Tr.is_br_t e (Tr.is_ast s (Tr.is_leaf ?_)), h3.1, h3.2.1, h3.2.2.1, Nat.le_trans h3.2.2.2 b4⟩
  simp only [h1]
theorem ngcd_end {a b : List Int} {n : Nat} (hb : NumIs b 0 n) : Tr.Is (n_Gcd_L0_step () (a, b)) (.inr (a, b)) :=
  Tr.is_br_f (by rw [len_nz hb]; rfl) (Tr.is_leaf rfl)
theorem ngcd_run {n : Nat} (hn : n ≤ 200000) : ∀ (k : Nat) (a b : List Int) (x y : Nat), NumIs a x n → NumIs b y n → y < 2 ^ k →
    ∃ g b', runL (n_Gcd_L0_step ()) (2 * k + 1) (a, b) = some (g, b') ∧ NumIs g (Nat.gcd x y) n
  | 0, a, b, x, y, ha, hb, hy => by
    have : y = 0 := by simpa using hy
    subst this
    exact ⟨a, b, runL_out (ngcd_end hb), by rw [Nat.gcd_zero_right]; exact ha⟩
  | k + 1, a, b, x, y, ha, hb, hy => by
    rcases Nat.eq_zero_or_pos y with h0 | h0
    · subst h0
      exact ⟨a, b, runL_more (runL_out (n := 0) (ngcd_end hb)) _ (by omega), by rw [Nat.gcd_zero_right]; exact ha⟩
    · obtain ⟨r, h1, h2⟩ := ngcd_round ha hb hn h0
      have hr := Nat.mod_lt x h0
      rw [gcd_step]
      generalize x % y = z at *
      rcases Nat.eq_zero_or_pos z with hz | hz
      · subst hz
        refine ⟨b, r, ?_, by rw [Nat.gcd_zero_right]; exact hb⟩
        show runL _ (2 * (k + 1) + 1) _ = _
        rw [runL_next h1]
        exact runL_more (runL_out (n := 0) (ngcd_end h2)) _ (by omega)
      · obtain ⟨s, h3, h4⟩ := ngcd_round hb h2 hn hz
        have hh := mod_half hz hr
        obtain ⟨g, b', h5, h6⟩ := ngcd_run hn k r s z (y % z) h2 h4 (by rw [Nat.pow_succ] at hy; omega)
        refine ⟨g, b', ?_, by rw [gcd_step y z]; exact h6⟩
        show runL _ (2 * k + 1 + 1 + 1) _ = _
        rw [runL_next h1, runL_next h3, h5]
theorem ngcd_spec {a b : List Int} (ha : Wds a) (hb : Wds b) {n : Nat} (hla : a.length ≤ n) (hlb : b.length ≤ n) (hn : n ≤ 200000) : n_Gcd_s a b = true ∧ NumIs (n_Gcd a b) (Nat.gcd (wv a) (wv b)) n := by
  obtain ⟨⟨a1, a2, a3, a4⟩, ta⟩ := numIs_trim (n := n) ha hla (by omega)
  obtain ⟨⟨b1, b2, b3, b4⟩, tb⟩ := numIs_trim (n := n) hb hlb (by omega)
  have hlt : wv b < 2 ^ (32 * n) := by
    have h1 := wv_lt hb
    have h2 : 4294967296 ^ b.length ≤ 4294967296 ^ n := Nat.pow_le_pow_right (by decide) hlb
    rw [Nat.pow_mul]
    exact Nat.lt_of_lt_of_le h1 h2
  obtain ⟨g, b', h1, h2⟩ := ngcd_run hn (32 * n) (n_trim a) (n_trim b) (wv a) (wv b) ⟨a1, a2, a3, a4⟩ ⟨b1, b2, b3, b4⟩ hlt
  have hr : n_Gcd_L0_r () (n_trim a, n_trim b) = some (g, b') := runB_of h1 (by omega)
  have : Tr.Is (n_Gcd_t a b) g := by
    refine Tr.is_ast ta (Tr.is_ast (dt (by first | omega | (dsimp only; omega))) (Tr.is_ast tb (Tr.is_ast (dt (by first | omega | (dsimp only; omega))) (Tr.is_ast ?_ (Tr.is_leaf ?_)))))
    · show n_Gcd_L0_ok () (n_trim a, n_trim b) = true
      unfold n_Gcd_L0_ok; rw [hr]; rfl
    · show (n_Gcd_L0_v () (n_trim a, n_trim b)).1 = g
      unfold n_Gcd_L0_v; rw [hr]; rfl
  refine ⟨this.2, ?_⟩
  have e : n_Gcd a b = g := this.1
  rw [e]; exact h2
end Go.Fb
