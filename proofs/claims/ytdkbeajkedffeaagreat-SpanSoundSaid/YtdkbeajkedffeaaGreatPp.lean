/- Layer 4: plain laws of what the functions compute. Conditions: as each theorem states. -/
import Derived.Test.YtdkbeajkedffeaaGreatRq
import Derived.Test.YtdkbeajkedffeaaGreatPd
namespace Go.Fb
open Go.Ev
def flN (s : Bool) (k : Nat) : Nat := if s then 9223372036854775808 + k else k
def fl (s : Bool) (k : Nat) : Int := (flN s k : Int)
theorem fl_lt {s : Bool} {k : Nat} (h : k < 9223372036854775808) : flN s k < 18446744073709551616 := by unfold flN; split <;> omega
theorem fl_wd {s : Bool} {k : Nat} (h : k < 9223372036854775808) : Wd (fl s k) := by have := fl_lt (s := s) h; unfold Wd fl; omega
theorem fl_of {f : Int} (h : Wd f) : ∃ s k, k < 9223372036854775808 ∧ f = fl s k := by
  unfold Wd at h
  by_cases hs : 9223372036854775808 ≤ f
  · exact ⟨true, (f - 9223372036854775808).toNat, by omega, by unfold fl flN; simp; omega⟩
  · exact ⟨false, f.toNat, by omega, by unfold fl flN; simp; omega⟩
theorem fl_inj {s t : Bool} {k j : Nat} (hk : k < 9223372036854775808) (hj : j < 9223372036854775808) (h : fl s k = fl t j) : s = t ∧ k = j := by
  unfold fl flN at h
  cases s <;> cases t <;> simp at h <;> first | exact ⟨rfl, by omega⟩ | omega
theorem fl_eq {s t : Bool} {k j : Nat} (hk : k < 9223372036854775808) (hj : j < 9223372036854775808) : (fl s k == fl t j) = (decide (s = t) && decide (k = j)) := by
  by_cases h : fl s k = fl t j
  · obtain ⟨rfl, rfl⟩ := fl_inj hk hj h
    simp
  · rw [bf h]
    by_cases h1 : s = t
    · by_cases h2 : k = j
      · exact absurd (by rw [h1, h2]) h
      · simp [h2]
    · simp [h1]
theorem xor_top {k : Nat} (h : k < 18446744073709551616) : k ^^^ 9223372036854775808 = if 9223372036854775808 ≤ k then k - 9223372036854775808 else k + 9223372036854775808 := by
  apply Nat.eq_of_testBit_eq
  intro i
  have e2 : Nat.testBit 9223372036854775808 i = decide (63 = i) := by
    rw [show (9223372036854775808 : Nat) = 2 ^ 63 from rfl, Nat.testBit_two_pow]
  rw [Nat.testBit_xor, e2]
  have key : ∀ m : Nat, (9223372036854775808 + m).testBit i = if i = 63 then !m.testBit 63 else if i < 63 then m.testBit i else (9223372036854775808 + m).testBit i := by
    intro m
    by_cases h1 : i = 63
    · subst h1; rw [if_pos rfl]; exact Nat.testBit_two_pow_add_eq m 63
    · rw [if_neg h1]
      by_cases h2 : i < 63
      · rw [if_pos h2]; exact Nat.testBit_two_pow_add_gt h2 m
      · rw [if_neg h2]
  have hi : ∀ m : Nat, m < 18446744073709551616 → 63 < i → m.testBit i = false := fun m hm h => Nat.testBit_lt_two_pow (Nat.lt_of_lt_of_le hm (Nat.pow_le_pow_right (n := 2) (by decide) (by omega : 64 ≤ i)))
  have lo : ∀ m : Nat, m < 9223372036854775808 → m.testBit 63 = false := fun m hm => Nat.testBit_lt_two_pow hm
  have dn : i ≠ 63 → decide (63 = i) = false := fun h => decide_eq_false (by omega)
  split
  · rename_i hk
    obtain ⟨m, rfl⟩ : ∃ m, k = 9223372036854775808 + m := ⟨k - 9223372036854775808, by omega⟩
    rw [Nat.add_sub_cancel_left]
    by_cases h1 : i = 63
    · rw [key m, if_pos h1, h1, lo m (by omega)]; rfl
    · rw [dn h1, Bool.xor_false, key m, if_neg h1]
      by_cases h2 : i < 63
      · rw [if_pos h2]
      · rw [if_neg h2, hi (9223372036854775808 + m) h (by omega), hi m (by omega) (by omega)]
  · rename_i hk
    rw [Nat.add_comm]
    by_cases h1 : i = 63
    · rw [key k, if_pos h1, h1, lo k (by omega)]; rfl
    · rw [dn h1, Bool.xor_false, key k, if_neg h1]
      by_cases h2 : i < 63
      · rw [if_pos h2]
      · rw [if_neg h2, hi (9223372036854775808 + k) (by omega) (by omega), hi k h (by omega)]
theorem bits_xor {x y : Nat} (hx : x < 18446744073709551616) (hy : y < 18446744073709551616) : bitsI .xor .u64 (x : Int) (y : Int) = ((x ^^^ y : Nat) : Int) := by
  unfold bitsI
  have e1 : ∀ z : Nat, z < 18446744073709551616 → (BitVec.ofInt IntKind.u64.bits (z : Int)).toNat = z := by
    intro z hz
    rw [BitVec.toNat_ofInt]
    show ((z : Int) % ((2 ^ 64 : Nat) : Int)).toNat = z
    rw [show (2 ^ 64 : Nat) = 18446744073709551616 from rfl]; omega
  simp only [BitVec.toNat_xor, e1 x hx, e1 y hy]
  have : x ^^^ y < 2 ^ 64 := Nat.xor_lt_two_pow (by rw [show 2 ^ 64 = 18446744073709551616 from rfl]; exact hx) (by rw [show 2 ^ 64 = 18446744073709551616 from rfl]; exact hy)
  rw [show 2 ^ 64 = 18446744073709551616 from rfl] at this
  exact u64i (by omega) (by omega)
theorem bits_andNot63 {x : Nat} (hx : x < 18446744073709551616) : bitsI .andNot .u64 (x : Int) 9223372036854775808 = ((x % 9223372036854775808 : Nat) : Int) := by
  unfold bitsI
  have e1 : (BitVec.ofInt IntKind.u64.bits (x : Int)).toNat = x := by
    rw [BitVec.toNat_ofInt]
    show ((x : Int) % ((2 ^ 64 : Nat) : Int)).toNat = x
    rw [show (2 ^ 64 : Nat) = 18446744073709551616 from rfl]; omega
  have e2 : (~~~(BitVec.ofInt IntKind.u64.bits (9223372036854775808 : Int))).toNat = 2 ^ 63 - 1 := by decide
  simp only [BitVec.toNat_and, e1, e2, Nat.and_two_pow_sub_one_eq_mod]
  rw [show 2 ^ 63 = 9223372036854775808 from rfl]
  exact u64i (by omega) (by omega)
theorem and_frac {x : Nat} (hx : x < 18446744073709551616) : bitsI .and .u64 (x : Int) 4503599627370495 = ((x % 4503599627370496 : Nat) : Int) := by
  rw [show (4503599627370495 : Int) = ((4503599627370495 : Nat) : Int) from rfl, bits_and hx (by omega), show 4503599627370495 = 2 ^ 52 - 1 from rfl, Nat.and_two_pow_sub_one_eq_mod]
theorem and_exp {x : Nat} (hx : x < 18446744073709551616) : bitsI .and .u64 (x : Int) 2047 = ((x % 2048 : Nat) : Int) := by
  rw [show (2047 : Int) = ((2047 : Nat) : Int) from rfl, bits_and hx (by omega), show 2047 = 2 ^ 11 - 1 from rfl, Nat.and_two_pow_sub_one_eq_mod]
theorem shr_sign {s : Bool} {k : Nat} (h : k < 9223372036854775808) : (shrI .u64 (fl s k) 63 == 1) = s := by
  unfold fl
  rw [show (63 : Int) = ((63 : Nat) : Int) from rfl, shr_nat _ 63 (by omega), show 2 ^ 63 = 9223372036854775808 from rfl]
  cases s
  · exact bf (by unfold flN; simp; omega)
  · exact bt (by unfold flN; simp; omega)
def cls (k : Nat) : Int := if k = 9218868437227405312 then 3 else if 9218868437227405312 < k then 4 else if k = 0 then 0 else if k < 4503599627370496 then 1 else 2
def mant (k : Nat) : Nat := if k < 4503599627370496 then k else if k < 9218868437227405312 then 4503599627370496 + k % 4503599627370496 else 0
def expo (k : Nat) : Int := if k = 0 then 0 else if k < 4503599627370496 then -1074 else if k < 9218868437227405312 then ((k / 4503599627370496 : Nat) : Int) - 1075 else 0
theorem parts_spec {s : Bool} {k : Nat} (h : k < 9223372036854775808) : p_Parts (fl s k) = (s, ((k / 4503599627370496 : Nat) : Int), ((k % 4503599627370496 : Nat) : Int)) := by
  have hf := fl_lt (s := s) h
  have e : p_Parts (fl s k) = (shrI IntKind.u64 (fl s k) 63 == 1, IntKind.i64.wrap (bitsI BinOp.and IntKind.u64 (shrI IntKind.u64 (fl s k) 52) 2047), bitsI BinOp.and IntKind.u64 (fl s k) 4503599627370495) := rfl
  rw [e, shr_sign h]
  unfold fl
  rw [and_frac hf, show (52 : Int) = ((52 : Nat) : Int) from rfl, shr_nat _ 52 (by omega), show 2 ^ 52 = 4503599627370496 from rfl, and_exp (by omega)]
  rw [w64 (by omega) (by omega)]
  have e1 : flN s k / 4503599627370496 % 2048 = k / 4503599627370496 := by unfold flN; split <;> omega
  have e2 : flN s k % 4503599627370496 = k % 4503599627370496 := by unfold flN; split <;> omega
  rw [e1, e2]
theorem rparts_spec {s : Bool} {k : Nat} (h : k < 9223372036854775808) : r4_Parts (fl s k) = (s, ((k / 4503599627370496 : Nat) : Int), ((k % 4503599627370496 : Nat) : Int)) := by
  have hf := fl_lt (s := s) h
  have e : r4_Parts (fl s k) = (IntKind.u64.wrap ((fl s k).tdiv 9223372036854775808) == 1, IntKind.i64.wrap ((IntKind.u64.wrap ((fl s k).tdiv 4503599627370496)).tmod 2048), (fl s k).tmod 4503599627370496) := rfl
  have d1 := (ndm (T := flN s k) (d := 9223372036854775808)).1
  have d2 := (ndm (T := flN s k) (d := 4503599627370496)).1
  have d3 := (ndm (T := flN s k) (d := 4503599627370496)).2
  have d4 := (ndm (T := flN s k / 4503599627370496) (d := 2048)).2
  rw [e]
  unfold fl
  rw [show (9223372036854775808 : Int) = ((9223372036854775808 : Nat) : Int) from rfl, show (4503599627370496 : Int) = ((4503599627370496 : Nat) : Int) from rfl, show (2048 : Int) = ((2048 : Nat) : Int) from rfl, d1, d2, d3]
  rw [u64i (n := ((flN s k / 9223372036854775808 : Nat) : Int)) (by omega) (by omega), u64i (n := ((flN s k / 4503599627370496 : Nat) : Int)) (by omega) (by omega), d4, w64 (by omega) (by omega)]
  have e0 : (((flN s k / 9223372036854775808 : Nat) : Int) == 1) = s := by
    cases s
    · exact bf (by unfold flN; simp; omega)
    · exact bt (by unfold flN; simp; omega)
  have e1 : flN s k / 4503599627370496 % 2048 = k / 4503599627370496 := by unfold flN; split <;> omega
  have e2 : flN s k % 4503599627370496 = k % 4503599627370496 := by unfold flN; split <;> omega
  rw [e0, e1, e2]
theorem cls_tree {k : Nat} (h : k < 9223372036854775808) : Tr.Is (.br ((((k / 4503599627370496 : Nat) : Int)) == 2047)
    (.br ((((k % 4503599627370496 : Nat) : Int)) == 0) (.leaf 3) (.br ((((k / 4503599627370496 : Nat) : Int)) == 2047) (.leaf 4)
        (.br ((((k / 4503599627370496 : Nat) : Int)) == 0) (.br ((((k % 4503599627370496 : Nat) : Int)) == 0) (.leaf 0) (.br ((((k / 4503599627370496 : Nat) : Int)) == 0) (.leaf 1) (.leaf 2))) (.br ((((k / 4503599627370496 : Nat) : Int)) == 0) (.leaf 1) (.leaf 2)))))
    (.br ((((k / 4503599627370496 : Nat) : Int)) == 2047) (.leaf 4)
      (.br ((((k / 4503599627370496 : Nat) : Int)) == 0) (.br ((((k % 4503599627370496 : Nat) : Int)) == 0) (.leaf 0) (.br ((((k / 4503599627370496 : Nat) : Int)) == 0) (.leaf 1) (.leaf 2))) (.br ((((k / 4503599627370496 : Nat) : Int)) == 0) (.leaf 1) (.leaf 2))))) (cls k) := by
  unfold cls
  by_cases h1 : k / 4503599627370496 = 2047
  · refine Tr.is_br_t (bt (by omega)) ?_
    by_cases h2 : k % 4503599627370496 = 0
    · rw [if_pos (by omega)]; exact Tr.is_br_t (bt (by omega)) (Tr.is_leaf rfl)
    · rw [if_neg (by omega), if_pos (by omega)]; exact Tr.is_br_f (bf (by omega)) (Tr.is_br_t (bt (by omega)) (Tr.is_leaf rfl))
  · refine Tr.is_br_f (bf (by omega)) (Tr.is_br_f (bf (by omega)) ?_)
    rw [if_neg (by omega), if_neg (by omega)]
    by_cases h3 : k / 4503599627370496 = 0
    · refine Tr.is_br_t (bt (by omega)) ?_
      by_cases h2 : k % 4503599627370496 = 0
      · rw [if_pos (by omega)]; exact Tr.is_br_t (bt (by omega)) (Tr.is_leaf rfl)
      · rw [if_neg (by omega), if_pos (by omega)]; exact Tr.is_br_f (bf (by omega)) (Tr.is_br_t (bt (by omega)) (Tr.is_leaf rfl))
    · rw [if_neg (by omega), if_neg (by omega)]
      exact Tr.is_br_f (bf (by omega)) (Tr.is_br_f (bf (by omega)) (Tr.is_leaf rfl))
theorem class_spec {s : Bool} {k : Nat} (h : k < 9223372036854775808) : p_Class (fl s k) = cls k := by
  have : Tr.Is (p_Class_t (fl s k)) (cls k) := by
    unfold p_Class_t p_Class_T
    simp only [parts_spec h]
    exact cls_tree h
  exact this.1
theorem rclass_spec {s : Bool} {k : Nat} (h : k < 9223372036854775808) : r4_Class (fl s k) = cls k := by
  have : Tr.Is (r4_Class_t (fl s k)) (cls k) := by
    unfold r4_Class_t r4_Class_T
    simp only [rparts_spec h]
    exact cls_tree h
  exact this.1
theorem cls_cases (k : Nat) : (cls k = 3 ∧ k = 9218868437227405312) ∨ (cls k = 4 ∧ 9218868437227405312 < k) ∨ (cls k = 0 ∧ k = 0) ∨ (cls k = 1 ∧ 0 < k ∧ k < 4503599627370496) ∨ (cls k = 2 ∧ 4503599627370496 ≤ k ∧ k < 9218868437227405312) := by
  unfold cls
  split
  · exact .inl ⟨rfl, by assumption⟩
  · split
    · exact .inr (.inl ⟨rfl, by assumption⟩)
    · split
      · exact .inr (.inr (.inl ⟨rfl, by assumption⟩))
      · split
        · exact .inr (.inr (.inr (.inl ⟨rfl, by omega, by assumption⟩)))
        · exact .inr (.inr (.inr (.inr ⟨rfl, by omega, by omega⟩)))
theorem or_hidden {m : Nat} (h : m < 4503599627370496) : bitsI .or .u64 4503599627370496 (m : Int) = ((4503599627370496 + m : Nat) : Int) := by
  rw [show (4503599627370496 : Int) = ((4503599627370496 : Nat) : Int) from rfl, bits_or (by omega) (by omega)]
  have := or_add (a := 1) (b := m) (i := 52) (by rw [show 2 ^ 52 = 4503599627370496 from rfl]; exact h)
  rw [show 2 ^ 52 = 4503599627370496 from rfl, Nat.mul_one] at this
  rw [this]
theorem split_spec {s : Bool} {k : Nat} (h : k < 9223372036854775808) : p_Split (fl s k) = ((mant k : Int), expo k) := by
  have : Tr.Is (p_Split_t (fl s k)) ((mant k : Int), expo k) := by
    unfold p_Split_t p_Split_T
    simp only [parts_spec h, class_spec h]
    unfold mant expo
    rcases cls_cases k with ⟨e, c⟩ | ⟨e, c⟩ | ⟨e, c⟩ | ⟨e, c⟩ | ⟨e, c⟩ <;> rw [e]
    · rw [if_neg (by omega), if_neg (by omega), if_neg (by omega), if_neg (by omega), if_neg (by omega)]
      exact Tr.is_br_f rfl (Tr.is_br_f rfl (Tr.is_leaf rfl))
    · rw [if_neg (by omega), if_neg (by omega), if_neg (by omega), if_neg (by omega), if_neg (by omega)]
      exact Tr.is_br_f rfl (Tr.is_br_f rfl (Tr.is_leaf rfl))
    · subst c; exact Tr.is_br_f rfl (Tr.is_br_f rfl (Tr.is_leaf rfl))
    · rw [if_pos c.2, if_neg (by omega), if_pos c.2]
      refine Tr.is_br_f rfl (Tr.is_br_t rfl (Tr.is_leaf ?_))
      rw [Nat.mod_eq_of_lt c.2]
    · rw [if_neg (by omega), if_pos c.2, if_neg (by omega), if_neg (by omega), if_pos c.2]
      refine Tr.is_br_t rfl (Tr.is_leaf ?_)
      rw [or_hidden (Nat.mod_lt _ (by decide)), w64 (by omega) (by omega)]
  exact this.1
theorem make_spec {s : Bool} {e m : Nat} (he : e < 2048) (hm : m < 4503599627370496) : p_Make s (e : Int) (m : Int) = (fl s (4503599627370496 * e + m), 0) := by
  have e1 : shlI IntKind.u64 (IntKind.u64.wrap (e : Int)) 52 = ((4503599627370496 * e : Nat) : Int) := by
    rw [u64i (n := (e : Int)) (by omega) (by omega), show (52 : Int) = ((52 : Nat) : Int) from rfl, shl_nat _ 52 (by omega), show 2 ^ 52 = 4503599627370496 from rfl, Nat.mod_eq_of_lt (by omega), Nat.mul_comm]
  have e2 : bitsI BinOp.or IntKind.u64 ((4503599627370496 * e : Nat) : Int) (m : Int) = ((4503599627370496 * e + m : Nat) : Int) := by
    rw [bits_or (by omega) (by omega)]
    have := or_add (a := e) (b := m) (i := 52) (by rw [show 2 ^ 52 = 4503599627370496 from rfl]; exact hm)
    rw [show 2 ^ 52 = 4503599627370496 from rfl] at this
    rw [this]
  have : Tr.Is (p_Make_t s (e : Int) (m : Int)) (fl s (4503599627370496 * e + m), 0) := by
    unfold p_Make_t p_Make_T
    simp only [e1, e2]
    refine Tr.is_br_f (df (by omega)) (Tr.is_br_f (df (by omega)) (Tr.is_br_f (df (by omega)) ?_))
    cases s with
    | false => exact Tr.is_br_f rfl (Tr.is_leaf rfl)
    | true =>
      refine Tr.is_br_t rfl (Tr.is_leaf ?_)
      rw [show (9223372036854775808 : Int) = ((9223372036854775808 : Nat) : Int) from rfl, bits_or (by omega) (by omega)]
      have := or_add (a := 1) (b := 4503599627370496 * e + m) (i := 63) (by rw [show 2 ^ 63 = 9223372036854775808 from rfl]; omega)
      rw [show 2 ^ 63 = 9223372036854775808 from rfl, Nat.mul_one] at this
      rw [Nat.or_comm, this]; rfl
  exact this.1
theorem rmake_spec {s : Bool} {e m : Nat} (he : e < 2048) (hm : m < 4503599627370496) : r4_Make s (e : Int) (m : Int) = fl s (4503599627370496 * e + m) := by
  have e1 : IntKind.u64.wrap (IntKind.u64.wrap (IntKind.u64.wrap (e : Int) * 4503599627370496) + (m : Int)) = ((4503599627370496 * e + m : Nat) : Int) := by
    rw [u64i (n := (e : Int)) (by omega) (by omega), u64i (n := (e : Int) * 4503599627370496) (by omega) (by omega), u64i (by omega) (by omega)]; omega
  have : Tr.Is (r4_Make_t s (e : Int) (m : Int)) (fl s (4503599627370496 * e + m)) := by
    unfold r4_Make_t r4_Make_T
    simp only [e1]
    cases s with
    | false => exact Tr.is_br_f rfl (Tr.is_leaf rfl)
    | true =>
      refine Tr.is_br_t rfl (Tr.is_leaf ?_)
      rw [u64i (by omega) (by omega)]
      unfold fl flN; simp; omega
  exact this.1
end Go.Fb
namespace Go.Fb
open Go.Ev
def ky (s : Bool) (k : Nat) : Int := if s then -(k : Int) else k
theorem key_spec {s : Bool} {k : Nat} (h : k < 9223372036854775808) : p_key (fl s k) = ky s k := by
  have hf := fl_lt (s := s) h
  have ea : bitsI BinOp.andNot IntKind.u64 (fl s k) 9223372036854775808 = (k : Int) := by
    unfold fl
    rw [bits_andNot63 hf]
    have : flN s k % 9223372036854775808 = k := by unfold flN; split <;> omega
    rw [this]
  have : Tr.Is (p_key_t (fl s k)) (ky s k) := by
    unfold p_key_t p_key_T
    simp only [shr_sign h, ea]
    cases s with
    | false => exact Tr.is_br_f rfl (Tr.is_leaf (w64 (by omega) (by omega)))
    | true =>
      refine Tr.is_br_t rfl (Tr.is_leaf ?_)
      rw [w64 (n := (k : Int)) (by omega) (by omega), w64 (by omega) (by omega)]
      show 0 - (k : Int) = -(k : Int); omega
  exact this.1
theorem rkey_spec {s : Bool} {k : Nat} (h : k < 9223372036854775808) : r4_Key (fl s k) = ky s k := by
  have ea : IntKind.i64.wrap (IntKind.i64.wrap (((k / 4503599627370496 : Nat) : Int) * 4503599627370496) + IntKind.i64.wrap ((k % 4503599627370496 : Nat) : Int)) = (k : Int) := by
    rw [w64 (n := ((k / 4503599627370496 : Nat) : Int) * 4503599627370496) (by omega) (by omega), w64 (n := ((k % 4503599627370496 : Nat) : Int)) (by omega) (by omega), w64 (by omega) (by omega)]
    omega
  have : Tr.Is (r4_Key_t (fl s k)) (ky s k) := by
    unfold r4_Key_t r4_Key_T
    simp only [rparts_spec h, ea]
    cases s with
    | false => exact Tr.is_br_f rfl (Tr.is_leaf rfl)
    | true =>
      refine Tr.is_br_t rfl (Tr.is_leaf ?_)
      rw [w64 (by omega) (by omega)]
      show 0 - (k : Int) = -(k : Int); omega
  exact this.1
theorem cls4 (k : Nat) : (cls k == 4) = decide (9218868437227405312 < k) := by
  rcases cls_cases k with ⟨e, c⟩ | ⟨e, c⟩ | ⟨e, c⟩ | ⟨e, c⟩ | ⟨e, c⟩ <;> rw [e]
  · rw [df (by omega)]; rfl
  · rw [dt c]; rfl
  · rw [df (by omega)]; rfl
  · rw [df (by omega)]; rfl
  · rw [df (by omega)]; rfl
theorem nan_spec {s : Bool} {k : Nat} (h : k < 9223372036854775808) : p_nan (fl s k) = decide (9218868437227405312 < k) := by
  have e : p_nan (fl s k) = (p_Class (fl s k) == 4) := rfl
  rw [e, class_spec h, cls4]
def cmpZ (x y : Int) : Int := if x < y then -1 else if x > y then 1 else 0
def fcmp (s : Bool) (k : Nat) (t : Bool) (j : Nat) : Int × Bool := if 9218868437227405312 < k ∨ 9218868437227405312 < j then (0, false) else (cmpZ (ky s k) (ky t j), true)
theorem cmp_tree {n1 n2 : Bool} {x y : Int} {k j : Nat} (h1 : n1 = decide (9218868437227405312 < k)) (h2 : n2 = decide (9218868437227405312 < j)) : Tr.Is (.br n1 (.leaf (0, false)) (.br n2 (.leaf (0, false)) (.br (decide (x < y)) (.leaf (-1, true)) (.br (decide (x > y)) (.leaf (1, true)) (.leaf (0, true)))))) (if 9218868437227405312 < k ∨ 9218868437227405312 < j then ((0 : Int), false) else (cmpZ x y, true)) := by
  by_cases hk : 9218868437227405312 < k
  · rw [if_pos (.inl hk)]; exact Tr.is_br_t (by rw [h1]; exact dt hk) (Tr.is_leaf rfl)
  · refine Tr.is_br_f (by rw [h1]; exact df hk) ?_
    by_cases hj : 9218868437227405312 < j
    · rw [if_pos (.inr hj)]; exact Tr.is_br_t (by rw [h2]; exact dt hj) (Tr.is_leaf rfl)
    · rw [if_neg (fun h => h.elim hk hj)]
      refine Tr.is_br_f (by rw [h2]; exact df hj) ?_
      unfold cmpZ
      by_cases h3 : x < y
      · rw [if_pos h3]; exact Tr.is_br_t (dt h3) (Tr.is_leaf rfl)
      · rw [if_neg h3]
        refine Tr.is_br_f (df h3) ?_
        by_cases h4 : x > y
        · rw [if_pos h4]; exact Tr.is_br_t (dt h4) (Tr.is_leaf rfl)
        · rw [if_neg h4]; exact Tr.is_br_f (df h4) (Tr.is_leaf rfl)
theorem fcmp_spec {s t : Bool} {k j : Nat} (h : k < 9223372036854775808) (g : j < 9223372036854775808) : p_Cmp (fl s k) (fl t j) = fcmp s k t j := by
  have : Tr.Is (p_Cmp_t (fl s k) (fl t j)) (fcmp s k t j) := by
    unfold p_Cmp_t p_Cmp_T
    simp only [key_spec h, key_spec g]
    exact cmp_tree (nan_spec h) (nan_spec g)
  exact this.1
theorem rfcmp_spec {s t : Bool} {k j : Nat} (h : k < 9223372036854775808) (g : j < 9223372036854775808) : r4_Cmp (fl s k) (fl t j) = fcmp s k t j := by
  have : Tr.Is (r4_Cmp_t (fl s k) (fl t j)) (fcmp s k t j) := by
    unfold r4_Cmp_t r4_Cmp_T
    simp only [rkey_spec h, rkey_spec g, rclass_spec h, rclass_spec g]
    exact cmp_tree (cls4 k) (cls4 j)
  exact this.1
def fless (s : Bool) (k : Nat) (t : Bool) (j : Nat) : Bool := decide (k ≤ 9218868437227405312 ∧ j ≤ 9218868437227405312 ∧ ky s k < ky t j)
theorem less_spec {s t : Bool} {k j : Nat} (h : k < 9223372036854775808) (g : j < 9223372036854775808) : p_Less (fl s k) (fl t j) = fless s k t j := by
  have : Tr.Is (p_Less_t (fl s k) (fl t j)) (fless s k t j) := by
    unfold p_Less_t p_Less_T
    simp only [fcmp_spec h g]
    unfold fcmp fless
    split
    · rename_i hn; exact Tr.is_br_f rfl (Tr.is_leaf (df (by omega)).symm)
    · rename_i hn
      refine Tr.is_br_t rfl (Tr.is_leaf ?_)
      unfold cmpZ
      by_cases hl : ky s k < ky t j
      · simp only [if_pos hl]; rw [dt (p := k ≤ 9218868437227405312 ∧ j ≤ 9218868437227405312 ∧ ky s k < ky t j) (by omega)]; rfl
      · simp only [if_neg hl]
        rw [df (p := _ ∧ _) (by omega)]
        split <;> rfl
  exact this.1
theorem neg_spec {s : Bool} {k : Nat} (h : k < 9223372036854775808) : p_Neg (fl s k) = if 9218868437227405312 < k then fl s k else fl (!s) k := by
  have hf := fl_lt (s := s) h
  have ex : bitsI BinOp.xor IntKind.u64 (fl s k) 9223372036854775808 = fl (!s) k := by
    unfold fl
    rw [show (9223372036854775808 : Int) = ((9223372036854775808 : Nat) : Int) from rfl, bits_xor hf (by omega), xor_top hf]
    cases s
    · rw [if_neg (by unfold flN; simp; omega)]; unfold flN; simp; omega
    · rw [if_pos (by unfold flN; simp)]; unfold flN; simp
  have : Tr.Is (p_Neg_t (fl s k)) (if 9218868437227405312 < k then fl s k else fl (!s) k) := by
    unfold p_Neg_t p_Neg_T
    simp only [nan_spec h, ex]
    by_cases hk : 9218868437227405312 < k
    · rw [if_pos hk]; exact Tr.is_br_t (dt hk) (Tr.is_leaf rfl)
    · rw [if_neg hk]; exact Tr.is_br_f (df hk) (Tr.is_leaf rfl)
  exact this.1
theorem inf_spec (s : Bool) : p_Inf s = fl s 9218868437227405312 := by
  have e : p_Inf s = (p_Make s 2047 0).1 := rfl
  have := make_spec (s := s) (e := 2047) (m := 0) (by omega) (by omega)
  rw [e]
  exact congrArg Prod.fst this
theorem zero_spec (s : Bool) : p_Make s 0 0 = (fl s 0, 0) := make_spec (s := s) (e := 0) (m := 0) (by omega) (by omega)
def nextF (s : Bool) (k : Nat) : Int := if 9218868437227405312 < k then fl s k else if s = false ∧ k = 9218868437227405312 then fl s k else if k = 0 then fl false 1 else if s then fl true (k - 1) else fl false (k + 1)
def prevF (s : Bool) (k : Nat) : Int := if 9218868437227405312 < k then fl s k else if s = true ∧ k = 9218868437227405312 then fl s k else if k = 0 then fl true 1 else if s then fl true (k + 1) else fl false (k - 1)
theorem next_spec {s : Bool} {k : Nat} (h : k < 9223372036854775808) : p_Next (fl s k) = nextF s k := by
  have : Tr.Is (p_Next_t (fl s k)) (nextF s k) := by
    unfold p_Next_t p_Next_T nextF
    simp only [nan_spec h, inf_spec, key_spec h, shr_sign h]
    by_cases hk : 9218868437227405312 < k
    · rw [if_pos hk]; exact Tr.is_br_t (dt hk) (Tr.is_leaf rfl)
    · rw [if_neg hk]
      refine Tr.is_br_f (df hk) ?_
      rw [fl_eq h (by omega)]
      by_cases hi : s = false ∧ k = 9218868437227405312
      · rw [if_pos hi, hi.1, hi.2]; exact Tr.is_br_t rfl (Tr.is_leaf rfl)
      · rw [if_neg hi]
        refine Tr.is_br_f ?_ ?_
        · cases s
          · rw [df (p := k = _) (fun h => hi ⟨rfl, h⟩)]; rfl
          · rfl
        by_cases h0 : k = 0
        · rw [if_pos h0]
          exact Tr.is_br_t (bt (by unfold ky; split <;> omega)) (Tr.is_leaf rfl)
        · rw [if_neg h0]
          refine Tr.is_br_f (bf (by unfold ky; split <;> omega)) ?_
          cases s with
          | true =>
            refine Tr.is_br_t rfl (Tr.is_leaf ?_)
            unfold fl flN; simp
            rw [u64i (by omega) (by omega)]; omega
          | false =>
            refine Tr.is_br_f rfl (Tr.is_leaf ?_)
            unfold fl flN; simp
            rw [u64i (by omega) (by omega)]
  exact this.1
theorem neg_fl {s : Bool} {k : Nat} (h : k ≤ 9218868437227405312) : p_Neg (fl s k) = fl (!s) k := by rw [neg_spec (by omega), if_neg (by omega)]
theorem prev_spec {s : Bool} {k : Nat} (h : k < 9223372036854775808) : p_Prev (fl s k) = prevF s k := by
  have e : p_Prev (fl s k) = p_Neg (p_Next (p_Neg (fl s k))) := rfl
  rw [e]
  unfold prevF
  by_cases hk : 9218868437227405312 < k
  · rw [if_pos hk, neg_spec h, if_pos hk, next_spec h]
    unfold nextF
    rw [if_pos hk, neg_spec h, if_pos hk]
  · rw [if_neg hk, neg_fl (by omega), next_spec h]
    unfold nextF
    rw [if_neg hk]
    by_cases hi : s = true ∧ k = 9218868437227405312
    · rw [if_pos hi, if_pos ⟨by rw [hi.1]; rfl, hi.2⟩, neg_fl (by omega), Bool.not_not]
    · rw [if_neg hi, if_neg (fun h => hi ⟨by simpa using h.1, h.2⟩)]
      by_cases h0 : k = 0
      · rw [if_pos h0, if_pos h0, neg_fl (by omega)]; rfl
      · rw [if_neg h0, if_neg h0]
        cases s with
        | true =>
          have : k ≠ 9218868437227405312 := fun h => hi ⟨rfl, h⟩
          show p_Neg (fl false (k + 1)) = fl true (k + 1)
          exact neg_fl (by omega)
        | false => exact neg_fl (s := true) (k := k - 1) (by omega)
theorem rof_spec {K : Int} {b : Bool} (h : -9223372036854775808 < K) (h2 : K < 9223372036854775808) : r4_Of K b = if K < 0 ∨ K = 0 ∧ b = true then fl true K.natAbs else fl false K.natAbs := by
  have mk : ∀ (s : Bool) (n : Nat), n < 9223372036854775808 → r4_Make s (IntKind.i64.wrap ((n : Int).tdiv 4503599627370496)) (IntKind.u64.wrap ((n : Int).tmod 4503599627370496)) = fl s n := by
    intro s n hn
    have d1 := (ndm (T := n) (d := 4503599627370496)).1
    have d2 := (ndm (T := n) (d := 4503599627370496)).2
    rw [show (4503599627370496 : Int) = ((4503599627370496 : Nat) : Int) from rfl, d1, d2, w64 (by omega) (by omega), u64i (by omega) (by omega), rmake_spec (by omega) (Nat.mod_lt _ (by decide)), Nat.div_add_mod]
  have : Tr.Is (r4_Of_t K b) (if K < 0 ∨ K = 0 ∧ b = true then fl true K.natAbs else fl false K.natAbs) := by
    by_cases hn : K < 0
    · rw [if_pos (.inl hn)]
      refine Tr.is_br_t (dt hn) (Tr.is_leaf ?_)
      rw [w64 (n := 0 - K) (by omega) (by omega), show 0 - K = ((K.natAbs : Nat) : Int) by omega]
      exact mk true _ (by omega)
    · refine Tr.is_br_f (df hn) ?_
      by_cases h0 : K = 0
      · refine Tr.is_br_t (bt h0) ?_
        subst h0
        cases b with
        | true => rw [if_pos (.inr ⟨rfl, rfl⟩)]; exact Tr.is_br_t rfl (Tr.is_leaf (mk true 0 (by omega)))
        | false => rw [if_neg (by simp)]; exact Tr.is_br_f rfl (Tr.is_leaf (mk false 0 (by omega)))
      · rw [if_neg (by omega)]
        refine Tr.is_br_f (bf h0) (Tr.is_leaf ?_)
        rw [show K = ((K.natAbs : Nat) : Int) by omega]
        exact mk false _ (by omega)
  exact this.1
theorem rnext_spec {s : Bool} {k : Nat} (h : k < 9223372036854775808) : r4_Next (fl s k) = nextF s k := by
  have : Tr.Is (r4_Next_t (fl s k)) (nextF s k) := by
    unfold r4_Next_t r4_Next_T nextF
    simp only [rclass_spec h, cls4, rkey_spec h]
    by_cases hk : 9218868437227405312 < k
    · rw [if_pos hk]; exact Tr.is_br_t (dt hk) (Tr.is_leaf rfl)
    · rw [if_neg hk]
      refine Tr.is_br_f (df hk) ?_
      cases s with
      | false =>
        by_cases hi : k = 9218868437227405312
        · rw [if_pos ⟨rfl, hi⟩]; exact Tr.is_br_t (bt (by unfold ky; simp; omega)) (Tr.is_leaf rfl)
        · rw [if_neg (fun h => hi h.2)]
          refine Tr.is_br_f (bf (by unfold ky; simp; omega)) (Tr.is_leaf ?_)
          unfold ky
          simp only [Bool.false_eq_true, if_false]
          rw [w64 (by omega) (by omega), rof_spec (by omega) (by omega), if_neg (by omega)]
          by_cases h0 : k = 0
          · rw [if_pos h0, h0]; rfl
          · rw [if_neg h0]; congr 1
      | true =>
        rw [if_neg (by simp)]
        refine Tr.is_br_f (bf (by unfold ky; simp; omega)) (Tr.is_leaf ?_)
        unfold ky
        simp only [if_true]
        rw [w64 (by omega) (by omega), rof_spec (by omega) (by omega)]
        by_cases h0 : k = 0
        · rw [if_pos h0, if_neg (by simp; omega), h0]; rfl
        · rw [if_neg h0, if_pos (by simp; omega)]; congr 1; omega
  exact this.1
theorem rprev_spec {s : Bool} {k : Nat} (h : k < 9223372036854775808) : r4_Prev (fl s k) = prevF s k := by
  have : Tr.Is (r4_Prev_t (fl s k)) (prevF s k) := by
    unfold r4_Prev_t r4_Prev_T prevF
    simp only [rclass_spec h, cls4, rkey_spec h]
    by_cases hk : 9218868437227405312 < k
    · rw [if_pos hk]; exact Tr.is_br_t (dt hk) (Tr.is_leaf rfl)
    · rw [if_neg hk]
      refine Tr.is_br_f (df hk) ?_
      cases s with
      | true =>
        by_cases hi : k = 9218868437227405312
        · rw [if_pos ⟨rfl, hi⟩]; exact Tr.is_br_t (bt (by unfold ky; simp; omega)) (Tr.is_leaf rfl)
        · rw [if_neg (fun h => hi h.2)]
          refine Tr.is_br_f (bf (by unfold ky; simp; omega)) (Tr.is_leaf ?_)
          unfold ky
          simp only [if_true]
          rw [w64 (by omega) (by omega), rof_spec (by omega) (by omega), if_pos (.inl (by omega))]
          by_cases h0 : k = 0
          · rw [if_pos h0, h0]; rfl
          · rw [if_neg h0]; congr 1; omega
      | false =>
        rw [if_neg (by simp)]
        refine Tr.is_br_f (bf (by unfold ky; simp)) (Tr.is_leaf ?_)
        unfold ky
        simp only [Bool.false_eq_true, if_false]
        rw [w64 (by omega) (by omega), rof_spec (by omega) (by omega)]
        by_cases h0 : k = 0
        · rw [if_pos h0, if_pos (.inl (by omega)), h0]; rfl
        · rw [if_neg h0, if_neg (by simp; omega)]; congr 1; omega
  exact this.1
end Go.Fb
namespace Go.Fb
open Go.Ev
def fv (s : Bool) (k : Nat) : Rat := dy s (mant k) (expo k)
def kvN (k : Nat) : Nat := if k < 4503599627370496 then k else (4503599627370496 + k % 4503599627370496) * 2 ^ (k / 4503599627370496 - 1)
theorem rq_scale (s : Bool) {n d c : Nat} (hc : c ≠ 0) : rq s (n * c) (d * c) = rq s n d := by
  unfold rq
  rw [← sg_mulN, Rat.mkRat_mul_right hc]
theorem dy_scaledE (s : Bool) (m E : Nat) {e : Int} (h1 : -(E : Int) ≤ e) : dy s m e = rq s (m * 2 ^ (e + E).toNat) (2 ^ E) := by
  unfold dy
  by_cases h : 0 ≤ e
  · obtain ⟨n, rfl⟩ : ∃ n : Nat, e = (n : Int) := ⟨e.toNat, by omega⟩
    have e1 : (-(n : Int)).toNat = 0 := by omega
    have e2 : ((n : Int) + E).toNat = n + E := by omega
    rw [e1, e2, Int.toNat_natCast, Nat.pow_zero, Nat.pow_add, ← Nat.mul_assoc]
    have := rq_scale s (n := m * 2 ^ n) (d := 1) (c := 2 ^ E) (Nat.pos_iff_ne_zero.1 (Nat.two_pow_pos E))
    rw [Nat.one_mul] at this
    rw [this, Nat.mul_comm]
  · obtain ⟨n, hn⟩ : ∃ n : Nat, (-e).toNat = n := ⟨_, rfl⟩
    have e1 : e.toNat = 0 := by omega
    have e2 : (e + E).toNat = E - n := by omega
    rw [e1, e2, hn, Nat.pow_zero, Nat.one_mul]
    have := rq_scale s (n := m) (d := 2 ^ n) (c := 2 ^ (E - n)) (Nat.pos_iff_ne_zero.1 (Nat.two_pow_pos _))
    rw [← Nat.pow_add, show n + (E - n) = E by omega] at this
    rw [this]
theorem dy_scaled (s : Bool) (m : Nat) {e : Int} (h1 : -1074 ≤ e) : dy s m e = rq s (m * 2 ^ (e + 1074).toNat) (2 ^ 1074) := dy_scaledE s m 1074 h1
theorem fv_eq {s : Bool} {k : Nat} (h : k < 9218868437227405312) : fv s k = rq s (kvN k) (2 ^ 1074) := by
  unfold fv
  by_cases h0 : k = 0
  · subst h0
    have e1 : mant 0 = 0 := rfl
    have e2 : kvN 0 = 0 := rfl
    rw [e1, e2, rq_zero_num]
    unfold dy; rw [Nat.mul_zero, rq_zero_num]
  · unfold mant expo kvN
    rw [if_neg h0]
    by_cases h1 : k < 4503599627370496
    · rw [if_pos h1, if_pos h1, if_pos h1, dy_scaled s k (by omega)]
      have : ((-1074 : Int) + 1074).toNat = 0 := rfl
      rw [this, Nat.pow_zero, Nat.mul_one]
    · rw [if_neg h1, if_neg h1, if_neg h1, if_pos h, if_pos h, dy_scaled s _ (by omega)]
      have : (((k / 4503599627370496 : Nat) : Int) - 1075 + 1074).toNat = k / 4503599627370496 - 1 := by omega
      rw [this]
theorem kvN_step (k : Nat) : kvN k < kvN (k + 1) := by
  unfold kvN
  by_cases h1 : k + 1 < 4503599627370496
  · rw [if_pos (by omega), if_pos h1]; omega
  · rw [if_neg h1]
    by_cases h2 : k < 4503599627370496
    · have hk : k = 4503599627370495 := by omega
      subst hk
      rw [if_pos h2]; decide
    · rw [if_neg h2]
      have hp : 0 < 2 ^ (k / 4503599627370496 - 1) := Nat.two_pow_pos _
      by_cases h3 : k % 4503599627370496 = 4503599627370495
      · have e1 : (k + 1) % 4503599627370496 = 0 := by omega
        have e2 : (k + 1) / 4503599627370496 - 1 = (k / 4503599627370496 - 1) + 1 := by omega
        rw [e1, e2, h3, Nat.pow_succ]
        generalize 2 ^ (k / 4503599627370496 - 1) = P at *
        omega
      · have e1 : (k + 1) % 4503599627370496 = k % 4503599627370496 + 1 := by omega
        have e2 : (k + 1) / 4503599627370496 - 1 = k / 4503599627370496 - 1 := by omega
        rw [e1, e2]
        exact Nat.mul_lt_mul_of_pos_right (by omega) hp
theorem kvN_mono {j k : Nat} (h : j < k) : kvN j < kvN k := by
  induction k with
  | zero => omega
  | succ k ih =>
    by_cases hj : j < k
    · exact Nat.lt_trans (ih hj) (kvN_step k)
    · have : j = k := by omega
      rw [this]; exact kvN_step k
theorem kvN_lt {j k : Nat} : kvN j < kvN k ↔ j < k := by
  constructor
  · intro h
    rcases Nat.lt_trichotomy j k with h1 | h1 | h1
    · exact h1
    · rw [h1] at h; omega
    · have := kvN_mono h1; omega
  · exact kvN_mono
theorem kvN_zero : kvN 0 = 0 := rfl
theorem rq_lt {s t : Bool} {n m d : Nat} (hd : d ≠ 0) : rq s n d < rq t m d ↔ sg s n < sg t m := by
  unfold rq
  rw [Rat.mkRat_eq_div, Rat.mkRat_eq_div]
  have hdp : (0 : Rat) < (d : Rat) := Rat.natCast_pos.2 (by omega)
  rw [Rat.div_lt_iff hdp, Rat.div_mul_cancel (Rat.ne_of_gt hdp), Rat.intCast_lt_intCast]
theorem sg_ky {s t : Bool} {k j : Nat} : sg s (kvN k) < sg t (kvN j) ↔ ky s k < ky t j := by
  have h0 := @kvN_lt k j
  have h1 := @kvN_lt j k
  have z1 := @kvN_lt 0 k
  have z2 := @kvN_lt 0 j
  rw [kvN_zero] at z1 z2
  cases s <;> cases t <;> simp [sg, ky] <;> omega
theorem fv_lt {s t : Bool} {k j : Nat} (h : k < 9218868437227405312) (g : j < 9218868437227405312) : fv s k < fv t j ↔ ky s k < ky t j := by
  rw [fv_eq h, fv_eq g, rq_lt (Nat.pos_iff_ne_zero.1 (Nat.two_pow_pos 1074)), sg_ky]
theorem mant_lt (k : Nat) : mant k < 9007199254740992 := by unfold mant; split <;> (try split) <;> omega
theorem expo_rng {k : Nat} : -1074 ≤ expo k ∧ expo k ≤ 971 := by unfold expo; split <;> (try split) <;> (try split) <;> omega
theorem value_spec {s : Bool} {k : Nat} (h : k < 9218868437227405312) : p_Value_s (fl s k) = true ∧ ∃ r, p_Value (fl s k) = (r, true) ∧ RIs r (fv s k) 300 := by
  have hm := mant_lt k
  have he := @expo_rng k
  obtain ⟨d1, r, d2, d3⟩ := dyad_spec (neg := s) (m := mant k) (by omega) (e := expo k) (by omega) (by omega)
  have : Tr.Is (p_Value_t (fl s k)) (r, true) := by
    unfold p_Value_t p_Value_T
    simp only [class_spec (s := s) (k := k) (by omega), split_spec (s := s) (k := k) (by omega), shr_sign (s := s) (k := k) (by omega), d2]
    rcases cls_cases k with ⟨e, c⟩ | ⟨e, c⟩ | ⟨e, c⟩ | ⟨e, c⟩ | ⟨e, c⟩ <;> rw [e]
    · omega
    · omega
    · exact Tr.is_br_f rfl (Tr.is_br_f rfl (Tr.is_ast d1 (Tr.is_leaf rfl)))
    · exact Tr.is_br_f rfl (Tr.is_br_f rfl (Tr.is_ast d1 (Tr.is_leaf rfl)))
    · exact Tr.is_br_f rfl (Tr.is_br_f rfl (Tr.is_ast d1 (Tr.is_leaf rfl)))
  exact ⟨this.2, r, this.1, d3⟩
theorem value_none {s : Bool} {k : Nat} (h : k < 9223372036854775808) (g : 9218868437227405312 ≤ k) : p_Value_s (fl s k) = true ∧ p_Value (fl s k) = (⟨false, [], []⟩, false) := by
  have : Tr.Is (p_Value_t (fl s k)) (⟨false, [], []⟩, false) := by
    unfold p_Value_t p_Value_T
    simp only [class_spec h]
    rcases cls_cases k with ⟨e, c⟩ | ⟨e, c⟩ | ⟨e, c⟩ | ⟨e, c⟩ | ⟨e, c⟩ <;> rw [e]
    · exact Tr.is_br_t rfl (Tr.is_leaf rfl)
    · exact Tr.is_br_f rfl (Tr.is_br_t rfl (Tr.is_leaf rfl))
    · omega
    · omega
    · omega
  exact ⟨this.2, this.1⟩
theorem finite_spec {s : Bool} {k : Nat} (h : k < 9223372036854775808) : r4_Finite (fl s k) = decide (k < 9218868437227405312) := by
  have : Tr.Is (r4_Finite_t (fl s k)) (decide (k < 9218868437227405312)) := by
    unfold r4_Finite_t r4_Finite_T
    simp only [rclass_spec h]
    rcases cls_cases k with ⟨e, c⟩ | ⟨e, c⟩ | ⟨e, c⟩ | ⟨e, c⟩ | ⟨e, c⟩ <;> rw [e]
    · rw [df (by omega)]; exact Tr.is_br_f rfl (Tr.is_leaf rfl)
    · rw [df (by omega)]; exact Tr.is_br_t rfl (Tr.is_leaf rfl)
    · rw [dt (by omega)]; exact Tr.is_br_t rfl (Tr.is_leaf rfl)
    · rw [dt (by omega)]; exact Tr.is_br_t rfl (Tr.is_leaf rfl)
    · rw [dt (by omega)]; exact Tr.is_br_t rfl (Tr.is_leaf rfl)
  exact this.1
end Go.Fb
