/- Layer 1: plain laws of what the functions compute. Conditions: as each theorem states. -/
import Derived.Test.YtggmmkdfgjnjfaaWd
namespace Go.Fb
open Go.Ev
def bv : List Bool → Nat
  | [] => 0
  | b :: l => b.toNat + 2 * bv l
theorem getD_none {l : List Bool} {i : Nat} (h : l.length ≤ i) : l.getD i false = false := by simp [List.getD, h]
theorem w64 {n : Int} (h0 : -9223372036854775808 ≤ n) (h1 : n ≤ 9223372036854775807) : IntKind.i64.wrap n = n := by
  simp only [IntKind.wrap, IntKind.bits, IntKind.signed]
  simp
  omega
theorem wnext {i : Nat} (h : i < 4611686018427387904) : IntKind.i64.wrap ((i : Int) + 1) = ((i + 1 : Nat) : Int) := by rw [w64 (by omega) (by omega)]; rfl
def cmpN (x y : Nat) : Int := if x < y then -1 else if x = y then 0 else 1
def Wd (x : Int) : Prop := 0 ≤ x ∧ x < 18446744073709551616
theorem u64w (n : Int) : IntKind.u64.wrap n = n % 18446744073709551616 := by
  simp [IntKind.wrap, IntKind.bits, IntKind.signed]
theorem u64i {n : Int} (h0 : 0 ≤ n) (h1 : n < 18446744073709551616) : IntKind.u64.wrap n = n := by rw [u64w]; omega
theorem bits_and {x y : Nat} (hx : x < 18446744073709551616) (hy : y < 18446744073709551616) : bitsI .and .u64 (x : Int) (y : Int) = ((x &&& y : Nat) : Int) := by
  have h : (x &&& y) < 18446744073709551616 := Nat.and_lt_two_pow x (n := 64) hy
  have e : (BitVec.ofInt 64 (x : Int) &&& BitVec.ofInt 64 (y : Int)).toNat = x &&& y := by
    rw [BitVec.toNat_and]
    simp only [BitVec.ofInt_natCast, BitVec.toNat_ofNat]
    rw [Nat.mod_eq_of_lt (by omega), Nat.mod_eq_of_lt (by omega)]
  have e0 : bitsI .and .u64 (x : Int) (y : Int) = IntKind.u64.wrap ((BitVec.ofInt 64 (x : Int) &&& BitVec.ofInt 64 (y : Int)).toNat : Int) := rfl
  rw [e0, e, u64i (by omega) (by omega)]
theorem shr_nat (x k : Nat) (hk : k ≤ 64) : shrI .u64 (x : Int) (k : Int) = ((x / 2 ^ k : Nat) : Int) := by
  simp only [shrI, IntKind.bits, Int.toNat_natCast, Nat.min_eq_left hk]
  rw [Int.fdiv_eq_ediv_of_nonneg _ (Int.le_of_lt (Int.pow_pos (by decide)))]
  simp
end Go.Fb
namespace Go.Fb
open Go.Ev
theorem and32 {z : Int} (h : Wd z) : bitsI .and .u64 z 4294967295 = z % 4294967296 := by
  obtain ⟨k, rfl⟩ := Int.eq_ofNat_of_zero_le h.1
  have hk : k < 18446744073709551616 := by have := h.2; omega
  have e := bits_and (x := k) (y := 4294967295) hk (by decide)
  have e2 : k &&& 4294967295 = k % 4294967296 := Nat.and_two_pow_sub_one_eq_mod k 32
  rw [show ((4294967295 : Nat) : Int) = 4294967295 from rfl] at e
  rw [e, e2]
  omega
def W2 (a : U2) : Prop := Wd a.hi ∧ Wd a.lo
def W3 (a : U3) : Prop := Wd a.hi ∧ Wd a.mid ∧ Wd a.lo
def n2 (a : U2) : Nat := a.lo.toNat + 18446744073709551616 * a.hi.toNat
def n3 (a : U3) : Nat := a.lo.toNat + 18446744073709551616 * (a.mid.toNat + 18446744073709551616 * a.hi.toNat)
end Go.Fb
namespace Go.Fb
open Go.Ev
theorem bits_or {x y : Nat} (hx : x < 18446744073709551616) (hy : y < 18446744073709551616) : bitsI .or .u64 (x : Int) (y : Int) = ((x ||| y : Nat) : Int) := by
  have h : (x ||| y) < 18446744073709551616 := Nat.or_lt_two_pow (n := 64) hx hy
  have e : (BitVec.ofInt 64 (x : Int) ||| BitVec.ofInt 64 (y : Int)).toNat = x ||| y := by
    rw [BitVec.toNat_or]
    simp only [BitVec.ofInt_natCast, BitVec.toNat_ofNat]
    rw [Nat.mod_eq_of_lt (by omega), Nat.mod_eq_of_lt (by omega)]
  have e0 : bitsI .or .u64 (x : Int) (y : Int) = IntKind.u64.wrap ((BitVec.ofInt 64 (x : Int) ||| BitVec.ofInt 64 (y : Int)).toNat : Int) := rfl
  rw [e0, e, u64i (by omega) (by omega)]
/-- the root of a number -/
def IsRt (n r : Nat) : Prop := r * r ≤ n ∧ n < (r + 1) * (r + 1)
theorem sq_lt {x y : Nat} (h : x * x < y * y) : x < y := by
  rcases Nat.lt_or_ge x y with h' | h'
  · exact h'
  · have := Nat.mul_le_mul h' h'; omega
theorem IsRt.unique {n r s : Nat} (h1 : IsRt n r) (h2 : IsRt n s) : r = s := by
  have a := sq_lt (Nat.lt_of_le_of_lt h1.1 h2.2)
  have b := sq_lt (Nat.lt_of_le_of_lt h2.1 h1.2)
  omega
end Go.Fb
namespace Go.Fb
open Go.Ev
end Go.Fb
namespace Go.Fb
open Go.Ev
end Go.Fb
namespace Go.Fb
open Go.Ev
def LenIs (n l : Nat) : Prop := n < 2 ^ l ∧ (l = 0 ∨ 2 ^ (l - 1) ≤ n)
theorem LenIs.unique {n l m : Nat} (h1 : LenIs n l) (h2 : LenIs n m) : l = m := by
  have key : ∀ {a b : Nat}, LenIs n a → LenIs n b → a ≤ b := fun {a b} ha hb => by
    rcases ha.2 with h | h
    · omega
    · rcases Nat.lt_or_ge b a with h' | h'
      · have : 2 ^ b ≤ 2 ^ (a - 1) := Nat.pow_le_pow_right (by decide) (by omega)
        have := hb.1
        omega
      · exact h'
  exact Nat.le_antisymm (key h1 h2) (key h2 h1)
theorem LenIs.shift {n k l : Nat} (h0 : 0 < n / 2 ^ k) (h : LenIs (n / 2 ^ k) l) : LenIs n (k + l) := by
  have hp : 0 < 2 ^ k := Nat.pow_pos (by decide)
  refine ⟨?_, .inr ?_⟩
  · rw [Nat.pow_add, Nat.mul_comm]
    exact (Nat.div_lt_iff_lt_mul hp).1 h.1
  · rcases h.2 with h2 | h2
    · subst h2; have := h.1; rw [Nat.pow_zero] at this; omega
    · have hl : l ≠ 0 := by
        intro e; subst e; have := h.1; rw [Nat.pow_zero] at this; omega
      rw [show k + l - 1 = (l - 1) + k by omega, Nat.pow_add]
      exact (Nat.le_div_iff_mul_le hp).1 h2
def len8n (n : Nat) : Nat := (len8.data.getD n 0).toNat
theorem len8_tab : ∀ n : Fin 256, n.val < 2 ^ len8n n.val ∧ (len8n n.val = 0 ∨ 2 ^ (len8n n.val - 1) ≤ n.val) ∧ len8n n.val ≤ 8 := by decide +kernel
theorem len8_is {n : Nat} (h : n < 256) : LenIs n (len8n n) ∧ len8n n ≤ 8 := by
  have := len8_tab ⟨n, h⟩
  exact ⟨⟨this.1, this.2.1⟩, this.2.2⟩
theorem u8i {n : Nat} (h : n < 256) : IntKind.u8.wrap (n : Int) = (n : Int) := by
  simp [IntKind.wrap, IntKind.bits, IntKind.signed]; omega
theorem len64_spec {k : Nat} (hk : k < 18446744073709551616) : ∃ l : Nat, bits_Len64 (k : Int) = (l : Int) ∧ LenIs k l ∧ l ≤ 64 := by
  have st : ∀ m : Nat, strAt len8 (m : Int) = (len8n m : Int) := fun m => rfl
  have s8 : ∀ m : Nat, shrI .u64 (m : Int) 8 = ((m / 256 : Nat) : Int) := fun m => shr_nat m 8 (by decide)
  have s16 : ∀ m : Nat, shrI .u64 (m : Int) 16 = ((m / 65536 : Nat) : Int) := fun m => shr_nat m 16 (by decide)
  have s32 : ∀ m : Nat, shrI .u64 (m : Int) 32 = ((m / 4294967296 : Nat) : Int) := fun m => shr_nat m 32 (by decide)
  have e : bits_Len64 (k : Int) = (bits_Len64_t (k : Int)).val := rfl
  rw [e]
  simp only [bits_Len64_t, bits_Len64_T, Tr.val, s32, s16, s8]
  have fin : ∀ (c : Nat) (m : Nat), m < 256 → c ≤ 56 → IntKind.i64.wrap ((c : Int) + IntKind.i64.wrap (strAt len8 (m : Int))) = ((c + len8n m : Nat) : Int) := fun c m hm hc => by
    have := (len8_is hm).2
    rw [st, w64 (n := (len8n m : Int)) (by omega) (by omega), w64 (by omega) (by omega)]
    omega
  have res : ∀ (c : Nat), k / 2 ^ c < 256 → (c = 0 ∨ 0 < k / 2 ^ c) → c ≤ 56 → LenIs k (c + len8n (k / 2 ^ c)) ∧ c + len8n (k / 2 ^ c) ≤ 64 := fun c hm h0 hc => by
    obtain ⟨h1, h2⟩ := len8_is hm
    refine ⟨?_, by omega⟩
    rcases h0 with rfl | h0
    · simpa using h1
    · exact LenIs.shift h0 h1
  by_cases c1 : (k : Int) ≥ 4294967296
  · rw [decide_eq_true c1]
    simp only [cond_true]
    by_cases c2 : ((k / 4294967296 : Nat) : Int) ≥ 65536
    · rw [decide_eq_true c2]
      simp only [cond_true]
      by_cases c3 : ((k / 4294967296 / 65536 : Nat) : Int) ≥ 256
      · rw [decide_eq_true c3]
        have hm : k / 4294967296 / 65536 / 256 < 256 := by omega
        have := res 56 (by omega) (.inr (by omega)) (by omega)
        refine ⟨56 + len8n (k / 2 ^ 56), ?_, this⟩
        simp only [cond_true]
        rw [u8i hm, show IntKind.i64.wrap (IntKind.i64.wrap (32 + 16) + 8) = ((56 : Nat) : Int) from rfl, fin 56 _ hm (by omega), show k / 4294967296 / 65536 / 256 = k / 2 ^ 56 by omega]
      · rw [decide_eq_false c3]
        have hm : k / 4294967296 / 65536 < 256 := by omega
        have := res 48 (by omega) (.inr (by omega)) (by omega)
        refine ⟨48 + len8n (k / 2 ^ 48), ?_, this⟩
        simp only [cond_false]
        rw [u8i hm, show IntKind.i64.wrap (32 + 16) = ((48 : Nat) : Int) from rfl, fin 48 _ hm (by omega), show k / 4294967296 / 65536 = k / 2 ^ 48 by omega]
    · rw [decide_eq_false c2]
      simp only [cond_false]
      by_cases c3 : ((k / 4294967296 : Nat) : Int) ≥ 256
      · rw [decide_eq_true c3]
        have hm : k / 4294967296 / 256 < 256 := by omega
        have := res 40 (by omega) (.inr (by omega)) (by omega)
        refine ⟨40 + len8n (k / 2 ^ 40), ?_, this⟩
        simp only [cond_true]
        rw [u8i hm, show IntKind.i64.wrap (32 + 8) = ((40 : Nat) : Int) from rfl, fin 40 _ hm (by omega), show k / 4294967296 / 256 = k / 2 ^ 40 by omega]
      · rw [decide_eq_false c3]
        have hm : k / 4294967296 < 256 := by omega
        have := res 32 (by omega) (.inr (by omega)) (by omega)
        refine ⟨32 + len8n (k / 2 ^ 32), ?_, this⟩
        simp only [cond_false]
        rw [u8i hm, show (32 : Int) = ((32 : Nat) : Int) from rfl, fin 32 _ hm (by omega)]
  · rw [decide_eq_false c1]
    simp only [cond_false]
    by_cases c2 : (k : Int) ≥ 65536
    · rw [decide_eq_true c2]
      simp only [cond_true]
      by_cases c3 : ((k / 65536 : Nat) : Int) ≥ 256
      · rw [decide_eq_true c3]
        have hm : k / 65536 / 256 < 256 := by omega
        have := res 24 (by omega) (.inr (by omega)) (by omega)
        refine ⟨24 + len8n (k / 2 ^ 24), ?_, this⟩
        simp only [cond_true]
        rw [u8i hm, show IntKind.i64.wrap (IntKind.i64.wrap (0 + 16) + 8) = ((24 : Nat) : Int) from rfl, fin 24 _ hm (by omega), show k / 65536 / 256 = k / 2 ^ 24 by omega]
      · rw [decide_eq_false c3]
        have hm : k / 65536 < 256 := by omega
        have := res 16 (by omega) (.inr (by omega)) (by omega)
        refine ⟨16 + len8n (k / 2 ^ 16), ?_, this⟩
        simp only [cond_false]
        rw [u8i hm, show IntKind.i64.wrap (0 + 16) = ((16 : Nat) : Int) from rfl, fin 16 _ hm (by omega)]
    · rw [decide_eq_false c2]
      simp only [cond_false]
      by_cases c3 : (k : Int) ≥ 256
      · rw [decide_eq_true c3]
        have hm : k / 256 < 256 := by omega
        have := res 8 (by omega) (.inr (by omega)) (by omega)
        refine ⟨8 + len8n (k / 2 ^ 8), ?_, this⟩
        simp only [cond_true]
        rw [u8i hm, show IntKind.i64.wrap (0 + 8) = ((8 : Nat) : Int) from rfl, fin 8 _ hm (by omega)]
      · rw [decide_eq_false c3]
        have hm : k < 256 := by omega
        have := res 0 (by omega) (.inl rfl) (by omega)
        refine ⟨0 + len8n (k / 2 ^ 0), ?_, this⟩
        simp only [cond_false]
        rw [u8i hm, show (0 : Int) = ((0 : Nat) : Int) from rfl, fin 0 _ hm (by omega)]
        simp
theorem ulen_spec {a : U2} (ha : W2 a) : ∃ l : Nat, u2_Len a = (l : Int) ∧ LenIs (n2 a) l := by
  obtain ⟨ahi, alo⟩ := a
  obtain ⟨h1, h2⟩ := ha
  simp only at h1 h2
  obtain ⟨hi, rfl⟩ := Int.eq_ofNat_of_zero_le h1.1
  obtain ⟨lo, rfl⟩ := Int.eq_ofNat_of_zero_le h2.1
  have b1 := h1.2
  have b2 := h2.2
  simp only [u2_Len, u2_Len_t, u2_Len_T, Tr.val, n2, Int.toNat_natCast]
  by_cases h : (hi : Int) > 0
  · rw [decide_eq_true h]
    obtain ⟨l, e, hl, hb⟩ := len64_spec (k := hi) (by omega)
    have hd : (lo + 18446744073709551616 * hi) / 2 ^ 64 = hi := by omega
    refine ⟨64 + l, ?_, LenIs.shift (by rw [hd]; omega) (by rw [hd]; exact hl)⟩
    simp only [cond_true]
    rw [e, w64 (by omega) (by omega)]
    omega
  · rw [decide_eq_false h]
    have : hi = 0 := by omega
    subst this
    obtain ⟨l, e, hl, _⟩ := len64_spec (k := lo) (by omega)
    exact ⟨l, e, by simpa using hl⟩
end Go.Fb
namespace Go.Fb
open Go.Ev
theorem shl_nat (x k : Nat) (hk : k ≤ 64) : shlI .u64 (x : Int) (k : Int) = ((x * 2 ^ k % 18446744073709551616 : Nat) : Int) := by
  have e : shlI .u64 (x : Int) (k : Int) = IntKind.u64.wrap ((x : Int) * 2 ^ (min (k : Int).toNat 64)) := rfl
  rw [e, u64w, Int.toNat_natCast, Nat.min_eq_left hk]
  have : (x : Int) * 2 ^ k = ((x * 2 ^ k : Nat) : Int) := by simp
  rw [this]
  omega
theorem or_add {a b i : Nat} (hb : b < 2 ^ i) : 2 ^ i * a ||| b = 2 ^ i * a + b := (Nat.two_pow_add_eq_or_of_lt hb a).symm
theorem pow_split {n : Nat} (hn : n ≤ 64) : 2 ^ n * 2 ^ (64 - n) = 18446744073709551616 := by
  rw [← Nat.pow_add, Nat.add_sub_cancel' hn]
theorem mul_mod_pow (x : Nat) {n : Nat} (hn : n ≤ 64) : x * 2 ^ n % 18446744073709551616 = 2 ^ n * (x % 2 ^ (64 - n)) := by
  rw [← pow_split hn, Nat.mul_comm x, Nat.mul_mod_mul_left]
/-- two words, shifted by less than one -/
theorem shl_core {hi lo n : Nat} (_hh : hi < 18446744073709551616) (hl : lo < 18446744073709551616) (h0 : 0 < n) (hn : n < 64) :
    (hi * 2 ^ n % 18446744073709551616 ||| lo / 2 ^ (64 - n)) < 18446744073709551616 ∧
    lo * 2 ^ n % 18446744073709551616 + 18446744073709551616 * (hi * 2 ^ n % 18446744073709551616 ||| lo / 2 ^ (64 - n)) = (lo + 18446744073709551616 * hi) * 2 ^ n % 340282366920938463463374607431768211456 := by
  have hs := pow_split (n := n) (by omega)
  have hK : 0 < 2 ^ (64 - n) := Nat.pow_pos (by decide)
  have hN : 0 < 2 ^ n := Nat.pow_pos (by decide)
  have hl1 : lo / 2 ^ (64 - n) < 2 ^ n := (Nat.div_lt_iff_lt_mul hK).2 (by rw [hs]; exact hl)
  have dl := Nat.div_add_mod lo (2 ^ (64 - n))
  have dh := Nat.div_add_mod hi (2 ^ (64 - n))
  have ml := Nat.mod_lt lo hK
  have mh := Nat.mod_lt hi hK
  rw [mul_mod_pow hi (by omega), mul_mod_pow lo (by omega), or_add hl1]
  have e1 : lo * 2 ^ n = 18446744073709551616 * (lo / 2 ^ (64 - n)) + 2 ^ n * (lo % 2 ^ (64 - n)) := by
    conv => lhs; rw [← dl]
    rw [Nat.add_mul, Nat.mul_right_comm, Nat.mul_comm (2 ^ (64 - n)) (2 ^ n), hs, Nat.mul_comm (lo % 2 ^ (64 - n))]
  have e2 : hi * 2 ^ n = 18446744073709551616 * (hi / 2 ^ (64 - n)) + 2 ^ n * (hi % 2 ^ (64 - n)) := by
    conv => lhs; rw [← dh]
    rw [Nat.add_mul, Nat.mul_right_comm, Nat.mul_comm (2 ^ (64 - n)) (2 ^ n), hs, Nat.mul_comm (hi % 2 ^ (64 - n))]
  have b1 : 2 ^ n * (lo % 2 ^ (64 - n)) < 18446744073709551616 := by rw [← hs]; exact Nat.mul_lt_mul_of_pos_left ml hN
  have b2 : 2 ^ n * (hi % 2 ^ (64 - n)) + 2 ^ n ≤ 18446744073709551616 := by
    rw [← hs, ← Nat.mul_succ]; exact Nat.mul_le_mul_left _ mh
  rw [Nat.add_mul, Nat.mul_assoc, e1, e2]
  generalize 2 ^ n * (lo % 2 ^ (64 - n)) = A at *
  generalize 2 ^ n * (hi % 2 ^ (64 - n)) = D at *
  generalize lo / 2 ^ (64 - n) = l1 at *
  generalize hi / 2 ^ (64 - n) = h1 at *
  generalize 2 ^ n = N at *
  constructor <;> omega
/-- two words, shifted back by less than one -/
theorem shr_core {hi lo n : Nat} (_hh : hi < 18446744073709551616) (hl : lo < 18446744073709551616) (h0 : 0 < n) (hn : n < 64) :
    (lo / 2 ^ n ||| hi * 2 ^ (64 - n) % 18446744073709551616) < 18446744073709551616 ∧
    (lo / 2 ^ n ||| hi * 2 ^ (64 - n) % 18446744073709551616) + 18446744073709551616 * (hi / 2 ^ n) = (lo + 18446744073709551616 * hi) / 2 ^ n ∧
    (lo * 2 ^ (64 - n) % 18446744073709551616 ≠ 0 ↔ (lo + 18446744073709551616 * hi) % 2 ^ n ≠ 0) := by
  have hs := pow_split (n := n) (by omega)
  have hK : 0 < 2 ^ (64 - n) := Nat.pow_pos (by decide)
  have hN : 0 < 2 ^ n := Nat.pow_pos (by decide)
  have hl1 : lo / 2 ^ n < 2 ^ (64 - n) := (Nat.div_lt_iff_lt_mul hN).2 (by rw [Nat.mul_comm, hs]; exact hl)
  have dh := Nat.div_add_mod hi (2 ^ n)
  have mh := Nat.mod_lt hi hN
  have em : ∀ x : Nat, x * 2 ^ (64 - n) % 18446744073709551616 = 2 ^ (64 - n) * (x % 2 ^ n) := fun x => by
    have := mul_mod_pow x (n := 64 - n) (by omega)
    rw [show 64 - (64 - n) = n by omega] at this
    exact this
  rw [em, em, Nat.or_comm, or_add hl1]
  have e2 : 18446744073709551616 * hi = 2 ^ n * (18446744073709551616 * (hi / 2 ^ n) + 2 ^ (64 - n) * (hi % 2 ^ n)) := by
    conv => lhs; rw [← dh]
    rw [Nat.mul_add, Nat.mul_add, ← Nat.mul_assoc (2 ^ n) (2 ^ (64 - n)), hs, Nat.mul_left_comm]
  have b2 : 2 ^ (64 - n) * (hi % 2 ^ n) + 2 ^ (64 - n) ≤ 18446744073709551616 := by
    rw [← hs, Nat.mul_comm (2 ^ n), ← Nat.mul_succ]; exact Nat.mul_le_mul_left _ mh
  rw [e2, Nat.add_mul_div_left _ _ hN, Nat.add_mul_mod_self_left]
  refine ⟨?_, ?_, ?_⟩
  · generalize 2 ^ (64 - n) * (hi % 2 ^ n) = D at *
    generalize lo / 2 ^ n = l1 at *
    omega
  · generalize 2 ^ (64 - n) * (hi % 2 ^ n) = D at *
    omega
  · refine not_congr ?_
    rw [Nat.mul_eq_zero]
    constructor
    · rintro (h | h)
      · omega
      · exact h
    · exact .inr
theorem shl_small {a : U2} (ha : W2 a) {n : Nat} (h0 : 0 < n) (hn : n < 64) {b : U2} {m : Int} (hr : u2_Shl_L0_r (0, 0) (m, b.hi, b.lo) = some (.inl ((n : Int), a.hi, a.lo))) :
    u2_Shl_s b m = true ∧ W2 (u2_Shl b m) ∧ n2 (u2_Shl b m) = n2 a * 2 ^ n % 340282366920938463463374607431768211456 := by
  obtain ⟨ahi, alo⟩ := a
  obtain ⟨h1, h2⟩ := ha
  simp only at h1 h2 hr
  obtain ⟨hi, rfl⟩ := Int.eq_ofNat_of_zero_le h1.1
  obtain ⟨lo, rfl⟩ := Int.eq_ofNat_of_zero_le h2.1
  have b1 := h1.2
  have b2 := h2.2
  obtain ⟨c1, c2⟩ := shl_core (hi := hi) (lo := lo) (by omega) (by omega) h0 hn
  have w1 : IntKind.i64.wrap (64 - (n : Int)) = ((64 - n : Nat) : Int) := by rw [w64 (by omega) (by omega)]; omega
  have hv : u2_Shl_L0_v (0, 0) (m, b.hi, b.lo) = ((n : Int), (hi : Int), (lo : Int)) := by unfold u2_Shl_L0_v; rw [hr]; rfl
  have ht : u2_Shl_L0_rt (0, 0) (m, b.hi, b.lo) = false := by unfold u2_Shl_L0_rt; rw [hr]; rfl
  have ho : u2_Shl_L0_ok (0, 0) (m, b.hi, b.lo) = true := by unfold u2_Shl_L0_ok; rw [hr]; rfl
  have x1 : hi * 2 ^ n % 18446744073709551616 < 18446744073709551616 := Nat.mod_lt _ (by decide)
  have x2 : lo / 2 ^ (64 - n) < 18446744073709551616 := Nat.lt_of_le_of_lt (Nat.div_le_self _ _) (by omega)
  have x3 : lo * 2 ^ n % 18446744073709551616 < 18446744073709551616 := Nat.mod_lt _ (by decide)
  simp only [u2_Shl, u2_Shl_s, u2_Shl_t, u2_Shl_T, Tr.val, Tr.safe, ho, ht, hv, w1, shl_nat _ n (by omega), shr_nat lo (64 - n) (by omega), bits_or x1 x2]
  rw [decide_eq_false (show ¬ (n : Int) ≤ 0 by omega), decide_eq_true (show (0 : Int) ≤ (n : Int) by omega), decide_eq_true (show (0 : Int) ≤ ((64 - n : Nat) : Int) by omega)]
  unfold W2 Wd n2
  simp only [cond_false, Int.toNat_natCast]
  refine ⟨rfl, ⟨?_, ?_⟩, c2⟩ <;> omega
theorem wd0 : Wd 0 := by unfold Wd; omega
theorem mul4N (c d : Nat) : 18446744073709551616 * c * (18446744073709551616 * d) = 340282366920938463463374607431768211456 * (c * d) := by
  rw [Nat.mul_mul_mul_comm]
theorem n2_lt {a : U2} (ha : W2 a) : n2 a < 340282366920938463463374607431768211456 := by
  obtain ⟨h1, h2⟩ := ha
  unfold Wd n2 at *
  omega
/-- the loop of Shl, its rounds one by one -/
theorem shl_L0_end {hi lo : Int} {n : Nat} (h : n < 64) (k : Nat) : runL (u2_Shl_L0_step (0, 0)) (k + 1) ((n : Int), hi, lo) = some (.inl ((n : Int), hi, lo)) := by
  rw [runL]
  simp only [u2_Shl_L0_step, u2_Shl_L0_T, Tr.val, Tr.safe, decide_eq_false (show ¬ (n : Int) ≥ 64 by omega)]
  rfl
theorem shl_L0_zero {hi : Int} {n : Nat} (h : 64 ≤ n) (k : Nat) : runL (u2_Shl_L0_step (0, 0)) (k + 1) ((n : Int), hi, 0) = some (.inr (0, 0)) := by
  rw [runL]
  simp only [u2_Shl_L0_step, u2_Shl_L0_T, Tr.val, Tr.safe, decide_eq_true (show (n : Int) ≥ 64 by omega)]
  rfl
theorem shl_L0_next {hi lo : Int} {n : Nat} (h : 64 ≤ n) (hb : n < 9223372036854775808) (hl : lo ≠ 0) (k : Nat) : runL (u2_Shl_L0_step (0, 0)) (k + 1) ((n : Int), hi, lo) = runL (u2_Shl_L0_step (0, 0)) k (((n - 64 : Nat) : Int), lo, 0) := by
  have w : IntKind.i64.wrap ((n : Int) - 64) = ((n - 64 : Nat) : Int) := by rw [w64 (by omega) (by omega)]; omega
  rw [runL]
  simp only [u2_Shl_L0_step, u2_Shl_L0_T, Tr.val, Tr.safe, decide_eq_true (show (n : Int) ≥ 64 by omega), beq_eq_false_iff_ne.2 hl, w]
  rfl
theorem shl_ret {b : U2} {m : Int} (hr : u2_Shl_L0_r (0, 0) (m, b.hi, b.lo) = some (.inr (0, 0))) : u2_Shl_s b m = true ∧ u2_Shl b m = ⟨0, 0⟩ := by
  have ht : u2_Shl_L0_rt (0, 0) (m, b.hi, b.lo) = true := by unfold u2_Shl_L0_rt; rw [hr]; rfl
  have ho : u2_Shl_L0_ok (0, 0) (m, b.hi, b.lo) = true := by unfold u2_Shl_L0_ok; rw [hr]; rfl
  have hv : u2_Shl_L0_rv (0, 0) (m, b.hi, b.lo) = (0, 0) := by unfold u2_Shl_L0_rv; rw [hr]; rfl
  simp only [u2_Shl, u2_Shl_s, u2_Shl_t, u2_Shl_T, Tr.val, Tr.safe, ho, ht, hv]
  exact ⟨rfl, rfl⟩
theorem shl_none {a b : U2} {m : Int} (hr : u2_Shl_L0_r (0, 0) (m, b.hi, b.lo) = some (.inl (0, a.hi, a.lo))) : u2_Shl_s b m = true ∧ u2_Shl b m = a := by
  have ht : u2_Shl_L0_rt (0, 0) (m, b.hi, b.lo) = false := by unfold u2_Shl_L0_rt; rw [hr]; rfl
  have ho : u2_Shl_L0_ok (0, 0) (m, b.hi, b.lo) = true := by unfold u2_Shl_L0_ok; rw [hr]; rfl
  have hv : u2_Shl_L0_v (0, 0) (m, b.hi, b.lo) = (0, a.hi, a.lo) := by unfold u2_Shl_L0_v; rw [hr]; rfl
  have hd : decide ((0 : Int) ≤ 0) = true := rfl
  simp only [u2_Shl, u2_Shl_s, u2_Shl_t, u2_Shl_T, Tr.val, Tr.safe, ho, ht, hv, hd]
  exact ⟨rfl, rfl⟩
theorem ushl_spec {a : U2} (ha : W2 a) {n : Nat} (hn : n < 9223372036854775808) : u2_Shl_s a (n : Int) = true ∧ W2 (u2_Shl a (n : Int)) ∧ n2 (u2_Shl a (n : Int)) = n2 a * 2 ^ n % 340282366920938463463374607431768211456 := by
  have hz : W2 ⟨0, 0⟩ ∧ n2 ⟨0, 0⟩ = 0 := ⟨⟨wd0, wd0⟩, rfl⟩
  have p64 : (2 : Nat) ^ 64 = 18446744073709551616 := by decide
  rcases Nat.lt_or_ge n 64 with h | h
  · rcases Nat.eq_zero_or_pos n with h0 | h0
    · subst h0
      obtain ⟨k1, k2⟩ := shl_none (a := a) (b := a) (m := ((0 : Nat) : Int)) (runB_of (shl_L0_end (n := 0) (by omega) 0) (by omega))
      rw [k2]
      exact ⟨k1, ha, by rw [Nat.pow_zero, Nat.mul_one, Nat.mod_eq_of_lt (n2_lt ha)]⟩
    · exact shl_small ha h0 h (runB_of (shl_L0_end h 0) (by omega))
  · have ep : 2 ^ n = 18446744073709551616 * 2 ^ (n - 64) := by rw [← p64, ← Nat.pow_add, Nat.add_sub_cancel' h]
    obtain ⟨ahi, alo⟩ := a
    obtain ⟨w1, w2⟩ := ha
    simp only at w1 w2
    by_cases hl : alo = 0
    · subst hl
      obtain ⟨k1, k2⟩ := shl_ret (b := ⟨ahi, 0⟩) (m := (n : Int)) (runB_of (shl_L0_zero h 0) (by omega))
      rw [k2]
      refine ⟨k1, hz.1, ?_⟩
      have : n2 ⟨ahi, 0⟩ * 2 ^ n = 340282366920938463463374607431768211456 * (ahi.toNat * 2 ^ (n - 64)) := by
        unfold n2
        simp only [Int.toNat_zero, Nat.zero_add]
        rw [ep, mul4N]
      rw [this, Nat.mul_mod_right]; exact hz.2
    · have hw : W2 ⟨alo, 0⟩ := ⟨w2, wd0⟩
      have hmod : n2 ⟨ahi, alo⟩ * 2 ^ n % 340282366920938463463374607431768211456 = n2 ⟨alo, 0⟩ * 2 ^ (n - 64) % 340282366920938463463374607431768211456 := by
        have : n2 ⟨ahi, alo⟩ * 2 ^ n = n2 ⟨alo, 0⟩ * 2 ^ (n - 64) + 340282366920938463463374607431768211456 * (ahi.toNat * 2 ^ (n - 64)) := by
          unfold n2
          simp only [Int.toNat_zero, Nat.zero_add]
          rw [ep, Nat.add_mul, mul4N, Nat.mul_left_comm, Nat.mul_assoc]
        rw [this, Nat.add_mul_mod_self_left]
      rw [hmod]
      rcases Nat.lt_or_ge (n - 64) 64 with h2 | h2
      · rcases Nat.eq_zero_or_pos (n - 64) with h0 | h0
        · have hr := runB_of (n := 2) (step := u2_Shl_L0_step (0, 0)) (i := ((n : Int), ahi, alo)) (r := .inl (0, alo, 0)) (by
            rw [shl_L0_next h hn hl 1, h0]; exact shl_L0_end (n := 0) (by omega) 0) (by omega)
          obtain ⟨k1, k2⟩ := shl_none (a := ⟨alo, 0⟩) (b := ⟨ahi, alo⟩) (m := (n : Int)) hr
          rw [k2, h0]
          exact ⟨k1, hw, by rw [Nat.pow_zero, Nat.mul_one, Nat.mod_eq_of_lt (n2_lt hw)]⟩
        · have hr := runB_of (n := 2) (step := u2_Shl_L0_step (0, 0)) (i := ((n : Int), ahi, alo)) (r := .inl (((n - 64 : Nat) : Int), alo, 0)) (by
            rw [shl_L0_next h hn hl 1]; exact shl_L0_end h2 0) (by omega)
          exact shl_small (a := ⟨alo, 0⟩) (b := ⟨ahi, alo⟩) hw h0 h2 hr
      · have hr := runB_of (n := 2) (step := u2_Shl_L0_step (0, 0)) (i := ((n : Int), ahi, alo)) (r := .inr (0, 0)) (by
          rw [shl_L0_next h hn hl 1]; exact shl_L0_zero h2 0) (by omega)
        obtain ⟨k1, k2⟩ := shl_ret (b := ⟨ahi, alo⟩) (m := (n : Int)) hr
        rw [k2]
        refine ⟨k1, hz.1, ?_⟩
        have ep2 : 2 ^ (n - 64) = 18446744073709551616 * 2 ^ (n - 64 - 64) := by rw [← p64, ← Nat.pow_add, Nat.add_sub_cancel' h2]
        have : n2 ⟨alo, 0⟩ * 2 ^ (n - 64) = 340282366920938463463374607431768211456 * (alo.toNat * 2 ^ (n - 64 - 64)) := by
          unfold n2
          simp only [Int.toNat_zero, Nat.zero_add]
          rw [ep2, mul4N]
        rw [this, Nat.mul_mod_right]; exact hz.2
end Go.Fb
namespace Go.Fb
open Go.Ev
section
variable (z : Bool × Int × Int)
theorem shr_L0_end {hi lo : Int} {l : Bool} {n : Nat} (h : n < 64) (k : Nat) : runL (u2_Shr_L0_step z) (k + 1) ((n : Int), l, hi, lo) = some (.inl ((n : Int), l, hi, lo)) := by
  rw [runL]
  simp only [u2_Shr_L0_step, u2_Shr_L0_T, Tr.val, Tr.safe, decide_eq_false (show ¬ (n : Int) ≥ 64 by omega)]
  rfl
theorem shr_L0_zero {lo : Int} {l : Bool} {n : Nat} (h : 64 ≤ n) (k : Nat) : runL (u2_Shr_L0_step z) (k + 1) ((n : Int), l, 0, lo) = some (.inr (l || lo != 0, 0, 0)) := by
  rw [runL]
  simp only [u2_Shr_L0_step, u2_Shr_L0_T, Tr.val, Tr.safe, decide_eq_true (show (n : Int) ≥ 64 by omega)]
  cases l <;> rfl
theorem shr_L0_next {hi lo : Int} {l : Bool} {n : Nat} (h : 64 ≤ n) (hb : n < 9223372036854775808) (hl : hi ≠ 0) (k : Nat) : runL (u2_Shr_L0_step z) (k + 1) ((n : Int), l, hi, lo) = runL (u2_Shr_L0_step z) k (((n - 64 : Nat) : Int), l || lo != 0, 0, hi) := by
  have w : IntKind.i64.wrap ((n : Int) - 64) = ((n - 64 : Nat) : Int) := by rw [w64 (by omega) (by omega)]; omega
  rw [runL]
  simp only [u2_Shr_L0_step, u2_Shr_L0_T, Tr.val, Tr.safe, decide_eq_true (show (n : Int) ≥ 64 by omega), beq_eq_false_iff_ne.2 hl, w]
  cases l <;> rfl
end
theorem shr_ret {b : U2} {m : Int} {l : Bool} (hr : u2_Shr_L0_r (false, 0, 0) (m, false, b.hi, b.lo) = some (.inr (l, 0, 0))) : u2_Shr_s b m = true ∧ u2_Shr b m = (⟨0, 0⟩, l) := by
  have ht : u2_Shr_L0_rt (false, 0, 0) (m, false, b.hi, b.lo) = true := by unfold u2_Shr_L0_rt; rw [hr]; rfl
  have ho : u2_Shr_L0_ok (false, 0, 0) (m, false, b.hi, b.lo) = true := by unfold u2_Shr_L0_ok; rw [hr]; rfl
  have hv : u2_Shr_L0_rv (false, 0, 0) (m, false, b.hi, b.lo) = (l, 0, 0) := by unfold u2_Shr_L0_rv; rw [hr]; rfl
  simp only [u2_Shr, u2_Shr_s, u2_Shr_t, u2_Shr_T, Tr.val, Tr.safe, ho, ht, hv]
  exact ⟨rfl, rfl⟩
theorem shr_none {a b : U2} {m : Int} {l : Bool} (hr : u2_Shr_L0_r (false, 0, 0) (m, false, b.hi, b.lo) = some (.inl (0, l, a.hi, a.lo))) : u2_Shr_s b m = true ∧ u2_Shr b m = (a, l) := by
  have ht : u2_Shr_L0_rt (false, 0, 0) (m, false, b.hi, b.lo) = false := by unfold u2_Shr_L0_rt; rw [hr]; rfl
  have ho : u2_Shr_L0_ok (false, 0, 0) (m, false, b.hi, b.lo) = true := by unfold u2_Shr_L0_ok; rw [hr]; rfl
  have hv : u2_Shr_L0_v (false, 0, 0) (m, false, b.hi, b.lo) = (0, l, a.hi, a.lo) := by unfold u2_Shr_L0_v; rw [hr]; rfl
  have hd : decide ((0 : Int) ≤ 0) = true := rfl
  simp only [u2_Shr, u2_Shr_s, u2_Shr_t, u2_Shr_T, Tr.val, Tr.safe, ho, ht, hv, hd]
  exact ⟨rfl, rfl⟩
theorem shr_small {a : U2} (ha : W2 a) {n : Nat} (h0 : 0 < n) (hn : n < 64) {b : U2} {m : Int} {l : Bool} (hr : u2_Shr_L0_r (false, 0, 0) (m, false, b.hi, b.lo) = some (.inl ((n : Int), l, a.hi, a.lo))) :
    u2_Shr_s b m = true ∧ W2 (u2_Shr b m).1 ∧ n2 (u2_Shr b m).1 = n2 a / 2 ^ n ∧ (u2_Shr b m).2 = (l || decide (n2 a % 2 ^ n ≠ 0)) := by
  obtain ⟨ahi, alo⟩ := a
  obtain ⟨h1, h2⟩ := ha
  simp only at h1 h2 hr
  obtain ⟨hi, rfl⟩ := Int.eq_ofNat_of_zero_le h1.1
  obtain ⟨lo, rfl⟩ := Int.eq_ofNat_of_zero_le h2.1
  have b1 := h1.2
  have b2 := h2.2
  obtain ⟨c1, c2, c3⟩ := shr_core (hi := hi) (lo := lo) (by omega) (by omega) h0 hn
  have w1 : IntKind.i64.wrap (64 - (n : Int)) = ((64 - n : Nat) : Int) := by rw [w64 (by omega) (by omega)]; omega
  have hv : u2_Shr_L0_v (false, 0, 0) (m, false, b.hi, b.lo) = ((n : Int), l, (hi : Int), (lo : Int)) := by unfold u2_Shr_L0_v; rw [hr]; rfl
  have ht : u2_Shr_L0_rt (false, 0, 0) (m, false, b.hi, b.lo) = false := by unfold u2_Shr_L0_rt; rw [hr]; rfl
  have ho : u2_Shr_L0_ok (false, 0, 0) (m, false, b.hi, b.lo) = true := by unfold u2_Shr_L0_ok; rw [hr]; rfl
  have x1 : hi * 2 ^ (64 - n) % 18446744073709551616 < 18446744073709551616 := Nat.mod_lt _ (by decide)
  have x2 : lo / 2 ^ n < 18446744073709551616 := Nat.lt_of_le_of_lt (Nat.div_le_self _ _) (by omega)
  have x3 : hi / 2 ^ n < 18446744073709551616 := Nat.lt_of_le_of_lt (Nat.div_le_self _ _) (by omega)
  have x4 : ((((lo * 2 ^ (64 - n) % 18446744073709551616 : Nat) : Int)) != 0) = decide ((lo + 18446744073709551616 * hi) % 2 ^ n ≠ 0) := by
    by_cases hz : lo * 2 ^ (64 - n) % 18446744073709551616 ≠ 0
    · rw [decide_eq_true (c3.1 hz)]
      exact bne_iff_ne.2 (by omega)
    · rw [decide_eq_false (fun h => hz (c3.2 h))]
      have : lo * 2 ^ (64 - n) % 18446744073709551616 = 0 := by omega
      rw [this]; rfl
  simp only [u2_Shr, u2_Shr_s, u2_Shr_t, u2_Shr_T, Tr.val, Tr.safe, ho, ht, hv, w1, shl_nat _ (64 - n) (by omega), shr_nat _ n (by omega), bits_or x2 x1, x4]
  rw [decide_eq_false (show ¬ (n : Int) ≤ 0 by omega), decide_eq_true (show (0 : Int) ≤ (n : Int) by omega), decide_eq_true (show (0 : Int) ≤ ((64 - n : Nat) : Int) by omega)]
  unfold W2 Wd n2
  cases l
  · simp only [cond_false, Int.toNat_natCast]
    refine ⟨rfl, ⟨?_, ?_⟩, c2, ?_⟩
    · omega
    · omega
    · rw [Bool.false_or]
  · simp only [cond_false, cond_true, Int.toNat_natCast]
    refine ⟨rfl, ⟨?_, ?_⟩, c2, rfl⟩ <;> omega
theorem ushr_spec {a : U2} (ha : W2 a) {n : Nat} (hn : n < 9223372036854775808) : u2_Shr_s a (n : Int) = true ∧ W2 (u2_Shr a (n : Int)).1 ∧ n2 (u2_Shr a (n : Int)).1 = n2 a / 2 ^ n ∧ (u2_Shr a (n : Int)).2 = decide (n2 a % 2 ^ n ≠ 0) := by
  have hz : W2 ⟨0, 0⟩ ∧ n2 ⟨0, 0⟩ = 0 := ⟨⟨wd0, wd0⟩, rfl⟩
  have p64 : (2 : Nat) ^ 64 = 18446744073709551616 := by decide
  have hlt := n2_lt ha
  rcases Nat.lt_or_ge n 64 with h | h
  · rcases Nat.eq_zero_or_pos n with h0 | h0
    · subst h0
      obtain ⟨k1, k2⟩ := shr_none (a := a) (b := a) (m := ((0 : Nat) : Int)) (l := false) (runB_of (shr_L0_end _ (n := 0) (by omega) 0) (by omega))
      rw [k2]
      exact ⟨k1, ha, by simp, by simp [Nat.mod_one]⟩
    · obtain ⟨k1, k2, k3, k4⟩ := shr_small ha h0 h (b := a) (m := (n : Int)) (l := false) (runB_of (shr_L0_end _ h 0) (by omega))
      exact ⟨k1, k2, k3, by rw [k4, Bool.false_or]⟩
  · have ep : 2 ^ n = 18446744073709551616 * 2 ^ (n - 64) := by rw [← p64, ← Nat.pow_add, Nat.add_sub_cancel' h]
    obtain ⟨ahi, alo⟩ := a
    obtain ⟨w1, w2⟩ := ha
    simp only at w1 w2
    obtain ⟨hi, rfl⟩ := Int.eq_ofNat_of_zero_le w1.1
    obtain ⟨lo, rfl⟩ := Int.eq_ofNat_of_zero_le w2.1
    have b1 := w1.2
    have b2 := w2.2
    have en : n2 ⟨(hi : Int), (lo : Int)⟩ = lo + 18446744073709551616 * hi := rfl
    rw [en] at hlt ⊢
    have hd : (lo + 18446744073709551616 * hi) / 2 ^ n = hi / 2 ^ (n - 64) := by
      rw [ep, ← Nat.div_div_eq_div_mul]
      congr 1; omega
    have hm : (lo + 18446744073709551616 * hi) % 2 ^ n = lo + 18446744073709551616 * (hi % 2 ^ (n - 64)) := by
      rw [ep, Nat.mod_mul]
      have e1 : (lo + 18446744073709551616 * hi) % 18446744073709551616 = lo := by omega
      have e2 : (lo + 18446744073709551616 * hi) / 18446744073709551616 = hi := by omega
      rw [e1, e2]
    have hlo : ((lo : Int) != 0) = decide (lo ≠ 0) := by
      by_cases hz : lo = 0
      · subst hz; rfl
      · rw [decide_eq_true hz]; exact bne_iff_ne.2 (by omega)
    rw [hd, hm]
    by_cases hh : hi = 0
    · subst hh
      obtain ⟨k1, k2⟩ := shr_ret (b := ⟨((0 : Nat) : Int), (lo : Int)⟩) (m := (n : Int)) (runB_of (shr_L0_zero _ h 0) (by omega))
      rw [k2]
      refine ⟨k1, hz.1, by simp; exact hz.2, ?_⟩
      rw [Bool.false_or, hlo]
      by_cases q : lo = 0 <;> simp [q]
    · have hw : W2 ⟨0, (hi : Int)⟩ := ⟨wd0, w1⟩
      have hhi : (hi : Int) ≠ 0 := by omega
      have e0 : n2 ⟨0, (hi : Int)⟩ = hi := by unfold n2; simp
      have hls : ∀ q : Nat, (decide (lo ≠ 0) || decide (q ≠ 0)) = decide (lo + 18446744073709551616 * q ≠ 0) := fun q => by
        by_cases h1 : lo = 0 <;> by_cases h2 : q = 0 <;> simp [h1, h2] <;> omega
      rcases Nat.lt_or_ge (n - 64) 64 with h2 | h2
      · rcases Nat.eq_zero_or_pos (n - 64) with h0 | h0
        · have hr := runB_of (n := 2) (step := u2_Shr_L0_step (false, 0, 0)) (i := ((n : Int), false, (hi : Int), (lo : Int))) (r := .inl (0, false || (lo : Int) != 0, 0, (hi : Int))) (by
            rw [shr_L0_next _ h hn hhi 1, h0]; exact shr_L0_end _ (n := 0) (by omega) 0) (by omega)
          obtain ⟨k1, k2⟩ := shr_none (a := ⟨0, (hi : Int)⟩) (b := ⟨(hi : Int), (lo : Int)⟩) (m := (n : Int)) hr
          rw [k2, h0]
          refine ⟨k1, hw, by simp [e0], ?_⟩
          rw [Bool.false_or, hlo]; simp [Nat.mod_one]
        · have hr := runB_of (n := 2) (step := u2_Shr_L0_step (false, 0, 0)) (i := ((n : Int), false, (hi : Int), (lo : Int))) (r := .inl (((n - 64 : Nat) : Int), false || (lo : Int) != 0, 0, (hi : Int))) (by
            rw [shr_L0_next _ h hn hhi 1]; exact shr_L0_end _ h2 0) (by omega)
          obtain ⟨k1, k2, k3, k4⟩ := shr_small (a := ⟨0, (hi : Int)⟩) (b := ⟨(hi : Int), (lo : Int)⟩) hw h0 h2 hr
          rw [e0] at k3 k4
          exact ⟨k1, k2, k3, by rw [k4, Bool.false_or, hlo, hls]⟩
      · have hr := runB_of (n := 2) (step := u2_Shr_L0_step (false, 0, 0)) (i := ((n : Int), false, (hi : Int), (lo : Int))) (r := .inr ((false || (lo : Int) != 0) || (hi : Int) != 0, 0, 0)) (by
          rw [shr_L0_next _ h hn hhi 1]; exact shr_L0_zero _ h2 0) (by omega)
        obtain ⟨k1, k2⟩ := shr_ret (b := ⟨(hi : Int), (lo : Int)⟩) (m := (n : Int)) hr
        have hp : hi < 2 ^ (n - 64) := Nat.lt_of_lt_of_le (show hi < 2 ^ 64 by omega) (Nat.pow_le_pow_right (by decide) h2)
        rw [k2, Nat.div_eq_of_lt hp, Nat.mod_eq_of_lt hp]
        refine ⟨k1, hz.1, hz.2, ?_⟩
        rw [bne_iff_ne.2 hhi, Bool.or_true, decide_eq_true (by omega)]
end Go.Fb
namespace Go.Fb
open Go.Ev
end Go.Fb
namespace Go.Fb
open Go.Ev
end Go.Fb
namespace Go.Fb
open Go.Ev
end Go.Fb
namespace Go.Fb
open Go.Ev
end Go.Fb
namespace Go.Fb
open Go.Ev
end Go.Fb
namespace Go.Fb
open Go.Ev
end Go.Fb
namespace Go.Fb
open Go.Ev
theorem lenIs_le {n l m : Nat} (h : LenIs n l) (hn : n < 2 ^ m) : l ≤ m := by
  rcases h.2 with h' | h'
  · omega
  · rcases Nat.lt_or_ge m l with h2 | h2
    · have : 2 ^ m ≤ 2 ^ (l - 1) := Nat.pow_le_pow_right (by decide) (by omega)
      omega
    · exact h2
end Go.Fb
namespace Go.Fb
open Go.Ev
end Go.Fb
namespace Go.Fb
open Go.Ev
end Go.Fb
namespace Go.Fb
open Go.Ev
end Go.Fb
namespace Go.Fb
open Go.Ev
theorem lenIs_zero : LenIs 0 0 := ⟨by decide, .inl rfl⟩
end Go.Fb
namespace Go.Fb
open Go.Ev
end Go.Fb
namespace Go.Fb
open Go.Ev
/-- a row of two words -/
def row2 (r : List Cv) : U2 := ⟨(r.headD (.i 0)).int, (r.tail.headD (.i 0)).int⟩
def ok2 (l : List (List Cv)) : Prop := ∀ r ∈ l, W2 (row2 r)
end Go.Fb
namespace Go.Fb
open Go.Ev
end Go.Fb
namespace Go.Fb
open Go.Ev
end Go.Fb
