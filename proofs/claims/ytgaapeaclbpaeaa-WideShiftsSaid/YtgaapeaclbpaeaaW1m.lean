/- Contracts and laws of functions of the program, on the way to the claim. Conditions: as each theorem states. -/
import Derived.Test.YtgaapeaclbpaeaaW1k
namespace Go.Fb
open Go.Ev

/-! ### How long a number is -/
def LenIs (n l : Nat) : Prop := n < 2 ^ l ∧ (l = 0 ∨ 2 ^ (l - 1) ≤ n)
theorem LenIs.unique {n l m : Nat} (h1 : LenIs n l) (h2 : LenIs n m) : l = m := by
  have key : ∀ {a b : Nat}, LenIs n a → LenIs n b → a ≤ b := fun {a b} ha hb => by
    rcases ha.2 with h | h
    · omega
    · rcases Nat.lt_or_ge b a with h' | h'
      · have : 2 ^ b ≤ 2 ^ (a - 1) := Nat.pow_le_pow_right (by decide) (by omega)
        have := hb.1
        omega
      · exact h'
  exact Nat.le_antisymm (key h1 h2) (key h2 h1)
theorem LenIs.shift {n k l : Nat} (h0 : 0 < n / 2 ^ k) (h : LenIs (n / 2 ^ k) l) : LenIs n (k + l) := by
  have hp : 0 < 2 ^ k := Nat.pow_pos (by decide)
  refine ⟨?_, .inr ?_⟩
  · rw [Nat.pow_add, Nat.mul_comm]
    exact (Nat.div_lt_iff_lt_mul hp).1 h.1
  · rcases h.2 with h2 | h2
    · subst h2; have := h.1; rw [Nat.pow_zero] at this; omega
    · have hl : l ≠ 0 := by
        intro e; subst e; have := h.1; rw [Nat.pow_zero] at this; omega
      rw [show k + l - 1 = (l - 1) + k by omega, Nat.pow_add]
      exact (Nat.le_div_iff_mul_le hp).1 h2
def len8n (n : Nat) : Nat := (len8.data.getD n 0).toNat
theorem len8_tab : ∀ n : Fin 256, n.val < 2 ^ len8n n.val ∧ (len8n n.val = 0 ∨ 2 ^ (len8n n.val - 1) ≤ n.val) ∧ len8n n.val ≤ 8 := by decide +kernel
theorem len8_is {n : Nat} (h : n < 256) : LenIs n (len8n n) ∧ len8n n ≤ 8 := by
  have := len8_tab ⟨n, h⟩
  exact ⟨⟨this.1, this.2.1⟩, this.2.2⟩
theorem u8i {n : Nat} (h : n < 256) : IntKind.u8.wrap (n : Int) = (n : Int) := by
  simp [IntKind.wrap, IntKind.bits, IntKind.signed]; omega
theorem len64_spec {k : Nat} (hk : k < 18446744073709551616) : ∃ l : Nat, bits_Len64 (k : Int) = (l : Int) ∧ LenIs k l ∧ l ≤ 64 := by
  have st : ∀ m : Nat, strAt len8 (m : Int) = (len8n m : Int) := fun m => rfl
  have s8 : ∀ m : Nat, shrI .u64 (m : Int) 8 = ((m / 256 : Nat) : Int) := fun m => shr_nat m 8 (by decide)
  have s16 : ∀ m : Nat, shrI .u64 (m : Int) 16 = ((m / 65536 : Nat) : Int) := fun m => shr_nat m 16 (by decide)
  have s32 : ∀ m : Nat, shrI .u64 (m : Int) 32 = ((m / 4294967296 : Nat) : Int) := fun m => shr_nat m 32 (by decide)
  have e : bits_Len64 (k : Int) = (bits_Len64_t (k : Int)).val := rfl
  rw [e]
  simp only [bits_Len64_t, bits_Len64_T, Tr.val, s32, s16, s8]
  have fin : ∀ (c : Nat) (m : Nat), m < 256 → c ≤ 56 → IntKind.i64.wrap ((c : Int) + IntKind.i64.wrap (strAt len8 (m : Int))) = ((c + len8n m : Nat) : Int) := fun c m hm hc => by
    have := (len8_is hm).2
    rw [st, w64 (n := (len8n m : Int)) (by omega) (by omega), w64 (by omega) (by omega)]
    omega
  have res : ∀ (c : Nat), k / 2 ^ c < 256 → (c = 0 ∨ 0 < k / 2 ^ c) → c ≤ 56 → LenIs k (c + len8n (k / 2 ^ c)) ∧ c + len8n (k / 2 ^ c) ≤ 64 := fun c hm h0 hc => by
    obtain ⟨h1, h2⟩ := len8_is hm
    refine ⟨?_, by omega⟩
    rcases h0 with rfl | h0
    · simpa using h1
    · exact LenIs.shift h0 h1
  by_cases c1 : (k : Int) ≥ 4294967296
  · rw [decide_eq_true c1]
    simp only [cond_true]
    by_cases c2 : ((k / 4294967296 : Nat) : Int) ≥ 65536
    · rw [decide_eq_true c2]
      simp only [cond_true]
      by_cases c3 : ((k / 4294967296 / 65536 : Nat) : Int) ≥ 256
      · rw [decide_eq_true c3]
        have hm : k / 4294967296 / 65536 / 256 < 256 := by omega
        have := res 56 (by omega) (.inr (by omega)) (by omega)
        refine ⟨56 + len8n (k / 2 ^ 56), ?_, this⟩
        simp only [cond_true]
        rw [u8i hm, show IntKind.i64.wrap (IntKind.i64.wrap (32 + 16) + 8) = ((56 : Nat) : Int) from rfl, fin 56 _ hm (by omega), show k / 4294967296 / 65536 / 256 = k / 2 ^ 56 by omega]
      · rw [decide_eq_false c3]
        have hm : k / 4294967296 / 65536 < 256 := by omega
        have := res 48 (by omega) (.inr (by omega)) (by omega)
        refine ⟨48 + len8n (k / 2 ^ 48), ?_, this⟩
        simp only [cond_false]
        rw [u8i hm, show IntKind.i64.wrap (32 + 16) = ((48 : Nat) : Int) from rfl, fin 48 _ hm (by omega), show k / 4294967296 / 65536 = k / 2 ^ 48 by omega]
    · rw [decide_eq_false c2]
      simp only [cond_false]
      by_cases c3 : ((k / 4294967296 : Nat) : Int) ≥ 256
      · rw [decide_eq_true c3]
        have hm : k / 4294967296 / 256 < 256 := by omega
        have := res 40 (by omega) (.inr (by omega)) (by omega)
        refine ⟨40 + len8n (k / 2 ^ 40), ?_, this⟩
        simp only [cond_true]
        rw [u8i hm, show IntKind.i64.wrap (32 + 8) = ((40 : Nat) : Int) from rfl, fin 40 _ hm (by omega), show k / 4294967296 / 256 = k / 2 ^ 40 by omega]
      · rw [decide_eq_false c3]
        have hm : k / 4294967296 < 256 := by omega
        have := res 32 (by omega) (.inr (by omega)) (by omega)
        refine ⟨32 + len8n (k / 2 ^ 32), ?_, this⟩
        simp only [cond_false]
        rw [u8i hm, show (32 : Int) = ((32 : Nat) : Int) from rfl, fin 32 _ hm (by omega)]
  · rw [decide_eq_false c1]
    simp only [cond_false]
    by_cases c2 : (k : Int) ≥ 65536
    · rw [decide_eq_true c2]
      simp only [cond_true]
      by_cases c3 : ((k / 65536 : Nat) : Int) ≥ 256
      · rw [decide_eq_true c3]
        have hm : k / 65536 / 256 < 256 := by omega
        have := res 24 (by omega) (.inr (by omega)) (by omega)
        refine ⟨24 + len8n (k / 2 ^ 24), ?_, this⟩
        simp only [cond_true]
        rw [u8i hm, show IntKind.i64.wrap (IntKind.i64.wrap (0 + 16) + 8) = ((24 : Nat) : Int) from rfl, fin 24 _ hm (by omega), show k / 65536 / 256 = k / 2 ^ 24 by omega]
      · rw [decide_eq_false c3]
        have hm : k / 65536 < 256 := by omega
        have := res 16 (by omega) (.inr (by omega)) (by omega)
        refine ⟨16 + len8n (k / 2 ^ 16), ?_, this⟩
        simp only [cond_false]
        rw [u8i hm, show IntKind.i64.wrap (0 + 16) = ((16 : Nat) : Int) from rfl, fin 16 _ hm (by omega)]
    · rw [decide_eq_false c2]
      simp only [cond_false]
      by_cases c3 : (k : Int) ≥ 256
      · rw [decide_eq_true c3]
        have hm : k / 256 < 256 := by omega
        have := res 8 (by omega) (.inr (by omega)) (by omega)
        refine ⟨8 + len8n (k / 2 ^ 8), ?_, this⟩
        simp only [cond_true]
        rw [u8i hm, show IntKind.i64.wrap (0 + 8) = ((8 : Nat) : Int) from rfl, fin 8 _ hm (by omega)]
      · rw [decide_eq_false c3]
        have hm : k < 256 := by omega
        have := res 0 (by omega) (.inl rfl) (by omega)
        refine ⟨0 + len8n (k / 2 ^ 0), ?_, this⟩
        simp only [cond_false]
        rw [u8i hm, show (0 : Int) = ((0 : Nat) : Int) from rfl, fin 0 _ hm (by omega)]
        simp
theorem ulen_spec {a : U2} (ha : W2 a) : ∃ l : Nat, u2_Len a = (l : Int) ∧ LenIs (n2 a) l := by
  obtain ⟨ahi, alo⟩ := a
  obtain ⟨h1, h2⟩ := ha
  simp only at h1 h2
  obtain ⟨hi, rfl⟩ := Int.eq_ofNat_of_zero_le h1.1
  obtain ⟨lo, rfl⟩ := Int.eq_ofNat_of_zero_le h2.1
  have b1 := h1.2
  have b2 := h2.2
  simp only [u2_Len, u2_Len_t, u2_Len_T, Tr.val, n2, Int.toNat_natCast]
  by_cases h : (hi : Int) > 0
  · rw [decide_eq_true h]
    obtain ⟨l, e, hl, hb⟩ := len64_spec (k := hi) (by omega)
    have hd : (lo + 18446744073709551616 * hi) / 2 ^ 64 = hi := by omega
    refine ⟨64 + l, ?_, LenIs.shift (by rw [hd]; omega) (by rw [hd]; exact hl)⟩
    simp only [cond_true]
    rw [e, w64 (by omega) (by omega)]
    omega
  · rw [decide_eq_false h]
    have : hi = 0 := by omega
    subst this
    obtain ⟨l, e, hl, _⟩ := len64_spec (k := lo) (by omega)
    exact ⟨l, e, by simpa using hl⟩
theorem rlen_run (a : List Bool) (hn : a.length ≤ 1000000) (z : Int) : ∀ j : Nat, j ≤ a.length → bv a < 2 ^ j → ∃ l : Nat, runL (r1_Len_L0_step (a, z)) (j + 1) (j : Int) = some (l : Int) ∧ LenIs (bv a) l
  | 0, _, h => by
    refine ⟨0, ?_, h, .inl rfl⟩
    rw [runL]
    rfl
  | j + 1, hj, h => by
    have hp : 0 < 2 ^ j := Nat.pow_pos (by decide)
    have hbit := getD_bit a j
    have hd : bv a / 2 ^ j < 2 := (Nat.div_lt_iff_lt_mul hp).2 (by rw [Nat.pow_succ] at h; omega)
    have e1 : IntKind.i64.wrap (((j + 1 : Nat) : Int) - 1) = (j : Int) := by rw [w64 (by omega) (by omega)]; omega
    rw [runL]
    simp only [r1_Len_L0_step, r1_Len_L0_T, Tr.val, Tr.safe, e1, Int.toNat_natCast]
    rw [decide_eq_true (show ((j + 1 : Nat) : Int) > 0 by omega), decide_eq_true (show (0 : Int) ≤ (j : Int) by omega), decide_eq_true (show (j : Int) < (a.length : Int) by omega)]
    cases hb : a.getD j false <;> rw [hb] at hbit
    · simp only [Bool.toNat_false] at hbit
      exact rlen_run a hn z j (by omega) (by
        have : bv a / 2 ^ j = 0 := by
          generalize bv a / 2 ^ j = A at hbit hd
          omega
        rcases Nat.lt_or_ge (bv a) (2 ^ j) with h' | h'
        · exact h'
        · have := Nat.div_pos h' hp; omega)
    · simp only [Bool.toNat_true] at hbit
      refine ⟨j + 1, rfl, h, .inr ?_⟩
      have : 1 ≤ bv a / 2 ^ j := by
        generalize bv a / 2 ^ j = A at hbit hd
        omega
      have := (Nat.le_div_iff_mul_le hp).1 this
      simpa using this
theorem rlen_spec {a : List Bool} (hn : a.length ≤ 1000000) : r1_Len_s a = true ∧ ∃ l : Nat, r1_Len a = (l : Int) ∧ LenIs (bv a) l := by
  obtain ⟨l, h1, h2⟩ := rlen_run a hn 0 a.length (Nat.le_refl _) (bv_lt a)
  have hr : r1_Len_L0_r (a, 0) (a.length : Int) = some (l : Int) := runB_of h1 (by omega)
  simp only [r1_Len, r1_Len_s, r1_Len_t, r1_Len_T, r1_Len_L0_ok, r1_Len_L0_v, hr, Tr.val, Tr.safe, Option.isSome_some, Option.getD_some]
  exact ⟨rfl, l, rfl, h2⟩
theorem bv_take (l : List Bool) (n : Nat) (h : n ≤ l.length) : bv (l.take n) = bv l % 2 ^ n := by
  have e := bv_app (l.take n) (l.drop n)
  rw [List.take_append_drop, List.length_take, Nat.min_eq_left h] at e
  have hlt := bv_lt (l.take n)
  rw [List.length_take, Nat.min_eq_left h] at hlt
  rw [e, Nat.add_mul_mod_self_left, Nat.mod_eq_of_lt hlt]
theorem one_eq (c : Bool) : l1_one c = (c.toNat : Int) := by cases c <;> rfl
theorem WideAdds_both {a b : U2} (ha : W2 a) (hb : W2 b) : l1_WideAdds a b = true ∧ l1_WideAdds_s a b = true := by
  obtain ⟨a1, a2, a3⟩ := of_spec ha
  obtain ⟨b1, b2, b3⟩ := of_spec hb
  obtain ⟨s1, s2, s3, s4, _⟩ := add_full (a := l1_of a) (b := l1_of b) (by omega) (by omega)
  obtain ⟨d1, d2, d3⟩ := sub_spec (l1_of a) (l1_of b) (n := 128) (by omega)
  obtain ⟨u1, u2, u3, u4⟩ := uadd_spec ha hb
  obtain ⟨v1, v2, v3, v4⟩ := usub_spec ha hb
  obtain ⟨c1, c2⟩ := cmp_spec (a := l1_of a) (b := l1_of b) (by omega) (by omega)
  have uc := ucmp_spec ha hb
  obtain ⟨l1, e1, i1⟩ := ulen_spec ha
  obtain ⟨r1, l2, e2, i2⟩ := rlen_spec (a := l1_of a) (by omega)
  rw [a3] at i2
  have el := i1.unique i2
  subst el
  have hna : n2 a < 340282366920938463463374607431768211456 := by
    rw [← a3]; have := bv_lt (l1_of a); rw [a2] at this; exact this
  have hnb : n2 b < 340282366920938463463374607431768211456 := by
    rw [← b3]; have := bv_lt (l1_of b); rw [b2] at this; exact this
  have e128 : (2 : Nat) ^ 128 = 340282366920938463463374607431768211456 := by decide
  rw [a3, b3] at s2 d3 c1
  rw [e128, Nat.mod_eq_of_lt hna, Nat.mod_eq_of_lt hnb] at d3
  have hdl := bv_lt (r1_Sub (l1_of a) (l1_of b) ((128 : Nat) : Int)).1
  rw [d2, e128] at hdl
  have d128 : ((128 : Nat) : Int) = 128 := rfl
  rw [d128] at d1 d2 d3 hdl
  generalize hsum : r1_Add (l1_of a) (l1_of b) = sum at *
  generalize hdif : r1_Sub (l1_of a) (l1_of b) 128 = dif at *
  have htk : bv (sum.take 128) = (n2 a + n2 b) % 340282366920938463463374607431768211456 := by rw [bv_take _ _ (by omega), s2, e128]
  obtain ⟨x1, x2⟩ := is_spec (b := sum.take 128) u2 (by simp; omega)
  rw [u3, htk, decide_eq_true rfl] at x1
  have hdv : n2 (u2_Sub a b).1 = bv dif.1 := by
    rw [v3]
    cases hw : dif.2 <;> rw [hw] at d3 <;> simp only [Bool.toNat_true, Bool.toNat_false] at d3 <;> omega
  obtain ⟨y1, y2⟩ := is_spec (b := dif.1) v2 (by omega)
  rw [decide_eq_true hdv] at y1
  have hbor : ((u2_Sub a b).2 == l1_one dif.2) = true := by
    rw [v4, one_eq]
    cases hw : dif.2 <;> rw [hw] at d3 <;> simp only [Bool.toNat_true, Bool.toNat_false] at d3
    · rw [if_neg (by omega)]; rfl
    · rw [if_pos (by omega)]; rfl
  have hz : Int.toNat 0 = 0 := rfl
  have ht8 : Int.toNat 128 = 128 := rfl
  have huc : (u2_Cmp a b == r1_Cmp (l1_of a) (l1_of b)) = true := by rw [uc, c1]; simp
  have hul : (u2_Len a == r1_Len (l1_of a)) = true := by rw [e1, e2]; simp
  have hle : decide ((128 : Int) ≤ (sum.length : Int)) = true := decide_eq_true (by omega)
  simp only [l1_WideAdds, l1_WideAdds_s, l1_WideAdds_t, l1_WideAdds_T, Tr.val, Tr.safe, works1, a1, b1, s1, d1, u1, v1, hsum, hdif, Option.getD_some, hz, Nat.sub_zero, List.drop_zero, ht8, x1, x2, y1, y2, hbor, huc, hul, hle, c2, r1]
  by_cases hlen : (sum.length : Int) > 128
  · rw [decide_eq_true hlen]
    have hcar : ((u2_Add a b).2 == l1_one (sum.getD 128 false)) = true := by
      rw [u4, one_eq, getD_bit, s2, e128]
      have : (n2 a + n2 b) / 340282366920938463463374607431768211456 % 2 = (n2 a + n2 b) / 340282366920938463463374607431768211456 := by omega
      rw [this]; simp
    rw [hcar]
    exact ⟨rfl, rfl⟩
  · rw [decide_eq_false hlen]
    have hcar : ((u2_Add a b).2 == l1_one false) = true := by
      have hlt := bv_lt sum
      have : sum.length = 128 := by omega
      rw [this, e128, s2] at hlt
      rw [u4, Nat.div_eq_of_lt hlt]; rfl
    rw [hcar]
    exact ⟨rfl, rfl⟩
end Go.Fb
