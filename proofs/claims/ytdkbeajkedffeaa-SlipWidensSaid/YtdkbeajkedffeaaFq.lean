/- Spans: the laws hold, in plain Lean. Conditions: as each theorem states. -/
import Derived.Test.YtdkbeajkedffeaaSq
import Derived.Test.YtdkbeajkedffeaaFl
import Derived.Test.YtdkbeajkedffeaaFp
namespace Go.Fb
end Go.Fb
namespace Go.Fb
open Go.Ev
end Go.Fb
namespace Go.Fb
open Go.Ev
theorem class_kf {z : Int} (h : -9218868437227405312 ≤ z) (g : z ≤ 9218868437227405312) : (p_Class (kf z) != 3) = decide (z ≠ 9218868437227405312 ∧ z ≠ -9218868437227405312) ∧ r4_Finite (kf z) = decide (z ≠ 9218868437227405312 ∧ z ≠ -9218868437227405312) := by
  unfold kf
  rw [class_ky (by omega), finite_spec (by omega)]
  constructor <;> rw [decide_eq_decide] <;> omega
theorem kp_inf : kz 9218868437227405312 = some 9218868437227405312 := by rw [pinf_kf]; exact kz_kf (by omega) (by omega)
theorem wp_inf : Wd 9218868437227405312 := ⟨by omega, by omega⟩
end Go.Fb
namespace Go.Fb
open Go.Ev
theorem hasI_some {A : IV} {x : Int} : hasI A (some x) = true ↔ ∃ l h, A = some (l, h) ∧ l ≤ x ∧ x ≤ h ∧ x ≠ 9218868437227405312 ∧ x ≠ -9218868437227405312 := by
  show (match mk x x with | none => false | some p => insI (some p) A) = true ↔ _
  unfold mk
  by_cases c : x ≤ x ∧ x ≠ 9218868437227405312 ∧ x ≠ -9218868437227405312
  · rw [if_pos c]
    constructor
    · intro h
      obtain ⟨l, u, e, h1, h2⟩ := insI_some h
      exact ⟨l, u, e, h1, h2, c.2⟩
    · rintro ⟨l, h, rfl, h1, h2, _⟩; exact insI_of h1 h2
  · rw [if_neg c]
    constructor
    · intro h; cases h
    · rintro ⟨l, h, rfl, h1, h2, h3, h4⟩; exact absurd ⟨Int.le_refl _, h3, h4⟩ c
theorem hasI_none {A : IV} : hasI A none = false := rfl
theorem has_rng {A : IV} (hA : GI A) {x : Int} (h : hasI A (some x) = true) : x < 9218868437227405312 ∧ -9218868437227405312 < x := by
  obtain ⟨l, u, rfl, h1, h2, h3, h4⟩ := hasI_some.1 h
  have := hA _ _ rfl; omega
theorem cmpZ_lt {x y : Int} : decide (cmpZ x y < 0) = decide (x < y) := by
  rw [decide_eq_decide]; unfold cmpZ; split
  · omega
  · split <;> omega
theorem cmpZ_gt {x y : Int} : decide (cmpZ x y > 0) = decide (y < x) := by
  rw [decide_eq_decide]; unfold cmpZ; split
  · omega
  · split <;> omega
end Go.Fb
namespace Go.Fb
open Go.Ev
theorem mulfin_s {s t : Bool} {k j : Nat} (hk : k < 9218868437227405312) (hj : j < 9218868437227405312) (mode : Int) :
    ∃ v, Tr.Is (n_Round_t (s != t) (wide_Mul (mant k : Int) (mant j : Int)) (IntKind.i64.wrap (expo k + expo j)) false mode) v ∧
      (k = 0 ∨ j = 0 → v = (fl (s != t) 0, 0)) ∧ (k ≠ 0 → j ≠ 0 → ExF (fv s k * fv t j) mode v) := by
  have m1 := mant_lt k
  have m2 := mant_lt j
  have e1 := @expo_rng k
  have e2 := @expo_rng j
  obtain ⟨w1, w2⟩ := wmul_spec (wd_mant k) (wd_mant j)
  rw [Int.toNat_natCast, Int.toNat_natCast] at w2
  rw [w64 (by omega) (by omega)]
  by_cases h0 : k = 0 ∨ j = 0
  · have hz : mant k * mant j = 0 := by
      rcases h0 with h | h
      · rw [(mant_zero hk).2 h, Nat.zero_mul]
      · rw [(mant_zero hj).2 h, Nat.mul_zero]
    exact ⟨_, nround_zero w1 (w2.trans hz) _ _ _ _, fun _ => rfl, fun g g' => absurd h0 (by omega)⟩
  · have hz : mant k * mant j ≠ 0 := Nat.mul_ne_zero (mant_nz hk (by omega)) (mant_nz hj (by omega))
    obtain ⟨v, v1, v2⟩ := nround_exact w1 (by rw [w2]; exact hz) (s != t) (e := expo k + expo j) (by omega) (by omega) mode
    rw [w2] at v2
    refine ⟨v, v1, fun g => absurd g h0, fun _ _ => ?_⟩
    rw [fv_dy, fv_dy, dy_mul]
    exact v2
theorem mul_s {s t : Bool} {k j : Nat} (hk : k < 9223372036854775808) (hj : j < 9223372036854775808) (mode : Int) :
    ∃ v, Tr.Is (s_Mul_t (fl s k) (fl t j) mode) v ∧ MulV s k t j mode v := by
  have S : s_Mul_t (fl s k) (fl t j) mode = s_Mul_T s_of s_either p_Quiet s_invalid p_Inf wide_Mul n_Round n_Round_s (fl s k) (fl t j) mode := rfl
  rw [S]
  unfold s_Mul_T
  simp only [sof_spec hk, sof_spec hj, either_spec, inf_spec, sinvalid_spec, neg_eq, quiet_val]
  rcases kind k with ⟨h, c4, c3, c0⟩ | ⟨h, c4, c3, c0⟩ | ⟨h, c4, c3, c0⟩ | ⟨h, h0, c4, c3, c0⟩ <;> rcases kind j with ⟨g, d4, d3, d0⟩ | ⟨g, d4, d3, d0⟩ | ⟨g, d4, d3, d0⟩ | ⟨g, g0, d4, d3, d0⟩ <;> simp only [c4, c3, c0, d4, d3, d0]
  · exact ⟨(9221120237041090560, 0), ⟨rfl, rfl⟩, .nan (.inl h) rfl⟩
  · exact ⟨(9221120237041090560, 0), ⟨rfl, rfl⟩, .nan (.inl h) rfl⟩
  · exact ⟨(9221120237041090560, 0), ⟨rfl, rfl⟩, .nan (.inl h) rfl⟩
  · exact ⟨(9221120237041090560, 0), ⟨rfl, rfl⟩, .nan (.inl h) rfl⟩
  · exact ⟨(9221120237041090560, 0), ⟨rfl, rfl⟩, .nan (.inr g) rfl⟩
  · exact ⟨(fl (s != t) 9218868437227405312, 0), ⟨rfl, rfl⟩, .inf (.inl ⟨h, by omega, by omega⟩) rfl⟩
  · exact ⟨(9221120237041090560, 16), ⟨rfl, rfl⟩, .bad (.inl ⟨h, g⟩) rfl⟩
  · exact ⟨(fl (s != t) 9218868437227405312, 0), ⟨rfl, rfl⟩, .inf (.inl ⟨h, by omega, by omega⟩) rfl⟩
  · exact ⟨(9221120237041090560, 0), ⟨rfl, rfl⟩, .nan (.inr g) rfl⟩
  · exact ⟨(9221120237041090560, 16), ⟨rfl, rfl⟩, .bad (.inr ⟨h, g⟩) rfl⟩
  · obtain ⟨v, a, z, _⟩ := mulfin_s (s := s) (t := t) (k := k) (j := j) (by omega) (by omega) mode
    exact ⟨v, Tr.is_br_f rfl (Tr.is_br_f rfl (Tr.is_br_f rfl (Tr.is_ast a.2 (Tr.is_leaf a.1)))), .zero ⟨by omega, by omega, .inl h⟩ (z (.inl h))⟩
  · obtain ⟨v, a, z, _⟩ := mulfin_s (s := s) (t := t) (k := k) (j := j) (by omega) (by omega) mode
    exact ⟨v, Tr.is_br_f rfl (Tr.is_br_f rfl (Tr.is_br_f rfl (Tr.is_ast a.2 (Tr.is_leaf a.1)))), .zero ⟨by omega, by omega, .inl h⟩ (z (.inl h))⟩
  · exact ⟨(9221120237041090560, 0), ⟨rfl, rfl⟩, .nan (.inr g) rfl⟩
  · exact ⟨(fl (s != t) 9218868437227405312, 0), ⟨rfl, rfl⟩, .inf (.inr ⟨g, by omega, by omega⟩) rfl⟩
  · obtain ⟨v, a, z, _⟩ := mulfin_s (s := s) (t := t) (k := k) (j := j) (by omega) (by omega) mode
    exact ⟨v, Tr.is_br_f rfl (Tr.is_br_f rfl (Tr.is_br_f rfl (Tr.is_ast a.2 (Tr.is_leaf a.1)))), .zero ⟨by omega, by omega, .inr g⟩ (z (.inr g))⟩
  · obtain ⟨v, a, _, z⟩ := mulfin_s (s := s) (t := t) (k := k) (j := j) (by omega) (by omega) mode
    exact ⟨v, Tr.is_br_f rfl (Tr.is_br_f rfl (Tr.is_br_f rfl (Tr.is_ast a.2 (Tr.is_leaf a.1)))), .fin ⟨by omega, by omega, h0, g0⟩ (z h0 g0)⟩
theorem divfin_s {s t : Bool} {k j : Nat} (hk : k < 9218868437227405312) (hj : j < 9218868437227405312) (k0 : k ≠ 0) (j0 : j ≠ 0) (mode : Int) :
    ∃ v, (decide (0 ≤ IntKind.i64.wrap (64 - u2_Len (U2.mk 0 (mant k : Int)))) = true ∧ u2_Div_s (U2.mk (shlI IntKind.u64 (mant k : Int) (IntKind.i64.wrap (64 - u2_Len (U2.mk 0 (mant k : Int))))) 0) (mant j : Int) = true ∧
      Tr.Is (n_Round_t (s != t) (u2_Div (U2.mk (shlI IntKind.u64 (mant k : Int) (IntKind.i64.wrap (64 - u2_Len (U2.mk 0 (mant k : Int))))) 0) (mant j : Int)).fst
        (IntKind.i64.wrap (IntKind.i64.wrap (IntKind.i64.wrap (expo k - IntKind.i64.wrap (64 - u2_Len (U2.mk 0 (mant k : Int)))) - 64) - expo j))
        ((u2_Div (U2.mk (shlI IntKind.u64 (mant k : Int) (IntKind.i64.wrap (64 - u2_Len (U2.mk 0 (mant k : Int))))) 0) (mant j : Int)).snd != 0) mode) v) ∧
      ExF (fv s k / fv t j) mode v := by
  have m1 := mant_lt k
  have m2 := mant_lt j
  have n1 := mant_nz hk k0
  have n2' := mant_nz hj j0
  have e1 := @expo_rng k
  have e2 := @expo_rng j
  obtain ⟨L, l1, l2, l3, l4⟩ := len_mant hk k0
  obtain ⟨_, b4, b2⟩ := of1_spec (wd_mant k)
  obtain ⟨_, c4, c2⟩ := of1_spec (wd_mant j)
  rw [Int.toNat_natCast] at b2 c2
  obtain ⟨sh, hsh⟩ : ∃ sh : Nat, sh + L = 64 := ⟨64 - L, by omega⟩
  have esh : IntKind.i64.wrap (64 - u2_Len (U2.mk 0 (mant k : Int))) = (sh : Int) := by rw [l1, w64 (by omega) (by omega)]; omega
  rw [esh]
  have p64 : mant k * 2 ^ sh < 18446744073709551616 := by
    have := Nat.mul_lt_mul_of_pos_right l2.1 (Nat.two_pow_pos sh)
    rw [← Nat.pow_add, show L + sh = 64 by omega, show (2 : Nat) ^ 64 = 18446744073709551616 from rfl] at this
    exact this
  have p63 : 9223372036854775808 ≤ mant k * 2 ^ sh := by
    have h2 : 2 ^ (L - 1) ≤ mant k := by rcases l2.2 with h | h; omega; exact h
    have := Nat.mul_le_mul_right (2 ^ sh) h2
    rw [← Nat.pow_add, show L - 1 + sh = 63 by omega, show (2 : Nat) ^ 63 = 9223372036854775808 from rfl] at this
    exact this
  have eshl : shlI .u64 (mant k : Int) (sh : Int) = ((mant k * 2 ^ sh : Nat) : Int) := by rw [shl_nat _ _ (by omega), Nat.mod_eq_of_lt p64]
  rw [eshl]
  have hnum : n2 ⟨((mant k * 2 ^ sh : Nat) : Int), 0⟩ = mant k * 2 ^ (sh + 64) := by
    rw [n2_hi, Nat.pow_add, show (2 : Nat) ^ 64 = 18446744073709551616 from rfl, ← Nat.mul_assoc, Nat.mul_assoc, Nat.mul_comm 18446744073709551616 (mant k * 2 ^ sh), Nat.mul_assoc]
  obtain ⟨d1, d2, d3, d4, d5⟩ := udiv_spec (a := ⟨((mant k * 2 ^ sh : Nat) : Int), 0⟩) (by unfold W2 Wd; dsimp only; omega) (wd_mant j) (by rw [Int.toNat_natCast]; omega)
  rw [hnum, Int.toNat_natCast] at d3 d5
  generalize u2_Div (U2.mk ((mant k * 2 ^ sh : Nat) : Int) 0) (mant j : Int) = Q at *
  obtain ⟨qq, ql⟩ := Q
  dsimp only at d2 d3 d4 d5 ⊢
  have hnb : mant k * 2 ^ (sh + 64) = mant k * 2 ^ sh * 18446744073709551616 := by rw [Nat.pow_add, ← Nat.mul_assoc]
  have hq : 9007199254740992 ≤ n2 qq := by
    rw [d3, Nat.le_div_iff_mul_le (by omega), hnb]
    omega
  have dm := Nat.div_add_mod (mant k * 2 ^ (sh + 64)) (mant j)
  have dl := Nat.mod_lt (mant k * 2 ^ (sh + 64)) (show 0 < mant j by omega)
  have erest : (ql != 0) = decide (mant k * 2 ^ (sh + 64) % mant j ≠ 0) := by
    have h1 := d4
    unfold Wd at h1
    by_cases g : ql = 0
    · rw [nbf g, df (by omega)]
    · rw [nbt g, dt (by omega)]
  have ee : IntKind.i64.wrap (IntKind.i64.wrap (IntKind.i64.wrap (expo k - (sh : Int)) - 64) - expo j) = expo k - sh - 64 - expo j := by
    rw [w64 (n := expo k - (sh : Int)) (by omega) (by omega), w64 (n := expo k - (sh : Int) - 64) (by omega) (by omega), w64 (by omega) (by omega)]
  rw [erest, ee]
  have hx : XIs ⟨r1_Of1 (mant k : Int), r1_Of1 (mant j : Int), expo k - expo j, false⟩ (mant k) (mant j) := xIs_bits b2 c2 (by omega) (by omega) (by omega) (by omega)
  have hin : In (xOf 3925 ⟨r1_Of1 (mant k : Int), r1_Of1 (mant j : Int), expo k - expo j, false⟩) (2 ^ (5000 + (expo k - sh - 64 - expo j)).toNat) (n2 qq) (decide (mant k * 2 ^ (sh + 64) % mant j ≠ 0)) := by
    rw [d3]
    exact div_in b2 c2 (by omega) dm.symm dl rfl (by omega) (by omega)
  obtain ⟨v, v1, v2⟩ := nround_in d2 (by omega) (s != t) (e := expo k - sh - 64 - expo j) (by omega) (by omega) (fun _ => hq) mode (Nat.mul_ne_zero n1 (two_nz _)) (Nat.mul_ne_zero n2' (two_nz _)) (fun y => xOf_q hx rfl (Nat.le_refl _) y) hin
  refine ⟨v, ⟨dt (by omega), d1, v1⟩, ?_⟩
  rw [fv_dy, fv_dy, dy_div]
  exact v2
theorem div_s {s t : Bool} {k j : Nat} (hk : k < 9223372036854775808) (hj : j < 9223372036854775808) (mode : Int) :
    ∃ v, Tr.Is (s_Div_t (fl s k) (fl t j) mode) v ∧ DivV s k t j mode v := by
  have S : s_Div_t (fl s k) (fl t j) mode = s_Div_T s_of s_either p_Quiet s_invalid p_Inf s_zero u2_Len u2_Div u2_Div_s n_Round n_Round_s (fl s k) (fl t j) mode := rfl
  rw [S]
  unfold s_Div_T
  simp only [sof_spec hk, sof_spec hj, either_spec, inf_spec, sinvalid_spec, szero_spec, neg_eq, quiet_val]
  have ck := cls_cases k
  have cj := cls_cases j
  rcases kind k with ⟨h, c4, c3, c0⟩ | ⟨h, c4, c3, c0⟩ | ⟨h, c4, c3, c0⟩ | ⟨h, h0, c4, c3, c0⟩ <;> rcases kind j with ⟨g, d4, d3, d0⟩ | ⟨g, d4, d3, d0⟩ | ⟨g, d4, d3, d0⟩ | ⟨g, g0, d4, d3, d0⟩ <;> simp only [c4, c3, c0, d4, d3, d0]
  · exact ⟨(9221120237041090560, 0), ⟨rfl, rfl⟩, .nan (.inl h) rfl⟩
  · exact ⟨(9221120237041090560, 0), ⟨rfl, rfl⟩, .nan (.inl h) rfl⟩
  · exact ⟨(9221120237041090560, 0), ⟨rfl, rfl⟩, .nan (.inl h) rfl⟩
  · exact ⟨(9221120237041090560, 0), ⟨rfl, rfl⟩, .nan (.inl h) rfl⟩
  · exact ⟨(9221120237041090560, 0), ⟨rfl, rfl⟩, .nan (.inr g) rfl⟩
  · have e : (cls k == cls j) = true := bt (by omega)
    rw [e]
    exact ⟨(9221120237041090560, 16), ⟨rfl, rfl⟩, .bad (.inl ⟨h, g⟩) rfl⟩
  · have e : (cls k == cls j) = false := bf (by omega)
    rw [e]
    exact ⟨(fl (s != t) 9218868437227405312, 0), ⟨rfl, rfl⟩, .inf ⟨h, by omega⟩ rfl⟩
  · have e : (cls k == cls j) = false := bf (by omega)
    rw [e]
    exact ⟨(fl (s != t) 9218868437227405312, 0), ⟨rfl, rfl⟩, .inf ⟨h, by omega⟩ rfl⟩
  · exact ⟨(9221120237041090560, 0), ⟨rfl, rfl⟩, .nan (.inr g) rfl⟩
  · have e : (cls k == cls j) = false := bf (by omega)
    rw [e]
    exact ⟨(fl (s != t) 0, 0), ⟨rfl, rfl⟩, .zero (.inl ⟨h, by omega, by omega⟩) rfl⟩
  · have e : (cls k == cls j) = true := bt (by omega)
    rw [e]
    exact ⟨(9221120237041090560, 16), ⟨rfl, rfl⟩, .bad (.inr ⟨h, g⟩) rfl⟩
  · have e : (cls k == cls j) = false := bf (by omega)
    rw [e]
    exact ⟨(fl (s != t) 0, 0), ⟨rfl, rfl⟩, .zero (.inl ⟨h, by omega, by omega⟩) rfl⟩
  · exact ⟨(9221120237041090560, 0), ⟨rfl, rfl⟩, .nan (.inr g) rfl⟩
  · have e : (cls k == cls j) = false := bf (by omega)
    rw [e]
    exact ⟨(fl (s != t) 0, 0), ⟨rfl, rfl⟩, .zero (.inr ⟨h, g⟩) rfl⟩
  · have e : (cls k == cls j) = false := bf (by omega)
    rw [e]
    exact ⟨(fl (s != t) 9218868437227405312, 8), ⟨rfl, rfl⟩, .by0 ⟨h, h0, g⟩ rfl⟩
  · obtain ⟨v, ⟨a1, a2, a3⟩, z⟩ := divfin_s (s := s) (t := t) h g h0 g0 mode
    refine ⟨v, ?_, .fin ⟨h, g, h0, g0⟩ z⟩
    refine Tr.is_br_f rfl ?_
    rcases clsEq (k := k) (j := j) with e | e <;> rw [e]
    · exact Tr.is_br_t rfl (Tr.is_br_f rfl (Tr.is_br_f rfl (Tr.is_br_f rfl (Tr.is_br_f rfl (Tr.is_br_f rfl (Tr.is_br_f rfl (Tr.is_ast a1 (Tr.is_ast a2 (Tr.is_ast a3.2 (Tr.is_leaf a3.1))))))))))
    · exact Tr.is_br_f rfl (Tr.is_br_f rfl (Tr.is_br_f rfl (Tr.is_br_f rfl (Tr.is_br_f rfl (Tr.is_ast a1 (Tr.is_ast a2 (Tr.is_ast a3.2 (Tr.is_leaf a3.1))))))))
theorem add_s {s t : Bool} {k j : Nat} (hk : k < 9223372036854775808) (hj : j < 9223372036854775808) (mode : Int) :
    ∃ v, Tr.Is (s_Add_t (fl s k) (fl t j) mode) v ∧ AddV s k t j mode v := by
  have A := sof_spec (s := s) hk
  have B := sof_spec (s := t) hj
  have ei := either_spec (s_of (fl s k)) (s_of (fl t j)) 4
  have sa : ((s_of (fl s k)).c == 3) = (cls k == 3) := by rw [A]
  have sb : ((s_of (fl t j)).c == 3) = (cls j == 3) := by rw [B]
  have sn : ((s_of (fl s k)).neg == (s_of (fl t j)).neg) = (s == t) := by rw [A, B]
  have ei : s_either (s_of (fl s k)) (s_of (fl t j)) 4 = (cls k == 4 || cls j == 4) := by rw [ei, A, B]
  rcases kind k with ⟨h, c4, c3, c0⟩ | ⟨h, c4, c3, c0⟩ | ⟨h, c4, c3, c0⟩ | ⟨h, h0, c4, c3, c0⟩
  · exact ⟨_, sAdd_nan (by rw [ei, c4]; rfl), .nan (.inl h) rfl⟩
  · rcases kind j with ⟨g, d4, d3, d0⟩ | ⟨g, d4, d3, d0⟩ | ⟨g, d4, d3, d0⟩ | ⟨g, g0, d4, d3, d0⟩
    · exact ⟨_, sAdd_nan (by rw [ei, d4, c4]; rfl), .nan (.inr g) rfl⟩
    · have p := sAdd_ii (mode := mode) (by rw [ei, d4, c4]; rfl) (sa.trans c3) (sb.trans d3)
      rw [sn] at p
      refine ⟨_, p, ?_⟩
      by_cases hst : s = t
      · exact .infa ⟨h, by omega, fun _ => hst⟩ (by rw [if_pos (by rw [hst]; simp), h])
      · exact .bad ⟨h, g, hst⟩ (by rw [if_neg (by simpa using hst)])
    · exact ⟨_, sAdd_if (by rw [ei, d4, c4]; rfl) (sa.trans c3) (sb.trans d3), .infa ⟨h, by omega, fun g => by omega⟩ (by rw [h])⟩
    · exact ⟨_, sAdd_if (by rw [ei, d4, c4]; rfl) (sa.trans c3) (sb.trans d3), .infa ⟨h, by omega, fun g => by omega⟩ (by rw [h])⟩
  all_goals
    have hf : k < 9218868437227405312 := by omega
    rcases kind j with ⟨g, d4, d3, d0⟩ | ⟨g, d4, d3, d0⟩ | ⟨g, d4, d3, d0⟩ | ⟨g, g0, d4, d3, d0⟩
    · exact ⟨_, sAdd_nan (by rw [ei, d4, c4]; rfl), .nan (.inr g) rfl⟩
    · exact ⟨_, sAdd_fi (by rw [ei, d4, c4]; rfl) (sa.trans c3) (sb.trans d3), .infb ⟨hf, g⟩ (by rw [g])⟩
    all_goals
      have gf : j < 9218868437227405312 := by omega
      obtain ⟨v, w, w1, w2, w3, w4⟩ := addfin (s := s) (t := t) hk hj hf gf mode
      refine ⟨v, sAdd_ff (by rw [ei, d4, c4]; rfl) (sa.trans c3) (sb.trans d3) ?_ ?_ ?_ ?_, .fin ⟨hf, gf⟩ w⟩
      · rw [A, B]; exact w1
      · rw [A, B]; exact w2
      · rw [A, B]; exact w3
      · intro p q; rw [A] at p; rw [B] at q; exact w4 p q
end Go.Fb
namespace Go.Fb
open Go.Ev
def zv (z : Int) : Rat := fv (decide (z < 0)) z.natAbs
theorem zv_zero : zv 0 = 0 := fv_zero _
theorem zv_neg (z : Int) : zv (-z) = -zv z := by
  by_cases h : z = 0
  · subst h; rw [Int.neg_zero, zv_zero]; rfl
  · unfold zv
    rw [Int.natAbs_neg, ← fv_neg]
    congr 1
    rw [Bool.eq_iff_iff]; simp only [decide_eq_true_eq, Bool.not_eq_true', decide_eq_false_iff_not]; omega
theorem zv_lt {z w : Int} (h : -9218868437227405312 < z) (g : z < 9218868437227405312) (h' : -9218868437227405312 < w) (g' : w < 9218868437227405312) : zv z < zv w ↔ z < w := by
  unfold zv; rw [fv_lt (by omega) (by omega), ky_kf, ky_kf]
theorem zv_le {z w : Int} (h : -9218868437227405312 < z) (g : z < 9218868437227405312) (h' : -9218868437227405312 < w) (g' : w < 9218868437227405312) (l : z ≤ w) : zv z ≤ zv w := by
  refine Rat.not_lt.1 fun c => ?_
  have := (zv_lt h' g' h g).1 c; omega
theorem zv_pos {z : Int} (h : 0 < z) (g : z < 9218868437227405312) : 0 < zv z := by rw [← zv_zero]; exact (zv_lt (by omega) (by omega) (by omega) (by omega)).2 h
theorem zv_nonneg {z : Int} (h : 0 ≤ z) (g : z < 9218868437227405312) : 0 ≤ zv z := by rw [← zv_zero]; exact zv_le (by omega) (by omega) (by omega) (by omega) h
theorem zv_nonpos {z : Int} (h : z ≤ 0) (g : -9218868437227405312 < z) : zv z ≤ 0 := by rw [← zv_zero]; exact zv_le (by omega) (by omega) (by omega) (by omega) h
theorem RK.kz {x z : Int} (h : RK x z) : Wd x ∧ kz x = some z := by
  obtain ⟨q, m, hm, rfl, rfl⟩ := h
  exact ⟨fl_wd (by omega), kz_fl hm⟩
theorem exk_rng {x : Rat} {m z : Int} (h : ExK x m z) : -9218868437227405312 ≤ z ∧ z ≤ 9218868437227405312 := by
  rcases h with ⟨_, h⟩ | ⟨_, K, a, b, _, h⟩
  · omega
  · rw [h, ← rk_eq (sm := false)]
    have := @rans_le K a b false (wayOf (decide (x < 0)) m)
    exact ky_rng this
theorem exk_zero (m : Int) : ExK 0 m 0 := .inl ⟨rfl, rfl⟩
theorem exk_nonneg {x : Rat} {m z : Int} (h : ExK x m z) (g : 0 ≤ x) : 0 ≤ z := exk_mono g (exk_zero m) h
theorem exk_nonpos {x : Rat} {m z : Int} (h : ExK x m z) (g : x ≤ 0) : z ≤ 0 := exk_mono g h (exk_zero m)
theorem exk_down {x : Rat} {z : Int} (h : ExK x 2 z) : z < 9218868437227405312 := by
  rcases h with ⟨_, h⟩ | ⟨_, K, a, b, _, h⟩
  · omega
  · by_cases c : x < 0
    · rw [dt c] at h; unfold ky at h; rw [if_pos rfl] at h; omega
    · rw [df c] at h; unfold ky at h; rw [if_neg (by simp)] at h
      have e : rk K a b (wayOf false 2) ≤ 9218868437227405311 := by
        show (rans K a b false 2).1 ≤ _
        unfold rans
        split
        · rw [if_pos rfl]; omega
        · dsimp only; omega
      omega
theorem exk_up {x : Rat} {z : Int} (h : ExK x 1 z) : -9218868437227405312 < z := by
  rcases h with ⟨_, h⟩ | ⟨_, K, a, b, _, h⟩
  · omega
  · by_cases c : x < 0
    · rw [dt c] at h; unfold ky at h; rw [if_pos rfl] at h
      have e : rk K a b (wayOf true 1) ≤ 9218868437227405311 := by
        show (rans K a b false 2).1 ≤ _
        unfold rans
        split
        · rw [if_pos rfl]; omega
        · dsimp only; omega
      omega
    · rw [df c] at h; unfold ky at h; rw [if_neg (by simp)] at h; omega
structure MulK (m z w r : Int) : Prop where
  zero : z = 0 ∨ w = 0 → r = 0
  inf : z ≠ 0 → w ≠ 0 → (z = 9218868437227405312 ∨ z = -9218868437227405312 ∨ w = 9218868437227405312 ∨ w = -9218868437227405312) → r = if (0 < z) = (0 < w) then 9218868437227405312 else -9218868437227405312
  fin : -9218868437227405312 < z → z < 9218868437227405312 → -9218868437227405312 < w → w < 9218868437227405312 → ExK (zv z * zv w) m r
  rng : -9218868437227405312 ≤ r ∧ r ≤ 9218868437227405312
theorem MulK.symm {m z w r : Int} (h : MulK m z w r) : MulK m w z r where
  zero g := h.zero g.symm
  inf a b c := by
    rw [h.inf b a (by omega)]
    by_cases p : 0 < z <;> by_cases q : 0 < w <;> simp [p, q]
  fin a b c d := by rw [Rat.mul_comm]; exact h.fin c d a b
  rng := h.rng
theorem MulK.neg {m z w r : Int} (h : MulK m z w r) : MulK m (-z) (-w) r where
  zero g := h.zero (by omega)
  inf a b c := by
    rw [h.inf (by omega) (by omega) (by omega)]
    have e : ((0 < z) = (0 < w)) = ((0 < -z) = (0 < -w)) := by
      rw [eq_iff_iff, eq_iff_iff, eq_iff_iff]; omega
    simp only [e]
  fin a b c d := by
    rw [zv_neg, zv_neg, show -zv z * -zv w = zv z * zv w by grind]
    exact h.fin (by omega) (by omega) (by omega) (by omega)
  rng := h.rng
theorem MulK.pos {m z w r : Int} (h : MulK m z w r) (hz : 0 < z) (hw : 0 < w) (h1 : z ≤ 9218868437227405312) (h2 : w ≤ 9218868437227405312) : 0 ≤ r := by
  by_cases c : z = 9218868437227405312 ∨ w = 9218868437227405312
  · have := h.inf (by omega) (by omega) (by omega)
    rw [if_pos (by rw [eq_iff_iff]; omega)] at this; omega
  · exact exk_nonneg (h.fin (by omega) (by omega) (by omega) (by omega)) (Rat.mul_nonneg (zv_nonneg (by omega) (by omega)) (zv_nonneg (by omega) (by omega)))
theorem MulK.npos {m z w r : Int} (h : MulK m z w r) (hz : z < 0) (hw : 0 < w) (h1 : -9218868437227405312 ≤ z) (h2 : w ≤ 9218868437227405312) : r ≤ 0 := by
  by_cases c : z = -9218868437227405312 ∨ w = 9218868437227405312
  · have := h.inf (by omega) (by omega) (by omega)
    rw [if_neg (by rw [eq_iff_iff]; omega)] at this; omega
  · refine exk_nonpos (h.fin (by omega) (by omega) (by omega) (by omega)) ?_
    have p := zv_nonpos (z := z) (by omega) (by omega)
    have q := zv_nonneg (z := w) (by omega) (by omega)
    have := Rat.mul_le_mul_of_nonneg_right p q
    rwa [Rat.zero_mul] at this
theorem MulK.mono {m z z' w r r' : Int} (h : MulK m z w r) (g : MulK m z' w r') (hw : 0 ≤ w) (l : z ≤ z') (h1 : -9218868437227405312 ≤ z) (h2 : z' ≤ 9218868437227405312) (h3 : w ≤ 9218868437227405312) : r ≤ r' := by
  have R := h.rng; have R' := g.rng
  by_cases w0 : w = 0
  · rw [h.zero (.inr w0), g.zero (.inr w0)]; exact Int.le_refl _
  have sl : z ≤ 0 → r ≤ 0 := fun c => by
    by_cases d : z = 0
    · rw [h.zero (.inl d)]; exact Int.le_refl _
    · exact h.npos (by omega) (by omega) h1 h3
  have sg : 0 ≤ z' → 0 ≤ r' := fun c => by
    by_cases d : z' = 0
    · rw [g.zero (.inl d)]; exact Int.le_refl _
    · exact g.pos (by omega) (by omega) h2 h3
  by_cases c : z ≤ 0 ∧ 0 ≤ z'
  · have := sl c.1; have := sg c.2; omega
  · by_cases c1 : 0 < z
    · by_cases i' : z' = 9218868437227405312 ∨ w = 9218868437227405312
      · have := g.inf (by omega) (by omega) (by omega)
        rw [if_pos (by rw [eq_iff_iff]; omega)] at this; omega
      · exact exk_mono (Rat.mul_le_mul_of_nonneg_right (zv_le (by omega) (by omega) (by omega) (by omega) l) (zv_nonneg (by omega) (by omega))) (h.fin (by omega) (by omega) (by omega) (by omega)) (g.fin (by omega) (by omega) (by omega) (by omega))
    · by_cases i' : z = -9218868437227405312 ∨ w = 9218868437227405312
      · have := h.inf (by omega) (by omega) (by omega)
        rw [if_neg (by rw [eq_iff_iff]; omega)] at this; omega
      · exact exk_mono (Rat.mul_le_mul_of_nonneg_right (zv_le (by omega) (by omega) (by omega) (by omega) l) (zv_nonneg (by omega) (by omega))) (h.fin (by omega) (by omega) (by omega) (by omega)) (g.fin (by omega) (by omega) (by omega) (by omega))
theorem MulK.anti {m z z' w r r' : Int} (h : MulK m z w r) (g : MulK m z' w r') (hw : w ≤ 0) (l : z ≤ z') (h1 : -9218868437227405312 ≤ z) (h2 : z' ≤ 9218868437227405312) (h3 : -9218868437227405312 ≤ w) : r' ≤ r :=
  MulK.mono g.neg h.neg (by omega) (by omega) (by omega) (by omega) (by omega)
theorem MulK.down {z w r : Int} (h : MulK 2 z w r) (h1 : -9218868437227405312 ≤ z) (h2 : z ≤ 9218868437227405312) (h3 : -9218868437227405312 ≤ w) (h4 : w ≤ 9218868437227405312) (e : r = 9218868437227405312) : (z = 9218868437227405312 ∧ 0 < w) ∨ (z = -9218868437227405312 ∧ w < 0) ∨ (w = 9218868437227405312 ∧ 0 < z) ∨ (w = -9218868437227405312 ∧ z < 0) := by
  by_cases c : z = 0 ∨ w = 0
  · have := h.zero c; omega
  · by_cases i : z = 9218868437227405312 ∨ z = -9218868437227405312 ∨ w = 9218868437227405312 ∨ w = -9218868437227405312
    · have := h.inf (by omega) (by omega) i
      by_cases p : (0 < z) = (0 < w)
      · rw [eq_iff_iff] at p; omega
      · rw [if_neg p] at this; omega
    · have := exk_down (h.fin (by omega) (by omega) (by omega) (by omega)); omega
theorem MulK.up {z w r : Int} (h : MulK 1 z w r) (h1 : -9218868437227405312 ≤ z) (h2 : z ≤ 9218868437227405312) (h3 : -9218868437227405312 ≤ w) (h4 : w ≤ 9218868437227405312) (e : r = -9218868437227405312) : (z = 9218868437227405312 ∧ w < 0) ∨ (z = -9218868437227405312 ∧ 0 < w) ∨ (w = 9218868437227405312 ∧ z < 0) ∨ (w = -9218868437227405312 ∧ 0 < z) := by
  by_cases c : z = 0 ∨ w = 0
  · have := h.zero c; omega
  · by_cases i : z = 9218868437227405312 ∨ z = -9218868437227405312 ∨ w = 9218868437227405312 ∨ w = -9218868437227405312
    · have := h.inf (by omega) (by omega) i
      by_cases p : (0 < z) = (0 < w)
      · rw [if_pos p] at this; omega
      · rw [eq_iff_iff] at p; omega
    · have := exk_up (h.fin (by omega) (by omega) (by omega) (by omega)); omega
theorem zero_kf {z : Int} (h : -9218868437227405312 ≤ z) (g : z ≤ 9218868437227405312) : sp_zero (kf z) = decide (z = 0) := by
  show (p_Class (fl _ _) == 0) = _
  rw [class_spec (by omega), cls0, decide_eq_decide]; omega
theorem ky_sgn {z : Int} (h0 : z ≠ 0) (b : Bool) : ky (decide (z < 0) != b) 9218868437227405312 = if (0 < z) = (b = false) then 9218868437227405312 else -9218868437227405312 := by
  by_cases h : z < 0
  · rw [dt h]; cases b
    · rw [if_neg (by rw [eq_iff_iff]; simp; omega)]; rfl
    · rw [if_pos (by rw [eq_iff_iff]; simp; omega)]; rfl
  · rw [df h]; cases b
    · rw [if_pos (by rw [eq_iff_iff]; simp; omega)]; rfl
    · rw [if_neg (by rw [eq_iff_iff]; simp; omega)]; rfl
theorem mul_kf {z w : Int} (h1 : -9218868437227405312 ≤ z) (h2 : z ≤ 9218868437227405312) (h3 : -9218868437227405312 ≤ w) (h4 : w ≤ 9218868437227405312) (m : Int) :
    ∃ v, Tr.Is (s_Mul_t (kf z) (kf w) m) v ∧ (z ≠ 0 → w ≠ 0 → ∃ r, Wd v.1 ∧ kz v.1 = some r ∧ MulK m z w r) := by
  obtain ⟨v, a, c⟩ := mul_s (s := decide (z < 0)) (t := decide (w < 0)) (k := z.natAbs) (j := w.natAbs) (by omega) (by omega) m
  refine ⟨v, a, fun z0 w0 => ?_⟩
  rcases mulRK c (by omega) (by omega) with ⟨_, d⟩ | ⟨r, d, e⟩
  · omega
  · refine ⟨r, d.kz.1, d.kz.2, fun g => by omega, fun _ _ i => ?_, fun i1 i2 i3 i4 => ?_, d.rng⟩
    · rcases e with ⟨e1, e2, e3, e4⟩ | ⟨e1, e2, e3⟩
      · rw [e4, ky_sgn z0]
        have : (decide (w < 0) = false) = (0 < w) := by rw [eq_iff_iff]; simp only [decide_eq_false_iff_not]; omega
        simp only [this]
      · omega
    · rcases e with ⟨e1, e2, e3, e4⟩ | ⟨e1, e2, e3⟩
      · omega
      · exact e3
theorem mul1_kf {z w : Int} (h1 : -9218868437227405312 ≤ z) (h2 : z ≤ 9218868437227405312) (h3 : -9218868437227405312 ≤ w) (h4 : w ≤ 9218868437227405312) (m : Int) :
    ∃ x r, Tr.Is (sp_Mul1_t (kf z) (kf w) m) x ∧ Wd x ∧ kz x = some r ∧ MulK m z w r := by
  obtain ⟨v, a, c⟩ := mul_kf h1 h2 h3 h4 m
  have k0 : kz 0 = some 0 := kz_kf (z := 0) (by omega) (by omega)
  by_cases z0 : z = 0
  · exact ⟨0, 0, Tr.is_br_t ((zero_kf h1 h2).trans (dt z0)) (Tr.is_leaf rfl), zero_wd, k0, fun _ => rfl, fun g => by omega, fun _ _ _ _ => by rw [z0, zv_zero, Rat.zero_mul]; exact exk_zero m, by omega⟩
  by_cases w0 : w = 0
  · exact ⟨0, 0, Tr.is_br_f ((zero_kf h1 h2).trans (df z0)) (Tr.is_br_t ((zero_kf h3 h4).trans (dt w0)) (Tr.is_leaf rfl)), zero_wd, k0, fun _ => rfl, fun _ g => by omega, fun _ _ _ _ => by rw [w0, zv_zero, Rat.mul_zero]; exact exk_zero m, by omega⟩
  obtain ⟨r, d, e, f⟩ := c z0 w0
  have ev : s_Mul (kf z) (kf w) m = v := a.1
  exact ⟨v.1, r, Tr.is_br_f ((zero_kf h1 h2).trans (df z0)) (Tr.is_br_f ((zero_kf h3 h4).trans (df w0)) (Tr.is_ast a.2 (Tr.is_leaf (by rw [ev])))), d, e, f⟩
end Go.Fb
namespace Go.Fb
open Go.Ev
theorem rat_div_mono {a b c : Rat} (h : 0 < c) (g : a ≤ b) : a / c ≤ b / c := by
  rw [Rat.div_def, Rat.div_def]; exact Rat.mul_le_mul_of_nonneg_right g (Rat.le_of_lt (Rat.inv_pos.2 h))
theorem rat_div_nonneg {a b : Rat} (h : 0 ≤ a) (g : 0 < b) : 0 ≤ a / b := by
  rw [Rat.div_def]; exact Rat.mul_nonneg h (Rat.le_of_lt (Rat.inv_pos.2 g))
theorem rat_div_anti {a b c : Rat} (h : 0 < b) (g : b ≤ c) (ha : 0 ≤ a) : a / c ≤ a / b := by
  have hc : 0 < c := by grind
  refine Rat.not_lt.1 fun k => ?_
  rw [Rat.div_lt_iff h] at k
  have h2 := rat_div_nonneg ha hc
  have := Rat.mul_le_mul_of_nonneg_left g h2
  have e : a / c * c = a := by grind
  grind
theorem rat_div_neg (a b : Rat) : -a / b = -(a / b) := by rw [Rat.div_def, Rat.div_def, Rat.neg_mul]
structure DivK (m z w r : Int) : Prop where
  zero : z = 0 → r = 0
  small : w = 9218868437227405312 → -9218868437227405312 < z → z < 9218868437227405312 → r = 0
  inf : z ≠ 0 → (z = 9218868437227405312 ∨ z = -9218868437227405312 ∨ w = 0) → r = if 0 < z then 9218868437227405312 else -9218868437227405312
  fin : z ≠ 0 → -9218868437227405312 < z → z < 9218868437227405312 → 0 < w → w < 9218868437227405312 → ExK (zv z / zv w) m r
  rng : -9218868437227405312 ≤ r ∧ r ≤ 9218868437227405312
theorem DivK.pos {m z w r : Int} (h : DivK m z w r) (hz : 0 ≤ z) (h1 : z ≤ 9218868437227405312) (hw : 0 ≤ w) (h2 : w ≤ 9218868437227405312) : 0 ≤ r := by
  by_cases z0 : z = 0
  · rw [h.zero z0]; omega
  by_cases i : z = 9218868437227405312 ∨ w = 0
  · have := h.inf z0 (by omega); rw [if_pos (by omega)] at this; omega
  by_cases s : w = 9218868437227405312
  · rw [h.small s (by omega) (by omega)]; omega
  exact exk_nonneg (h.fin z0 (by omega) (by omega) (by omega) (by omega)) (rat_div_nonneg (zv_nonneg hz (by omega)) (zv_pos (by omega) (by omega)))
theorem DivK.npos {m z w r : Int} (h : DivK m z w r) (hz : z ≤ 0) (h1 : -9218868437227405312 ≤ z) (hw : 0 ≤ w) (h2 : w ≤ 9218868437227405312) : r ≤ 0 := by
  by_cases z0 : z = 0
  · rw [h.zero z0]; omega
  by_cases i : z = -9218868437227405312 ∨ w = 0
  · have := h.inf z0 (by omega); rw [if_neg (by omega)] at this; omega
  by_cases s : w = 9218868437227405312
  · rw [h.small s (by omega) (by omega)]; omega
  refine exk_nonpos (h.fin z0 (by omega) (by omega) (by omega) (by omega)) ?_
  have := rat_div_mono (zv_pos (z := w) (by omega) (by omega)) (zv_nonpos (z := z) hz (by omega))
  rwa [Rat.div_def 0, Rat.zero_mul] at this
theorem DivK.mono {m z z' w r r' : Int} (h : DivK m z w r) (g : DivK m z' w r') (hw : 0 ≤ w) (l : z ≤ z') (h1 : -9218868437227405312 ≤ z) (h2 : z' ≤ 9218868437227405312) (h3 : w ≤ 9218868437227405312) : r ≤ r' := by
  have R := h.rng; have R' := g.rng
  by_cases c : z ≤ 0 ∧ 0 ≤ z'
  · have := h.npos c.1 h1 hw h3; have := g.pos c.2 h2 hw h3; omega
  by_cases c1 : 0 < z
  · by_cases i : z' = 9218868437227405312 ∨ w = 0
    · have := g.inf (by omega) (by omega); rw [if_pos (by omega)] at this; omega
    by_cases s : w = 9218868437227405312
    · rw [h.small s (by omega) (by omega), g.small s (by omega) (by omega)]; exact Int.le_refl _
    exact exk_mono (rat_div_mono (zv_pos (by omega) (by omega)) (zv_le (by omega) (by omega) (by omega) (by omega) l)) (h.fin (by omega) (by omega) (by omega) (by omega) (by omega)) (g.fin (by omega) (by omega) (by omega) (by omega) (by omega))
  · by_cases i : z = -9218868437227405312 ∨ w = 0
    · have := h.inf (by omega) (by omega); rw [if_neg (by omega)] at this; omega
    by_cases s : w = 9218868437227405312
    · rw [h.small s (by omega) (by omega), g.small s (by omega) (by omega)]; exact Int.le_refl _
    exact exk_mono (rat_div_mono (zv_pos (by omega) (by omega)) (zv_le (by omega) (by omega) (by omega) (by omega) l)) (h.fin (by omega) (by omega) (by omega) (by omega) (by omega)) (g.fin (by omega) (by omega) (by omega) (by omega) (by omega))
theorem DivK.less {m z w w' r r' : Int} (h : DivK m z w r) (g : DivK m z w' r') (hw : 0 ≤ w) (l : w ≤ w') (h1 : -9218868437227405312 ≤ z) (h2 : z ≤ 9218868437227405312) (h3 : w' ≤ 9218868437227405312) : (0 ≤ z → r' ≤ r) ∧ (z ≤ 0 → r ≤ r') := by
  have R := h.rng; have R' := g.rng
  constructor
  · intro c
    by_cases z0 : z = 0
    · rw [h.zero z0, g.zero z0]; exact Int.le_refl _
    by_cases i : z = 9218868437227405312 ∨ w = 0
    · have := h.inf (by omega) (by omega); rw [if_pos (by omega)] at this; omega
    by_cases s : w' = 9218868437227405312
    · rw [g.small s (by omega) (by omega)]; exact h.pos c h2 hw (by omega)
    exact exk_mono (rat_div_anti (zv_pos (by omega) (by omega)) (zv_le (by omega) (by omega) (by omega) (by omega) l) (zv_nonneg c (by omega))) (g.fin z0 (by omega) (by omega) (by omega) (by omega)) (h.fin z0 (by omega) (by omega) (by omega) (by omega))
  · intro c
    by_cases z0 : z = 0
    · rw [h.zero z0, g.zero z0]; exact Int.le_refl _
    by_cases i : z = -9218868437227405312 ∨ w = 0
    · have := h.inf (by omega) (by omega); rw [if_neg (by omega)] at this; omega
    by_cases s : w' = 9218868437227405312
    · rw [g.small s (by omega) (by omega)]; exact h.npos c h1 hw (by omega)
    refine exk_mono ?_ (h.fin z0 (by omega) (by omega) (by omega) (by omega)) (g.fin z0 (by omega) (by omega) (by omega) (by omega))
    have := rat_div_anti (a := -zv z) (zv_pos (z := w) (by omega) (by omega)) (zv_le (w := w') (by omega) (by omega) (by omega) (by omega) l) (by have := zv_nonpos (z := z) c (by omega); grind)
    rw [rat_div_neg, rat_div_neg] at this
    grind
theorem DivK.down {z w r : Int} (h : DivK 2 z w r) (h1 : -9218868437227405312 ≤ z) (h2 : z ≤ 9218868437227405312) (h3 : 0 ≤ w) (h4 : w ≤ 9218868437227405312) (e : r = 9218868437227405312) : z = 9218868437227405312 ∨ (0 < z ∧ w = 0) := by
  by_cases z0 : z = 0
  · have := h.zero z0; omega
  by_cases i : z = 9218868437227405312 ∨ z = -9218868437227405312 ∨ w = 0
  · have := h.inf z0 i
    by_cases p : 0 < z
    · omega
    · rw [if_neg p] at this; omega
  by_cases s : w = 9218868437227405312
  · have := h.small s (by omega) (by omega); omega
  have := exk_down (h.fin z0 (by omega) (by omega) (by omega) (by omega)); omega
theorem DivK.up {z w r : Int} (h : DivK 1 z w r) (h1 : -9218868437227405312 ≤ z) (h2 : z ≤ 9218868437227405312) (h3 : 0 ≤ w) (h4 : w ≤ 9218868437227405312) (e : r = -9218868437227405312) : z = -9218868437227405312 ∨ (z < 0 ∧ w = 0) := by
  by_cases z0 : z = 0
  · have := h.zero z0; omega
  by_cases i : z = 9218868437227405312 ∨ z = -9218868437227405312 ∨ w = 0
  · have := h.inf z0 i
    by_cases p : 0 < z
    · rw [if_pos p] at this; omega
    · omega
  by_cases s : w = 9218868437227405312
  · have := h.small s (by omega) (by omega); omega
  have := exk_up (h.fin z0 (by omega) (by omega) (by omega) (by omega)); omega
theorem sign_kf {z : Int} (h1 : -9218868437227405312 ≤ z) (h2 : z ≤ 9218868437227405312) : (shrI IntKind.u64 (kf z) 63 == 1) = decide (z < 0) := shr_sign (by omega)
theorem inf_rk {z : Int} (h0 : z ≠ 0) : p_Inf (decide (z < 0)) = kf (if 0 < z then 9218868437227405312 else -9218868437227405312) := by
  rw [inf_spec]
  by_cases h : 0 < z
  · rw [if_pos h, df (by omega)]; rfl
  · rw [if_neg h, dt (by omega)]; rfl
theorem div_kf {z w : Int} (z0 : z ≠ 0) (h1 : -9218868437227405312 < z) (h2 : z < 9218868437227405312) (h3 : 0 < w) (h4 : w < 9218868437227405312) (m : Int) :
    ∃ v r, Tr.Is (s_Div_t (kf z) (kf w) m) v ∧ Wd v.1 ∧ kz v.1 = some r ∧ ExK (zv z / zv w) m r := by
  obtain ⟨v, a, c⟩ := div_s (s := decide (z < 0)) (t := decide (w < 0)) (k := z.natAbs) (j := w.natAbs) (by omega) (by omega) m
  cases c with
  | nan h e => omega
  | bad h e => omega
  | inf h e => omega
  | by0 h e => omega
  | zero h e => omega
  | fin h e =>
    have h1' := (fv_nz (s := decide (z < 0)) h.1 h.2.2.1).2.1
    have h2' := (fv_nz (s := decide (w < 0)) h.2.1 h.2.2.2).2.1
    obtain ⟨r, d, f⟩ := exF_key (div_nz h1' h2') e
    exact ⟨v, r, a, d.kz.1, d.kz.2, f⟩
theorem class3_kf {z : Int} (h1 : -9218868437227405312 ≤ z) (h2 : z ≤ 9218868437227405312) : (p_Class (kf z) == 3) = decide (z = 9218868437227405312 ∨ z = -9218868437227405312) := by
  have := (class_kf h1 h2).1
  rw [show (p_Class (kf z) == 3) = !(p_Class (kf z) != 3) by simp [bne]]
  rw [this, Bool.eq_iff_iff]; simp only [Bool.not_eq_true', decide_eq_false_iff_not, decide_eq_true_eq]; omega
theorem above1_kf {z w : Int} (h1 : -9218868437227405312 ≤ z) (h2 : z ≤ 9218868437227405312) (h3 : 0 ≤ w) (h4 : w ≤ 9218868437227405312) (m : Int) :
    ∃ x r, Tr.Is (sp_above1_t (kf z) (kf w) m) x ∧ Wd x ∧ kz x = some r ∧ DivK m z w r := by
  have k0 : kz 0 = some 0 := kz_kf (z := 0) (by omega) (by omega)
  have cz := zero_kf h1 h2
  have cw := zero_kf (z := w) (by omega) h4
  have iz := (class_kf h1 h2).1
  have iw := class3_kf (z := w) (by omega) h4
  by_cases z0 : z = 0
  · exact ⟨0, 0, Tr.is_br_t (cz.trans (dt z0)) (Tr.is_leaf rfl), zero_wd, k0, fun _ => rfl, fun _ _ _ => rfl, fun g => by omega, fun g => by omega, by omega⟩
  have I := inf_rk z0
  rw [← sign_kf h1 h2] at I
  have R : -9218868437227405312 ≤ (if 0 < z then 9218868437227405312 else -9218868437227405312 : Int) ∧ (if 0 < z then 9218868437227405312 else -9218868437227405312 : Int) ≤ 9218868437227405312 := by split <;> omega
  by_cases w1 : w = 9218868437227405312
  · by_cases zi : z = 9218868437227405312 ∨ z = -9218868437227405312
    · refine ⟨_, _, Tr.is_br_f (cz.trans (df z0)) (Tr.is_br_t (iw.trans (dt (by omega))) (Tr.is_br_f (iz.trans (df (by omega))) (Tr.is_br_t (iw.trans (dt (by omega))) (Tr.is_leaf I)))), kf_wd R.1 R.2, kz_kf R.1 R.2, fun g => by omega, fun g => by omega, fun _ _ => rfl, fun g => by omega, R⟩
    · exact ⟨0, 0, Tr.is_br_f (cz.trans (df z0)) (Tr.is_br_t (iw.trans (dt (by omega))) (Tr.is_br_t (iz.trans (dt (by omega))) (Tr.is_leaf rfl))), zero_wd, k0, fun _ => rfl, fun _ _ _ => rfl, fun _ g => by omega, fun g => by omega, by omega⟩
  have iwf := iw.trans (df (by omega))
  by_cases w0 : w = 0
  · exact ⟨_, _, Tr.is_br_f (cz.trans (df z0)) (Tr.is_br_f iwf (Tr.is_br_f iwf (Tr.is_br_t (cw.trans (dt w0)) (Tr.is_leaf I)))), kf_wd R.1 R.2, kz_kf R.1 R.2, fun g => by omega, fun g => by omega, fun _ _ => rfl, fun g => by omega, R⟩
  have cwf := cw.trans (df w0)
  by_cases zi : z = 9218868437227405312 ∨ z = -9218868437227405312
  · obtain ⟨v, a, c⟩ := div_s (s := decide (z < 0)) (t := decide (w < 0)) (k := z.natAbs) (j := w.natAbs) (by omega) (by omega) m
    have ev : s_Div (kf z) (kf w) m = v := a.1
    have e2 : v.1 = kf (if 0 < z then 9218868437227405312 else -9218868437227405312) := by
      cases c with
      | nan h e => omega
      | bad h e => omega
      | by0 h e => omega
      | zero h e => omega
      | fin h e => omega
      | inf h e =>
        rw [e, ← inf_rk z0, inf_spec, df (p := w < 0) (by omega), Bool.bne_false]
    exact ⟨_, _, Tr.is_br_f (cz.trans (df z0)) (Tr.is_br_f iwf (Tr.is_br_f iwf (Tr.is_br_f cwf (Tr.is_ast a.2 (Tr.is_leaf (by rw [ev, e2])))))), kf_wd R.1 R.2, kz_kf R.1 R.2, fun g => by omega, fun g => by omega, fun _ _ => rfl, fun g => by omega, R⟩
  · obtain ⟨v, r, a, c, d, e⟩ := div_kf (z := z) (w := w) z0 (by omega) (by omega) (by omega) (by omega) m
    have ev : s_Div (kf z) (kf w) m = v := a.1
    exact ⟨_, _, Tr.is_br_f (cz.trans (df z0)) (Tr.is_br_f iwf (Tr.is_br_f iwf (Tr.is_br_f cwf (Tr.is_ast a.2 (Tr.is_leaf (by rw [ev])))))), c, d, fun g => by omega, fun g => by omega, fun _ g => by omega, fun _ _ _ _ _ => e, exk_rng e⟩
end Go.Fb
namespace Go.Fb
open Go.Ev
def cl (L : Int) : Int := if L = 9218868437227405312 then 9218868437227405311 else L
def ch (H : Int) : Int := if H = -9218868437227405312 then -9218868437227405311 else H
def mulF (m z w : Int) : Int := (kz (sp_Mul1 (kf z) (kf w) m)).getD 0
theorem mulF_spec {z w : Int} (h1 : -9218868437227405312 ≤ z) (h2 : z ≤ 9218868437227405312) (h3 : -9218868437227405312 ≤ w) (h4 : w ≤ 9218868437227405312) (m : Int) : sp_Mul1_s (kf z) (kf w) m = true ∧ Wd (sp_Mul1 (kf z) (kf w) m) ∧ kz (sp_Mul1 (kf z) (kf w) m) = some (mulF m z w) ∧ MulK m z w (mulF m z w) := by
  obtain ⟨x, r, t, a, b, c⟩ := mul1_kf h1 h2 h3 h4 m
  have e : sp_Mul1 (kf z) (kf w) m = x := t.1
  unfold mulF; rw [e, b]; exact ⟨t.2, a, rfl, c⟩
def divF (m z w : Int) : Int := (kz (sp_above1 (kf z) (kf w) m)).getD 0
theorem divF_spec {z w : Int} (h1 : -9218868437227405312 ≤ z) (h2 : z ≤ 9218868437227405312) (h3 : 0 ≤ w) (h4 : w ≤ 9218868437227405312) (m : Int) : sp_above1_s (kf z) (kf w) m = true ∧ Wd (sp_above1 (kf z) (kf w) m) ∧ kz (sp_above1 (kf z) (kf w) m) = some (divF m z w) ∧ DivK m z w (divF m z w) := by
  obtain ⟨x, r, t, a, b, c⟩ := above1_kf h1 h2 h3 h4 m
  have e : sp_above1 (kf z) (kf w) m = x := t.1
  unfold divF; rw [e, b]; exact ⟨t.2, a, rfl, c⟩
end Go.Fb
namespace Go.Fb
open Go.Ev
structure AddK (m z w r : Int) : Prop where
  infz : (z = 9218868437227405312 ∨ z = -9218868437227405312) → r = z
  infw : -9218868437227405312 < z → z < 9218868437227405312 → (w = 9218868437227405312 ∨ w = -9218868437227405312) → r = w
  fin : -9218868437227405312 < z → z < 9218868437227405312 → -9218868437227405312 < w → w < 9218868437227405312 → ExK (zv z + zv w) m r
  rng : -9218868437227405312 ≤ r ∧ r ≤ 9218868437227405312
theorem AddK.mono {m z w z' w' r r' : Int} (h : AddK m z w r) (g : AddK m z' w' r') (a : z ≤ z') (b : w ≤ w') (h1 : -9218868437227405312 ≤ z) (h2 : z' ≤ 9218868437227405312) (h3 : -9218868437227405312 ≤ w) (h4 : w' ≤ 9218868437227405312) : r ≤ r' := by
  have R := h.rng; have R' := g.rng
  by_cases c1 : z = -9218868437227405312
  · have := h.infz (.inr c1); omega
  by_cases c2 : z' = 9218868437227405312
  · have := g.infz (.inl c2); omega
  by_cases c3 : w = -9218868437227405312
  · have := h.infw (by omega) (by omega) (.inr c3); omega
  by_cases c4 : w' = 9218868437227405312
  · have := g.infw (by omega) (by omega) (.inl c4); omega
  refine exk_mono ?_ (h.fin (by omega) (by omega) (by omega) (by omega)) (g.fin (by omega) (by omega) (by omega) (by omega))
  have p := zv_le (z := z) (w := z') (by omega) (by omega) (by omega) (by omega) a
  have q := zv_le (z := w) (w := w') (by omega) (by omega) (by omega) (by omega) b
  grind
theorem add_kf {z w : Int} (h1 : -9218868437227405312 ≤ z) (h2 : z ≤ 9218868437227405312) (h3 : -9218868437227405312 ≤ w) (h4 : w ≤ 9218868437227405312) (hc : ¬ (z = 9218868437227405312 ∧ w = -9218868437227405312)) (hd : ¬ (z = -9218868437227405312 ∧ w = 9218868437227405312)) (m : Int) :
    ∃ v r, Tr.Is (s_Add_t (kf z) (kf w) m) v ∧ Wd v.1 ∧ kz v.1 = some r ∧ AddK m z w r := by
  obtain ⟨v, a, c⟩ := add_s (s := decide (z < 0)) (t := decide (w < 0)) (k := z.natAbs) (j := w.natAbs) (by omega) (by omega) m
  rcases addRK c (by omega) (by omega) with d | ⟨r, d, e⟩
  · exfalso
    cases c with
    | nan h e => omega
    | bad h e =>
      obtain ⟨e1, e2, e3⟩ := h
      refine e3 ?_
      rw [decide_eq_decide]; omega
    | infa h e =>
      rw [e] at d
      have : fl (decide (z < 0)) 9218868437227405312 = fl false 9221120237041090560 := d
      have := (fl_inj (by omega) (by omega) this).2
      omega
    | infb h e =>
      rw [e] at d
      have : fl (decide (w < 0)) 9218868437227405312 = fl false 9221120237041090560 := d
      have := (fl_inj (by omega) (by omega) this).2
      omega
    | fin h w' =>
      have hk : ∃ q, RK v.1 q := by
        rcases w' with ⟨z0, e⟩ | ⟨z0, e⟩
        · rw [e]; split <;> exact ⟨_, _, 0, by omega, rfl, rfl⟩
        · obtain ⟨q, q1, _⟩ := exF_key z0 e; exact ⟨q, q1⟩
      obtain ⟨q, s, n, hn, e, _⟩ := hk
      rw [d] at e
      have : fl false 9221120237041090560 = fl s n := e
      have := (fl_inj (by omega) (by omega) this).2
      omega
  · refine ⟨v, r, a, d.kz.1, d.kz.2, fun g => ?_, fun g1 g2 g3 => ?_, fun g1 g2 g3 g4 => ?_, d.rng⟩
    · rcases e with ⟨e1, e2⟩ | ⟨e1, e2, e3⟩ | ⟨e1, e2, e3⟩
      · rw [e2, ky_kf]
      · omega
      · omega
    · rcases e with ⟨e1, e2⟩ | ⟨e1, e2, e3⟩ | ⟨e1, e2, e3⟩
      · omega
      · rw [e3, ky_kf]
      · omega
    · rcases e with ⟨e1, e2⟩ | ⟨e1, e2, e3⟩ | ⟨e1, e2, e3⟩
      · omega
      · omega
      · exact e3
def addF (m z w : Int) : Int := (kz (s_Add (kf z) (kf w) m).1).getD 0
theorem addF_spec {z w : Int} (h1 : -9218868437227405312 ≤ z) (h2 : z ≤ 9218868437227405312) (h3 : -9218868437227405312 ≤ w) (h4 : w ≤ 9218868437227405312) (hc : ¬ (z = 9218868437227405312 ∧ w = -9218868437227405312)) (hd : ¬ (z = -9218868437227405312 ∧ w = 9218868437227405312)) (m : Int) : s_Add_s (kf z) (kf w) m = true ∧ Wd (s_Add (kf z) (kf w) m).1 ∧ kz (s_Add (kf z) (kf w) m).1 = some (addF m z w) ∧ AddK m z w (addF m z w) := by
  obtain ⟨v, r, t, a, b, c⟩ := add_kf h1 h2 h3 h4 hc hd m
  have e : s_Add (kf z) (kf w) m = v := t.1
  unfold addF; rw [e, b]; exact ⟨t.2, a, rfl, c⟩
theorem absI_mono {A A' : IV} (gA : GI A) (i : insI A A' = true) : insI (absI A) (absI A') = true := by
  match A with
  | none => rfl
  | some (l, h) =>
    obtain ⟨l', h', rfl, j1, j2⟩ := insI_some i
    have p := gA _ _ rfl
    unfold absI
    by_cases c1 : 0 ≤ l <;> by_cases c2 : 0 ≤ l' <;> by_cases d1 : h ≤ 0 <;> by_cases d2 : h' ≤ 0 <;> simp only [c1, c2, d1, d2, if_true, if_false] <;> first | (exact insI_of (by omega) (by omega)) | (exact insI_of (by omega) (by split <;> omega)) | (exact insI_of (by omega) (by split <;> split <;> omega))
theorem Abs_is {a : SP} {A : IV} (hA : GI A) (ha : a = enc A) : sp_Abs_s a = true ∧ sp_Abs a = enc (absI A) := by
  subst ha
  have h := Abs_ws (a := enc A) (enc_ws hA)
  rw [nI_enc hA] at h; exact h
end Go.Fb
namespace Go.Fb
open Go.Ev
theorem zv_ky (s : Bool) {k : Nat} (_h : k < 9218868437227405312) : zv (ky s k) = fv s k := by
  unfold zv
  by_cases k0 : k = 0
  · subst k0; rw [show (ky s 0).natAbs = 0 by cases s <;> rfl, fv_zero, fv_zero]
  · cases s
    · have e : ky false k = (k : Int) := by unfold ky; simp
      rw [e, df (by omega), Int.natAbs_natCast]
    · have e : ky true k = -(k : Int) := by unfold ky; simp
      rw [e, dt (by omega), Int.natAbs_neg, Int.natAbs_natCast]
theorem ky_fin {s : Bool} {k : Nat} (h : -9218868437227405312 < ky s k) (g : ky s k < 9218868437227405312) : k < 9218868437227405312 := by
  cases s
  · unfold ky at g; simp at g; omega
  · unfold ky at h; simp at h; omega
end Go.Fb
namespace Go.Fb
open Go.Ev
def SameT {α : Type} (s t : Tr α) : Prop := ∃ v, Tr.Is s v ∧ Tr.Is t v
theorem SameT.trans' {α : Type} {s t : Tr α} {v : α} (h : SameT s t) (g : Tr.Is s v) : Tr.Is t v := by
  obtain ⟨w, a, b⟩ := h
  have : w = v := a.1.symm.trans g.1
  rw [← this]; exact b
theorem MulK.unique {m z w r r' : Int} (h : MulK m z w r) (g : MulK m z w r') (h1 : -9218868437227405312 ≤ z) (h2 : z ≤ 9218868437227405312) (h3 : -9218868437227405312 ≤ w) (h4 : w ≤ 9218868437227405312) : r = r' := by
  by_cases c : 0 ≤ w
  · have := h.mono g c (Int.le_refl _) h1 h2 h4; have := g.mono h c (Int.le_refl _) h1 h2 h4; omega
  · have := h.anti g (by omega) (Int.le_refl _) h1 h2 h3; have := g.anti h (by omega) (Int.le_refl _) h1 h2 h3; omega
theorem DivK.unique {m z w r r' : Int} (h : DivK m z w r) (g : DivK m z w r') (h1 : -9218868437227405312 ≤ z) (h2 : z ≤ 9218868437227405312) (h3 : 0 ≤ w) (h4 : w ≤ 9218868437227405312) : r = r' := by
  have := h.mono g h3 (Int.le_refl _) h1 h2 h4; have := g.mono h h3 (Int.le_refl _) h1 h2 h4; omega
end Go.Fb
namespace Go.Fb
open Go.Ev
theorem val_kz {v z : Int} (hv : Wd v) (hz : kz v = some z) (h1 : -9218868437227405312 < z) (h2 : z < 9218868437227405312) : p_Value_s v = true ∧ ∃ q, p_Value v = (q, true) ∧ RIs q (zv z) 300 := by
  rcases kz_cases hv with ⟨e, _⟩ | ⟨s, k, hk, rfl, e⟩
  · rw [e] at hz; cases hz
  · rw [e] at hz; injection hz with hz; subst hz
    have kf := ky_fin h1 h2
    rw [zv_ky s kf]
    exact value_spec kf
def InR (L H : Int) (X : Rat) : Prop := (L = -9218868437227405312 ∨ zv L ≤ X) ∧ (H = 9218868437227405312 ∨ X ≤ zv H)
instance (L H : Int) (X : Rat) : Decidable (InR L H X) := by unfold InR; infer_instance
def HasR (A : IV) (X : Rat) : Prop := ∃ l u, A = some (l, u) ∧ InR l u X
theorem HasR.sub {A B : IV} {X : Rat} (h : HasR A X) (hA : GI A) (hB : GI B) (i : insI A B = true) : HasR B X := by
  obtain ⟨l, u, rfl, h1, h2⟩ := h
  obtain ⟨l', u', rfl, i1, i2⟩ := insI_some i
  have p := hA _ _ rfl; have q := hB _ _ rfl
  refine ⟨l', u', rfl, ?_, ?_⟩
  · by_cases c : l' = -9218868437227405312
    · exact .inl c
    · right
      rcases h1 with e | e
      · omega
      · exact Rat.le_trans (zv_le (by omega) (by omega) (by omega) (by omega) i1) e
  · by_cases c : u' = 9218868437227405312
    · exact .inl c
    · right
      rcases h2 with e | e
      · omega
      · exact Rat.le_trans e (zv_le (by omega) (by omega) (by omega) (by omega) i2)
theorem has_pair {A : IV} {z : Int} (hA : GI A) (h : hasI A (some z) = true) : ∃ l u, A = some (l, u) ∧ l ≤ z ∧ z ≤ u ∧ -9218868437227405312 < z ∧ z < 9218868437227405312 := by
  obtain ⟨l, u, rfl, h1, h2, _⟩ := hasI_some.1 h
  have := has_rng hA h
  exact ⟨l, u, rfl, h1, h2, this.2, this.1⟩
end Go.Fb
namespace Go.Fb
open Go.Ev
theorem cmpQ_gtd (x y : Rat) : decide (cmpQ x y > 0) = decide (y < x) := by
  rcases cmpQ_cases x y with ⟨e, h⟩ | ⟨e, h⟩ | ⟨e, h⟩
  · rw [e, df (p := y < x) (Rat.not_lt.2 (Rat.le_of_lt h))]; rfl
  · rw [e, df (p := y < x) (by rw [h]; exact Rat.lt_irrefl)]; rfl
  · rw [e, dt h]; rfl
end Go.Fb
