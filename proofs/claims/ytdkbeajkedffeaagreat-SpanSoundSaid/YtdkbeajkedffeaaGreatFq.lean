/- Spans: the laws hold, in plain Lean. Conditions: as each theorem states. -/
import Derived.Test.YtdkbeajkedffeaaGreatSq
import Derived.Test.YtdkbeajkedffeaaGreatFl
import Derived.Test.YtdkbeajkedffeaaGreatFp
namespace Go.Fb
theorem works16 : l16_works = true ∧ l16_works_s = true := by decide +kernel
end Go.Fb
namespace Go.Fb
open Go.Ev
theorem pre16 {t : Tr Bool} (h : Tr.Is t true) : Tr.Is (.ast l16_works_s (.br (!l16_works) (.leaf false) t)) true :=
  Tr.is_ast works16.2 (Tr.is_br_f (by rw [works16.1]; rfl) h)
end Go.Fb
namespace Go.Fb
open Go.Ev
theorem next_kf {z : Int} (h : -9218868437227405312 ≤ z) (g : z < 9218868437227405312) : Wd (p_Next (kf z)) ∧ kz (p_Next (kf z)) = some (z + 1) ∧ r4_Next (kf z) = p_Next (kf z) := by
  unfold kf
  rw [next_spec (by omega), rnext_spec (by omega)]
  obtain ⟨t, j, e, hj, hk⟩ := ky_next (s := decide (z < 0)) (k := z.natAbs) (by omega) (by
    rintro ⟨h1, h2⟩; have := of_decide_eq_false h1; omega)
  rw [e]; exact ⟨fl_wd (by omega), by rw [kz_fl hj, hk, ky_kf], rfl⟩
theorem prev_kf {z : Int} (h : -9218868437227405312 < z) (g : z ≤ 9218868437227405312) : Wd (p_Prev (kf z)) ∧ kz (p_Prev (kf z)) = some (z - 1) ∧ r4_Prev (kf z) = p_Prev (kf z) := by
  unfold kf
  rw [prev_spec (by omega), rprev_spec (by omega)]
  obtain ⟨t, j, e, hj, hk⟩ := ky_prev (s := decide (z < 0)) (k := z.natAbs) (by omega) (by
    rintro ⟨h1, h2⟩; have := of_decide_eq_true h1; omega)
  rw [e]; exact ⟨fl_wd (by omega), by rw [kz_fl hj, hk, ky_kf], rfl⟩
theorem class_kf {z : Int} (h : -9218868437227405312 ≤ z) (g : z ≤ 9218868437227405312) : (p_Class (kf z) != 3) = decide (z ≠ 9218868437227405312 ∧ z ≠ -9218868437227405312) ∧ r4_Finite (kf z) = decide (z ≠ 9218868437227405312 ∧ z ≠ -9218868437227405312) := by
  unfold kf
  rw [class_ky (by omega), finite_spec (by omega)]
  constructor <;> rw [decide_eq_decide] <;> omega
theorem kp_inf : kz 9218868437227405312 = some 9218868437227405312 := by rw [pinf_kf]; exact kz_kf (by omega) (by omega)
theorem kn_inf : kz 18442240474082181120 = some (-9218868437227405312) := by rw [ninf_kf]; exact kz_kf (by omega) (by omega)
theorem wp_inf : Wd 9218868437227405312 := ⟨by omega, by omega⟩
theorem wn_inf : Wd 18442240474082181120 := ⟨by omega, by omega⟩
end Go.Fb
namespace Go.Fb
open Go.Ev
theorem hasI_some {A : IV} {x : Int} : hasI A (some x) = true ↔ ∃ l h, A = some (l, h) ∧ l ≤ x ∧ x ≤ h ∧ x ≠ 9218868437227405312 ∧ x ≠ -9218868437227405312 := by
  show (match mk x x with | none => false | some p => insI (some p) A) = true ↔ _
  unfold mk
  by_cases c : x ≤ x ∧ x ≠ 9218868437227405312 ∧ x ≠ -9218868437227405312
  · rw [if_pos c]
    constructor
    · intro h
      obtain ⟨l, u, e, h1, h2⟩ := insI_some h
      exact ⟨l, u, e, h1, h2, c.2⟩
    · rintro ⟨l, h, rfl, h1, h2, _⟩; exact insI_of h1 h2
  · rw [if_neg c]
    constructor
    · intro h; cases h
    · rintro ⟨l, h, rfl, h1, h2, h3, h4⟩; exact absurd ⟨Int.le_refl _, h3, h4⟩ c
theorem hasI_none {A : IV} : hasI A none = false := rfl
theorem has_rng {A : IV} (hA : GI A) {x : Int} (h : hasI A (some x) = true) : x < 9218868437227405312 ∧ -9218868437227405312 < x := by
  obtain ⟨l, u, rfl, h1, h2, h3, h4⟩ := hasI_some.1 h
  have := hA _ _ rfl; omega
theorem inside_is {s : SP} {f : Int} (h : WS s) (hf : Wd f) : ∃ v b, Tr.Is (l16_inside_t s f) (v, b) ∧ Wd v ∧ b = sp_Has s v := by
  unfold l16_inside_t l16_inside_T
  cases h1 : sp_Has s f with
  | true => exact ⟨f, true, Tr.is_br_t rfl (Tr.is_leaf rfl), hf, h1.symm⟩
  | false => cases h2 : sp_Has s s.lo with
    | true => exact ⟨s.lo, true, Tr.is_br_f rfl (Tr.is_br_t rfl (Tr.is_leaf rfl)), h.1, h2.symm⟩
    | false => cases h3 : sp_Has s s.hi with
      | true => exact ⟨s.hi, true, Tr.is_br_f rfl (Tr.is_br_f rfl (Tr.is_br_t rfl (Tr.is_leaf rfl))), h.2, h3.symm⟩
      | false => exact ⟨0, _, Tr.is_br_f rfl (Tr.is_br_f rfl (Tr.is_br_f rfl (Tr.is_leaf rfl))), zero_wd, rfl⟩
end Go.Fb
namespace Go.Fb
open Go.Ev
theorem mulfin_s {s t : Bool} {k j : Nat} (hk : k < 9218868437227405312) (hj : j < 9218868437227405312) (mode : Int) :
    ∃ v, Tr.Is (n_Round_t (s != t) (wide_Mul (mant k : Int) (mant j : Int)) (IntKind.i64.wrap (expo k + expo j)) false mode) v ∧
      (k = 0 ∨ j = 0 → v = (fl (s != t) 0, 0)) ∧ (k ≠ 0 → j ≠ 0 → ExF (fv s k * fv t j) mode v) := by
  have m1 := mant_lt k
  have m2 := mant_lt j
  have e1 := @expo_rng k
  have e2 := @expo_rng j
  obtain ⟨w1, w2⟩ := wmul_spec (wd_mant k) (wd_mant j)
  rw [Int.toNat_natCast, Int.toNat_natCast] at w2
  rw [w64 (by omega) (by omega)]
  by_cases h0 : k = 0 ∨ j = 0
  · have hz : mant k * mant j = 0 := by
      rcases h0 with h | h
      · rw [(mant_zero hk).2 h, Nat.zero_mul]
      · rw [(mant_zero hj).2 h, Nat.mul_zero]
    exact ⟨_, nround_zero w1 (w2.trans hz) _ _ _ _, fun _ => rfl, fun g g' => absurd h0 (by omega)⟩
  · have hz : mant k * mant j ≠ 0 := Nat.mul_ne_zero (mant_nz hk (by omega)) (mant_nz hj (by omega))
    obtain ⟨v, v1, v2⟩ := nround_exact w1 (by rw [w2]; exact hz) (s != t) (e := expo k + expo j) (by omega) (by omega) mode
    rw [w2] at v2
    refine ⟨v, v1, fun g => absurd g h0, fun _ _ => ?_⟩
    rw [fv_dy, fv_dy, dy_mul]
    exact v2
theorem mul_s {s t : Bool} {k j : Nat} (hk : k < 9223372036854775808) (hj : j < 9223372036854775808) (mode : Int) :
    ∃ v, Tr.Is (s_Mul_t (fl s k) (fl t j) mode) v ∧ MulV s k t j mode v := by
  have S : s_Mul_t (fl s k) (fl t j) mode = s_Mul_T s_of s_either p_Quiet s_invalid p_Inf wide_Mul n_Round n_Round_s (fl s k) (fl t j) mode := rfl
  rw [S]
  unfold s_Mul_T
  simp only [sof_spec hk, sof_spec hj, either_spec, inf_spec, sinvalid_spec, neg_eq, quiet_val]
  rcases kind k with ⟨h, c4, c3, c0⟩ | ⟨h, c4, c3, c0⟩ | ⟨h, c4, c3, c0⟩ | ⟨h, h0, c4, c3, c0⟩ <;> rcases kind j with ⟨g, d4, d3, d0⟩ | ⟨g, d4, d3, d0⟩ | ⟨g, d4, d3, d0⟩ | ⟨g, g0, d4, d3, d0⟩ <;> simp only [c4, c3, c0, d4, d3, d0]
  · exact ⟨(9221120237041090560, 0), ⟨rfl, rfl⟩, .nan (.inl h) rfl⟩
  · exact ⟨(9221120237041090560, 0), ⟨rfl, rfl⟩, .nan (.inl h) rfl⟩
  · exact ⟨(9221120237041090560, 0), ⟨rfl, rfl⟩, .nan (.inl h) rfl⟩
  · exact ⟨(9221120237041090560, 0), ⟨rfl, rfl⟩, .nan (.inl h) rfl⟩
  · exact ⟨(9221120237041090560, 0), ⟨rfl, rfl⟩, .nan (.inr g) rfl⟩
  · exact ⟨(fl (s != t) 9218868437227405312, 0), ⟨rfl, rfl⟩, .inf (.inl ⟨h, by omega, by omega⟩) rfl⟩
  · exact ⟨(9221120237041090560, 16), ⟨rfl, rfl⟩, .bad (.inl ⟨h, g⟩) rfl⟩
  · exact ⟨(fl (s != t) 9218868437227405312, 0), ⟨rfl, rfl⟩, .inf (.inl ⟨h, by omega, by omega⟩) rfl⟩
  · exact ⟨(9221120237041090560, 0), ⟨rfl, rfl⟩, .nan (.inr g) rfl⟩
  · exact ⟨(9221120237041090560, 16), ⟨rfl, rfl⟩, .bad (.inr ⟨h, g⟩) rfl⟩
  · obtain ⟨v, a, z, _⟩ := mulfin_s (s := s) (t := t) (k := k) (j := j) (by omega) (by omega) mode
    exact ⟨v, Tr.is_br_f rfl (Tr.is_br_f rfl (Tr.is_br_f rfl (Tr.is_ast a.2 (Tr.is_leaf a.1)))), .zero ⟨by omega, by omega, .inl h⟩ (z (.inl h))⟩
  · obtain ⟨v, a, z, _⟩ := mulfin_s (s := s) (t := t) (k := k) (j := j) (by omega) (by omega) mode
    exact ⟨v, Tr.is_br_f rfl (Tr.is_br_f rfl (Tr.is_br_f rfl (Tr.is_ast a.2 (Tr.is_leaf a.1)))), .zero ⟨by omega, by omega, .inl h⟩ (z (.inl h))⟩
  · exact ⟨(9221120237041090560, 0), ⟨rfl, rfl⟩, .nan (.inr g) rfl⟩
  · exact ⟨(fl (s != t) 9218868437227405312, 0), ⟨rfl, rfl⟩, .inf (.inr ⟨g, by omega, by omega⟩) rfl⟩
  · obtain ⟨v, a, z, _⟩ := mulfin_s (s := s) (t := t) (k := k) (j := j) (by omega) (by omega) mode
    exact ⟨v, Tr.is_br_f rfl (Tr.is_br_f rfl (Tr.is_br_f rfl (Tr.is_ast a.2 (Tr.is_leaf a.1)))), .zero ⟨by omega, by omega, .inr g⟩ (z (.inr g))⟩
  · obtain ⟨v, a, _, z⟩ := mulfin_s (s := s) (t := t) (k := k) (j := j) (by omega) (by omega) mode
    exact ⟨v, Tr.is_br_f rfl (Tr.is_br_f rfl (Tr.is_br_f rfl (Tr.is_ast a.2 (Tr.is_leaf a.1)))), .fin ⟨by omega, by omega, h0, g0⟩ (z h0 g0)⟩
theorem divfin_s {s t : Bool} {k j : Nat} (hk : k < 9218868437227405312) (hj : j < 9218868437227405312) (k0 : k ≠ 0) (j0 : j ≠ 0) (mode : Int) :
    ∃ v, (decide (0 ≤ IntKind.i64.wrap (64 - u2_Len (U2.mk 0 (mant k : Int)))) = true ∧ u2_Div_s (U2.mk (shlI IntKind.u64 (mant k : Int) (IntKind.i64.wrap (64 - u2_Len (U2.mk 0 (mant k : Int))))) 0) (mant j : Int) = true ∧
      Tr.Is (n_Round_t (s != t) (u2_Div (U2.mk (shlI IntKind.u64 (mant k : Int) (IntKind.i64.wrap (64 - u2_Len (U2.mk 0 (mant k : Int))))) 0) (mant j : Int)).fst
        (IntKind.i64.wrap (IntKind.i64.wrap (IntKind.i64.wrap (expo k - IntKind.i64.wrap (64 - u2_Len (U2.mk 0 (mant k : Int)))) - 64) - expo j))
        ((u2_Div (U2.mk (shlI IntKind.u64 (mant k : Int) (IntKind.i64.wrap (64 - u2_Len (U2.mk 0 (mant k : Int))))) 0) (mant j : Int)).snd != 0) mode) v) ∧
      ExF (fv s k / fv t j) mode v := by
  have m1 := mant_lt k
  have m2 := mant_lt j
  have n1 := mant_nz hk k0
  have n2' := mant_nz hj j0
  have e1 := @expo_rng k
  have e2 := @expo_rng j
  obtain ⟨L, l1, l2, l3, l4⟩ := len_mant hk k0
  obtain ⟨_, b4, b2⟩ := of1_spec (wd_mant k)
  obtain ⟨_, c4, c2⟩ := of1_spec (wd_mant j)
  rw [Int.toNat_natCast] at b2 c2
  obtain ⟨sh, hsh⟩ : ∃ sh : Nat, sh + L = 64 := ⟨64 - L, by omega⟩
  have esh : IntKind.i64.wrap (64 - u2_Len (U2.mk 0 (mant k : Int))) = (sh : Int) := by rw [l1, w64 (by omega) (by omega)]; omega
  rw [esh]
  have p64 : mant k * 2 ^ sh < 18446744073709551616 := by
    have := Nat.mul_lt_mul_of_pos_right l2.1 (Nat.two_pow_pos sh)
    rw [← Nat.pow_add, show L + sh = 64 by omega, show (2 : Nat) ^ 64 = 18446744073709551616 from rfl] at this
    exact this
  have p63 : 9223372036854775808 ≤ mant k * 2 ^ sh := by
    have h2 : 2 ^ (L - 1) ≤ mant k := by rcases l2.2 with h | h; omega; exact h
    have := Nat.mul_le_mul_right (2 ^ sh) h2
    rw [← Nat.pow_add, show L - 1 + sh = 63 by omega, show (2 : Nat) ^ 63 = 9223372036854775808 from rfl] at this
    exact this
  have eshl : shlI .u64 (mant k : Int) (sh : Int) = ((mant k * 2 ^ sh : Nat) : Int) := by rw [shl_nat _ _ (by omega), Nat.mod_eq_of_lt p64]
  rw [eshl]
  have hnum : n2 ⟨((mant k * 2 ^ sh : Nat) : Int), 0⟩ = mant k * 2 ^ (sh + 64) := by
    rw [n2_hi, Nat.pow_add, show (2 : Nat) ^ 64 = 18446744073709551616 from rfl, ← Nat.mul_assoc, Nat.mul_assoc, Nat.mul_comm 18446744073709551616 (mant k * 2 ^ sh), Nat.mul_assoc]
  obtain ⟨d1, d2, d3, d4, d5⟩ := udiv_spec (a := ⟨((mant k * 2 ^ sh : Nat) : Int), 0⟩) (by unfold W2 Wd; dsimp only; omega) (wd_mant j) (by rw [Int.toNat_natCast]; omega)
  rw [hnum, Int.toNat_natCast] at d3 d5
  generalize u2_Div (U2.mk ((mant k * 2 ^ sh : Nat) : Int) 0) (mant j : Int) = Q at *
  obtain ⟨qq, ql⟩ := Q
  dsimp only at d2 d3 d4 d5 ⊢
  have hnb : mant k * 2 ^ (sh + 64) = mant k * 2 ^ sh * 18446744073709551616 := by rw [Nat.pow_add, ← Nat.mul_assoc]
  have hq : 9007199254740992 ≤ n2 qq := by
    rw [d3, Nat.le_div_iff_mul_le (by omega), hnb]
    omega
  have dm := Nat.div_add_mod (mant k * 2 ^ (sh + 64)) (mant j)
  have dl := Nat.mod_lt (mant k * 2 ^ (sh + 64)) (show 0 < mant j by omega)
  have erest : (ql != 0) = decide (mant k * 2 ^ (sh + 64) % mant j ≠ 0) := by
    have h1 := d4
    unfold Wd at h1
    by_cases g : ql = 0
    · rw [nbf g, df (by omega)]
    · rw [nbt g, dt (by omega)]
  have ee : IntKind.i64.wrap (IntKind.i64.wrap (IntKind.i64.wrap (expo k - (sh : Int)) - 64) - expo j) = expo k - sh - 64 - expo j := by
    rw [w64 (n := expo k - (sh : Int)) (by omega) (by omega), w64 (n := expo k - (sh : Int) - 64) (by omega) (by omega), w64 (by omega) (by omega)]
  rw [erest, ee]
  have hx : XIs ⟨r1_Of1 (mant k : Int), r1_Of1 (mant j : Int), expo k - expo j, false⟩ (mant k) (mant j) := xIs_bits b2 c2 (by omega) (by omega) (by omega) (by omega)
  have hin : In (xOf 3925 ⟨r1_Of1 (mant k : Int), r1_Of1 (mant j : Int), expo k - expo j, false⟩) (2 ^ (5000 + (expo k - sh - 64 - expo j)).toNat) (n2 qq) (decide (mant k * 2 ^ (sh + 64) % mant j ≠ 0)) := by
    rw [d3]
    exact div_in b2 c2 (by omega) dm.symm dl rfl (by omega) (by omega)
  obtain ⟨v, v1, v2⟩ := nround_in d2 (by omega) (s != t) (e := expo k - sh - 64 - expo j) (by omega) (by omega) (fun _ => hq) mode (Nat.mul_ne_zero n1 (two_nz _)) (Nat.mul_ne_zero n2' (two_nz _)) (fun y => xOf_q hx rfl (Nat.le_refl _) y) hin
  refine ⟨v, ⟨dt (by omega), d1, v1⟩, ?_⟩
  rw [fv_dy, fv_dy, dy_div]
  exact v2
theorem div_s {s t : Bool} {k j : Nat} (hk : k < 9223372036854775808) (hj : j < 9223372036854775808) (mode : Int) :
    ∃ v, Tr.Is (s_Div_t (fl s k) (fl t j) mode) v ∧ DivV s k t j mode v := by
  have S : s_Div_t (fl s k) (fl t j) mode = s_Div_T s_of s_either p_Quiet s_invalid p_Inf s_zero u2_Len u2_Div u2_Div_s n_Round n_Round_s (fl s k) (fl t j) mode := rfl
  rw [S]
  unfold s_Div_T
  simp only [sof_spec hk, sof_spec hj, either_spec, inf_spec, sinvalid_spec, szero_spec, neg_eq, quiet_val]
  have ck := cls_cases k
  have cj := cls_cases j
  rcases kind k with ⟨h, c4, c3, c0⟩ | ⟨h, c4, c3, c0⟩ | ⟨h, c4, c3, c0⟩ | ⟨h, h0, c4, c3, c0⟩ <;> rcases kind j with ⟨g, d4, d3, d0⟩ | ⟨g, d4, d3, d0⟩ | ⟨g, d4, d3, d0⟩ | ⟨g, g0, d4, d3, d0⟩ <;> simp only [c4, c3, c0, d4, d3, d0]
  · exact ⟨(9221120237041090560, 0), ⟨rfl, rfl⟩, .nan (.inl h) rfl⟩
  · exact ⟨(9221120237041090560, 0), ⟨rfl, rfl⟩, .nan (.inl h) rfl⟩
  · exact ⟨(9221120237041090560, 0), ⟨rfl, rfl⟩, .nan (.inl h) rfl⟩
  · exact ⟨(9221120237041090560, 0), ⟨rfl, rfl⟩, .nan (.inl h) rfl⟩
  · exact ⟨(9221120237041090560, 0), ⟨rfl, rfl⟩, .nan (.inr g) rfl⟩
  · have e : (cls k == cls j) = true := bt (by omega)
    rw [e]
    exact ⟨(9221120237041090560, 16), ⟨rfl, rfl⟩, .bad (.inl ⟨h, g⟩) rfl⟩
  · have e : (cls k == cls j) = false := bf (by omega)
    rw [e]
    exact ⟨(fl (s != t) 9218868437227405312, 0), ⟨rfl, rfl⟩, .inf ⟨h, by omega⟩ rfl⟩
  · have e : (cls k == cls j) = false := bf (by omega)
    rw [e]
    exact ⟨(fl (s != t) 9218868437227405312, 0), ⟨rfl, rfl⟩, .inf ⟨h, by omega⟩ rfl⟩
  · exact ⟨(9221120237041090560, 0), ⟨rfl, rfl⟩, .nan (.inr g) rfl⟩
  · have e : (cls k == cls j) = false := bf (by omega)
    rw [e]
    exact ⟨(fl (s != t) 0, 0), ⟨rfl, rfl⟩, .zero (.inl ⟨h, by omega, by omega⟩) rfl⟩
  · have e : (cls k == cls j) = true := bt (by omega)
    rw [e]
    exact ⟨(9221120237041090560, 16), ⟨rfl, rfl⟩, .bad (.inr ⟨h, g⟩) rfl⟩
  · have e : (cls k == cls j) = false := bf (by omega)
    rw [e]
    exact ⟨(fl (s != t) 0, 0), ⟨rfl, rfl⟩, .zero (.inl ⟨h, by omega, by omega⟩) rfl⟩
  · exact ⟨(9221120237041090560, 0), ⟨rfl, rfl⟩, .nan (.inr g) rfl⟩
  · have e : (cls k == cls j) = false := bf (by omega)
    rw [e]
    exact ⟨(fl (s != t) 0, 0), ⟨rfl, rfl⟩, .zero (.inr ⟨h, g⟩) rfl⟩
  · have e : (cls k == cls j) = false := bf (by omega)
    rw [e]
    exact ⟨(fl (s != t) 9218868437227405312, 8), ⟨rfl, rfl⟩, .by0 ⟨h, h0, g⟩ rfl⟩
  · obtain ⟨v, ⟨a1, a2, a3⟩, z⟩ := divfin_s (s := s) (t := t) h g h0 g0 mode
    refine ⟨v, ?_, .fin ⟨h, g, h0, g0⟩ z⟩
    refine Tr.is_br_f rfl ?_
    rcases clsEq (k := k) (j := j) with e | e <;> rw [e]
    · exact Tr.is_br_t rfl (Tr.is_br_f rfl (Tr.is_br_f rfl (Tr.is_br_f rfl (Tr.is_br_f rfl (Tr.is_br_f rfl (Tr.is_br_f rfl (Tr.is_ast a1 (Tr.is_ast a2 (Tr.is_ast a3.2 (Tr.is_leaf a3.1))))))))))
    · exact Tr.is_br_f rfl (Tr.is_br_f rfl (Tr.is_br_f rfl (Tr.is_br_f rfl (Tr.is_br_f rfl (Tr.is_ast a1 (Tr.is_ast a2 (Tr.is_ast a3.2 (Tr.is_leaf a3.1))))))))
theorem add_s {s t : Bool} {k j : Nat} (hk : k < 9223372036854775808) (hj : j < 9223372036854775808) (mode : Int) :
    ∃ v, Tr.Is (s_Add_t (fl s k) (fl t j) mode) v ∧ AddV s k t j mode v := by
  have A := sof_spec (s := s) hk
  have B := sof_spec (s := t) hj
  have ei := either_spec (s_of (fl s k)) (s_of (fl t j)) 4
  have sa : ((s_of (fl s k)).c == 3) = (cls k == 3) := by rw [A]
  have sb : ((s_of (fl t j)).c == 3) = (cls j == 3) := by rw [B]
  have sn : ((s_of (fl s k)).neg == (s_of (fl t j)).neg) = (s == t) := by rw [A, B]
  have ei : s_either (s_of (fl s k)) (s_of (fl t j)) 4 = (cls k == 4 || cls j == 4) := by rw [ei, A, B]
  rcases kind k with ⟨h, c4, c3, c0⟩ | ⟨h, c4, c3, c0⟩ | ⟨h, c4, c3, c0⟩ | ⟨h, h0, c4, c3, c0⟩
  · exact ⟨_, sAdd_nan (by rw [ei, c4]; rfl), .nan (.inl h) rfl⟩
  · rcases kind j with ⟨g, d4, d3, d0⟩ | ⟨g, d4, d3, d0⟩ | ⟨g, d4, d3, d0⟩ | ⟨g, g0, d4, d3, d0⟩
    · exact ⟨_, sAdd_nan (by rw [ei, d4, c4]; rfl), .nan (.inr g) rfl⟩
    · have p := sAdd_ii (mode := mode) (by rw [ei, d4, c4]; rfl) (sa.trans c3) (sb.trans d3)
      rw [sn] at p
      refine ⟨_, p, ?_⟩
      by_cases hst : s = t
      · exact .infa ⟨h, by omega, fun _ => hst⟩ (by rw [if_pos (by rw [hst]; simp), h])
      · exact .bad ⟨h, g, hst⟩ (by rw [if_neg (by simpa using hst)])
    · exact ⟨_, sAdd_if (by rw [ei, d4, c4]; rfl) (sa.trans c3) (sb.trans d3), .infa ⟨h, by omega, fun g => by omega⟩ (by rw [h])⟩
    · exact ⟨_, sAdd_if (by rw [ei, d4, c4]; rfl) (sa.trans c3) (sb.trans d3), .infa ⟨h, by omega, fun g => by omega⟩ (by rw [h])⟩
  all_goals
    have hf : k < 9218868437227405312 := by omega
    rcases kind j with ⟨g, d4, d3, d0⟩ | ⟨g, d4, d3, d0⟩ | ⟨g, d4, d3, d0⟩ | ⟨g, g0, d4, d3, d0⟩
    · exact ⟨_, sAdd_nan (by rw [ei, d4, c4]; rfl), .nan (.inr g) rfl⟩
    · exact ⟨_, sAdd_fi (by rw [ei, d4, c4]; rfl) (sa.trans c3) (sb.trans d3), .infb ⟨hf, g⟩ (by rw [g])⟩
    all_goals
      have gf : j < 9218868437227405312 := by omega
      obtain ⟨v, w, w1, w2, w3, w4⟩ := addfin (s := s) (t := t) hk hj hf gf mode
      refine ⟨v, sAdd_ff (by rw [ei, d4, c4]; rfl) (sa.trans c3) (sb.trans d3) ?_ ?_ ?_ ?_, .fin ⟨hf, gf⟩ w⟩
      · rw [A, B]; exact w1
      · rw [A, B]; exact w2
      · rw [A, B]; exact w3
      · intro p q; rw [A] at p; rw [B] at q; exact w4 p q
end Go.Fb
namespace Go.Fb
open Go.Ev
def zv (z : Int) : Rat := fv (decide (z < 0)) z.natAbs
theorem zv_zero : zv 0 = 0 := fv_zero _
theorem zv_neg (z : Int) : zv (-z) = -zv z := by
  by_cases h : z = 0
  · subst h; rw [Int.neg_zero, zv_zero]; rfl
  · unfold zv
    rw [Int.natAbs_neg, ← fv_neg]
    congr 1
    rw [Bool.eq_iff_iff]; simp only [decide_eq_true_eq, Bool.not_eq_true', decide_eq_false_iff_not]; omega
theorem zv_lt {z w : Int} (h : -9218868437227405312 < z) (g : z < 9218868437227405312) (h' : -9218868437227405312 < w) (g' : w < 9218868437227405312) : zv z < zv w ↔ z < w := by
  unfold zv; rw [fv_lt (by omega) (by omega), ky_kf, ky_kf]
theorem zv_le {z w : Int} (h : -9218868437227405312 < z) (g : z < 9218868437227405312) (h' : -9218868437227405312 < w) (g' : w < 9218868437227405312) (l : z ≤ w) : zv z ≤ zv w := by
  refine Rat.not_lt.1 fun c => ?_
  have := (zv_lt h' g' h g).1 c; omega
theorem zv_pos {z : Int} (h : 0 < z) (g : z < 9218868437227405312) : 0 < zv z := by rw [← zv_zero]; exact (zv_lt (by omega) (by omega) (by omega) (by omega)).2 h
theorem zv_nonneg {z : Int} (h : 0 ≤ z) (g : z < 9218868437227405312) : 0 ≤ zv z := by rw [← zv_zero]; exact zv_le (by omega) (by omega) (by omega) (by omega) h
theorem zv_nonpos {z : Int} (h : z ≤ 0) (g : -9218868437227405312 < z) : zv z ≤ 0 := by rw [← zv_zero]; exact zv_le (by omega) (by omega) (by omega) (by omega) h
theorem RK.kz {x z : Int} (h : RK x z) : Wd x ∧ kz x = some z := by
  obtain ⟨q, m, hm, rfl, rfl⟩ := h
  exact ⟨fl_wd (by omega), kz_fl hm⟩
theorem exk_rng {x : Rat} {m z : Int} (h : ExK x m z) : -9218868437227405312 ≤ z ∧ z ≤ 9218868437227405312 := by
  rcases h with ⟨_, h⟩ | ⟨_, K, a, b, _, h⟩
  · omega
  · rw [h, ← rk_eq (sm := false)]
    have := @rans_le K a b false (wayOf (decide (x < 0)) m)
    exact ky_rng this
theorem exk_zero (m : Int) : ExK 0 m 0 := .inl ⟨rfl, rfl⟩
theorem exk_nonneg {x : Rat} {m z : Int} (h : ExK x m z) (g : 0 ≤ x) : 0 ≤ z := exk_mono g (exk_zero m) h
theorem exk_nonpos {x : Rat} {m z : Int} (h : ExK x m z) (g : x ≤ 0) : z ≤ 0 := exk_mono g h (exk_zero m)
theorem exk_down {x : Rat} {z : Int} (h : ExK x 2 z) : z < 9218868437227405312 := by
  rcases h with ⟨_, h⟩ | ⟨_, K, a, b, _, h⟩
  · omega
  · by_cases c : x < 0
    · rw [dt c] at h; unfold ky at h; rw [if_pos rfl] at h; omega
    · rw [df c] at h; unfold ky at h; rw [if_neg (by simp)] at h
      have e : rk K a b (wayOf false 2) ≤ 9218868437227405311 := by
        show (rans K a b false 2).1 ≤ _
        unfold rans
        split
        · rw [if_pos rfl]; omega
        · dsimp only; omega
      omega
theorem exk_up {x : Rat} {z : Int} (h : ExK x 1 z) : -9218868437227405312 < z := by
  rcases h with ⟨_, h⟩ | ⟨_, K, a, b, _, h⟩
  · omega
  · by_cases c : x < 0
    · rw [dt c] at h; unfold ky at h; rw [if_pos rfl] at h
      have e : rk K a b (wayOf true 1) ≤ 9218868437227405311 := by
        show (rans K a b false 2).1 ≤ _
        unfold rans
        split
        · rw [if_pos rfl]; omega
        · dsimp only; omega
      omega
    · rw [df c] at h; unfold ky at h; rw [if_neg (by simp)] at h; omega
theorem exk_order2 {x : Rat} {d u : Int} (a : ExK x 2 d) (c : ExK x 1 u) : d ≤ u := by
  have := exk_order a a c; omega
structure MulK (m z w r : Int) : Prop where
  zero : z = 0 ∨ w = 0 → r = 0
  inf : z ≠ 0 → w ≠ 0 → (z = 9218868437227405312 ∨ z = -9218868437227405312 ∨ w = 9218868437227405312 ∨ w = -9218868437227405312) → r = if (0 < z) = (0 < w) then 9218868437227405312 else -9218868437227405312
  fin : -9218868437227405312 < z → z < 9218868437227405312 → -9218868437227405312 < w → w < 9218868437227405312 → ExK (zv z * zv w) m r
  rng : -9218868437227405312 ≤ r ∧ r ≤ 9218868437227405312
theorem MulK.symm {m z w r : Int} (h : MulK m z w r) : MulK m w z r where
  zero g := h.zero g.symm
  inf a b c := by
    rw [h.inf b a (by omega)]
    by_cases p : 0 < z <;> by_cases q : 0 < w <;> simp [p, q]
  fin a b c d := by rw [Rat.mul_comm]; exact h.fin c d a b
  rng := h.rng
theorem MulK.neg {m z w r : Int} (h : MulK m z w r) : MulK m (-z) (-w) r where
  zero g := h.zero (by omega)
  inf a b c := by
    rw [h.inf (by omega) (by omega) (by omega)]
    have e : ((0 < z) = (0 < w)) = ((0 < -z) = (0 < -w)) := by
      rw [eq_iff_iff, eq_iff_iff, eq_iff_iff]; omega
    simp only [e]
  fin a b c d := by
    rw [zv_neg, zv_neg, show -zv z * -zv w = zv z * zv w by grind]
    exact h.fin (by omega) (by omega) (by omega) (by omega)
  rng := h.rng
theorem MulK.pos {m z w r : Int} (h : MulK m z w r) (hz : 0 < z) (hw : 0 < w) (h1 : z ≤ 9218868437227405312) (h2 : w ≤ 9218868437227405312) : 0 ≤ r := by
  by_cases c : z = 9218868437227405312 ∨ w = 9218868437227405312
  · have := h.inf (by omega) (by omega) (by omega)
    rw [if_pos (by rw [eq_iff_iff]; omega)] at this; omega
  · exact exk_nonneg (h.fin (by omega) (by omega) (by omega) (by omega)) (Rat.mul_nonneg (zv_nonneg (by omega) (by omega)) (zv_nonneg (by omega) (by omega)))
theorem MulK.npos {m z w r : Int} (h : MulK m z w r) (hz : z < 0) (hw : 0 < w) (h1 : -9218868437227405312 ≤ z) (h2 : w ≤ 9218868437227405312) : r ≤ 0 := by
  by_cases c : z = -9218868437227405312 ∨ w = 9218868437227405312
  · have := h.inf (by omega) (by omega) (by omega)
    rw [if_neg (by rw [eq_iff_iff]; omega)] at this; omega
  · refine exk_nonpos (h.fin (by omega) (by omega) (by omega) (by omega)) ?_
    have p := zv_nonpos (z := z) (by omega) (by omega)
    have q := zv_nonneg (z := w) (by omega) (by omega)
    have := Rat.mul_le_mul_of_nonneg_right p q
    rwa [Rat.zero_mul] at this
theorem MulK.mono {m z z' w r r' : Int} (h : MulK m z w r) (g : MulK m z' w r') (hw : 0 ≤ w) (l : z ≤ z') (h1 : -9218868437227405312 ≤ z) (h2 : z' ≤ 9218868437227405312) (h3 : w ≤ 9218868437227405312) : r ≤ r' := by
  have R := h.rng; have R' := g.rng
  by_cases w0 : w = 0
  · rw [h.zero (.inr w0), g.zero (.inr w0)]; exact Int.le_refl _
  have sl : z ≤ 0 → r ≤ 0 := fun c => by
    by_cases d : z = 0
    · rw [h.zero (.inl d)]; exact Int.le_refl _
    · exact h.npos (by omega) (by omega) h1 h3
  have sg : 0 ≤ z' → 0 ≤ r' := fun c => by
    by_cases d : z' = 0
    · rw [g.zero (.inl d)]; exact Int.le_refl _
    · exact g.pos (by omega) (by omega) h2 h3
  by_cases c : z ≤ 0 ∧ 0 ≤ z'
  · have := sl c.1; have := sg c.2; omega
  · by_cases c1 : 0 < z
    · by_cases i' : z' = 9218868437227405312 ∨ w = 9218868437227405312
      · have := g.inf (by omega) (by omega) (by omega)
        rw [if_pos (by rw [eq_iff_iff]; omega)] at this; omega
      · exact exk_mono (Rat.mul_le_mul_of_nonneg_right (zv_le (by omega) (by omega) (by omega) (by omega) l) (zv_nonneg (by omega) (by omega))) (h.fin (by omega) (by omega) (by omega) (by omega)) (g.fin (by omega) (by omega) (by omega) (by omega))
    · by_cases i' : z = -9218868437227405312 ∨ w = 9218868437227405312
      · have := h.inf (by omega) (by omega) (by omega)
        rw [if_neg (by rw [eq_iff_iff]; omega)] at this; omega
      · exact exk_mono (Rat.mul_le_mul_of_nonneg_right (zv_le (by omega) (by omega) (by omega) (by omega) l) (zv_nonneg (by omega) (by omega))) (h.fin (by omega) (by omega) (by omega) (by omega)) (g.fin (by omega) (by omega) (by omega) (by omega))
theorem MulK.anti {m z z' w r r' : Int} (h : MulK m z w r) (g : MulK m z' w r') (hw : w ≤ 0) (l : z ≤ z') (h1 : -9218868437227405312 ≤ z) (h2 : z' ≤ 9218868437227405312) (h3 : -9218868437227405312 ≤ w) : r' ≤ r :=
  MulK.mono g.neg h.neg (by omega) (by omega) (by omega) (by omega) (by omega)
theorem MulK.order {z w d u : Int} (h : MulK 2 z w d) (g : MulK 1 z w u) (h1 : -9218868437227405312 ≤ z) (h2 : z ≤ 9218868437227405312) (h3 : -9218868437227405312 ≤ w) (h4 : w ≤ 9218868437227405312) : d ≤ u := by
  by_cases c : z = 0 ∨ w = 0
  · rw [h.zero c, g.zero c]; exact Int.le_refl _
  · by_cases i : z = 9218868437227405312 ∨ z = -9218868437227405312 ∨ w = 9218868437227405312 ∨ w = -9218868437227405312
    · rw [h.inf (by omega) (by omega) i, g.inf (by omega) (by omega) i]; exact Int.le_refl _
    · exact exk_order2 (h.fin (by omega) (by omega) (by omega) (by omega)) (g.fin (by omega) (by omega) (by omega) (by omega))
theorem MulK.down {z w r : Int} (h : MulK 2 z w r) (h1 : -9218868437227405312 ≤ z) (h2 : z ≤ 9218868437227405312) (h3 : -9218868437227405312 ≤ w) (h4 : w ≤ 9218868437227405312) (e : r = 9218868437227405312) : (z = 9218868437227405312 ∧ 0 < w) ∨ (z = -9218868437227405312 ∧ w < 0) ∨ (w = 9218868437227405312 ∧ 0 < z) ∨ (w = -9218868437227405312 ∧ z < 0) := by
  by_cases c : z = 0 ∨ w = 0
  · have := h.zero c; omega
  · by_cases i : z = 9218868437227405312 ∨ z = -9218868437227405312 ∨ w = 9218868437227405312 ∨ w = -9218868437227405312
    · have := h.inf (by omega) (by omega) i
      by_cases p : (0 < z) = (0 < w)
      · rw [eq_iff_iff] at p; omega
      · rw [if_neg p] at this; omega
    · have := exk_down (h.fin (by omega) (by omega) (by omega) (by omega)); omega
theorem MulK.up {z w r : Int} (h : MulK 1 z w r) (h1 : -9218868437227405312 ≤ z) (h2 : z ≤ 9218868437227405312) (h3 : -9218868437227405312 ≤ w) (h4 : w ≤ 9218868437227405312) (e : r = -9218868437227405312) : (z = 9218868437227405312 ∧ w < 0) ∨ (z = -9218868437227405312 ∧ 0 < w) ∨ (w = 9218868437227405312 ∧ z < 0) ∨ (w = -9218868437227405312 ∧ 0 < z) := by
  by_cases c : z = 0 ∨ w = 0
  · have := h.zero c; omega
  · by_cases i : z = 9218868437227405312 ∨ z = -9218868437227405312 ∨ w = 9218868437227405312 ∨ w = -9218868437227405312
    · have := h.inf (by omega) (by omega) i
      by_cases p : (0 < z) = (0 < w)
      · rw [if_pos p] at this; omega
      · rw [eq_iff_iff] at p; omega
    · have := exk_up (h.fin (by omega) (by omega) (by omega) (by omega)); omega
theorem zero_kf {z : Int} (h : -9218868437227405312 ≤ z) (g : z ≤ 9218868437227405312) : sp_zero (kf z) = decide (z = 0) := by
  show (p_Class (fl _ _) == 0) = _
  rw [class_spec (by omega), cls0, decide_eq_decide]; omega
theorem ky_sgn {z : Int} (h0 : z ≠ 0) (b : Bool) : ky (decide (z < 0) != b) 9218868437227405312 = if (0 < z) = (b = false) then 9218868437227405312 else -9218868437227405312 := by
  by_cases h : z < 0
  · rw [dt h]; cases b
    · rw [if_neg (by rw [eq_iff_iff]; simp; omega)]; rfl
    · rw [if_pos (by rw [eq_iff_iff]; simp; omega)]; rfl
  · rw [df h]; cases b
    · rw [if_pos (by rw [eq_iff_iff]; simp; omega)]; rfl
    · rw [if_neg (by rw [eq_iff_iff]; simp; omega)]; rfl
theorem mul_kf {z w : Int} (h1 : -9218868437227405312 ≤ z) (h2 : z ≤ 9218868437227405312) (h3 : -9218868437227405312 ≤ w) (h4 : w ≤ 9218868437227405312) (m : Int) :
    ∃ v, Tr.Is (s_Mul_t (kf z) (kf w) m) v ∧ (z ≠ 0 → w ≠ 0 → ∃ r, Wd v.1 ∧ kz v.1 = some r ∧ MulK m z w r) := by
  obtain ⟨v, a, c⟩ := mul_s (s := decide (z < 0)) (t := decide (w < 0)) (k := z.natAbs) (j := w.natAbs) (by omega) (by omega) m
  refine ⟨v, a, fun z0 w0 => ?_⟩
  rcases mulRK c (by omega) (by omega) with ⟨_, d⟩ | ⟨r, d, e⟩
  · omega
  · refine ⟨r, d.kz.1, d.kz.2, fun g => by omega, fun _ _ i => ?_, fun i1 i2 i3 i4 => ?_, d.rng⟩
    · rcases e with ⟨e1, e2, e3, e4⟩ | ⟨e1, e2, e3⟩
      · rw [e4, ky_sgn z0]
        have : (decide (w < 0) = false) = (0 < w) := by rw [eq_iff_iff]; simp only [decide_eq_false_iff_not]; omega
        simp only [this]
      · omega
    · rcases e with ⟨e1, e2, e3, e4⟩ | ⟨e1, e2, e3⟩
      · omega
      · exact e3
theorem mul1_kf {z w : Int} (h1 : -9218868437227405312 ≤ z) (h2 : z ≤ 9218868437227405312) (h3 : -9218868437227405312 ≤ w) (h4 : w ≤ 9218868437227405312) (m : Int) :
    ∃ x r, Tr.Is (sp_Mul1_t (kf z) (kf w) m) x ∧ Wd x ∧ kz x = some r ∧ MulK m z w r := by
  obtain ⟨v, a, c⟩ := mul_kf h1 h2 h3 h4 m
  have k0 : kz 0 = some 0 := kz_kf (z := 0) (by omega) (by omega)
  by_cases z0 : z = 0
  · exact ⟨0, 0, Tr.is_br_t ((zero_kf h1 h2).trans (dt z0)) (Tr.is_leaf rfl), zero_wd, k0, fun _ => rfl, fun g => by omega, fun _ _ _ _ => by rw [z0, zv_zero, Rat.zero_mul]; exact exk_zero m, by omega⟩
  by_cases w0 : w = 0
  · exact ⟨0, 0, Tr.is_br_f ((zero_kf h1 h2).trans (df z0)) (Tr.is_br_t ((zero_kf h3 h4).trans (dt w0)) (Tr.is_leaf rfl)), zero_wd, k0, fun _ => rfl, fun _ g => by omega, fun _ _ _ _ => by rw [w0, zv_zero, Rat.mul_zero]; exact exk_zero m, by omega⟩
  obtain ⟨r, d, e, f⟩ := c z0 w0
  have ev : s_Mul (kf z) (kf w) m = v := a.1
  exact ⟨v.1, r, Tr.is_br_f ((zero_kf h1 h2).trans (df z0)) (Tr.is_br_f ((zero_kf h3 h4).trans (df w0)) (Tr.is_ast a.2 (Tr.is_leaf (by rw [ev])))), d, e, f⟩
end Go.Fb
namespace Go.Fb
open Go.Ev
theorem rat_div_mono {a b c : Rat} (h : 0 < c) (g : a ≤ b) : a / c ≤ b / c := by
  rw [Rat.div_def, Rat.div_def]; exact Rat.mul_le_mul_of_nonneg_right g (Rat.le_of_lt (Rat.inv_pos.2 h))
theorem rat_div_nonneg {a b : Rat} (h : 0 ≤ a) (g : 0 < b) : 0 ≤ a / b := by
  rw [Rat.div_def]; exact Rat.mul_nonneg h (Rat.le_of_lt (Rat.inv_pos.2 g))
theorem rat_div_anti {a b c : Rat} (h : 0 < b) (g : b ≤ c) (ha : 0 ≤ a) : a / c ≤ a / b := by
  have hc : 0 < c := by grind
  refine Rat.not_lt.1 fun k => ?_
  rw [Rat.div_lt_iff h] at k
  have h2 := rat_div_nonneg ha hc
  have := Rat.mul_le_mul_of_nonneg_left g h2
  have e : a / c * c = a := by grind
  grind
theorem rat_div_neg (a b : Rat) : -a / b = -(a / b) := by rw [Rat.div_def, Rat.div_def, Rat.neg_mul]
structure DivK (m z w r : Int) : Prop where
  zero : z = 0 → r = 0
  small : w = 9218868437227405312 → -9218868437227405312 < z → z < 9218868437227405312 → r = 0
  inf : z ≠ 0 → (z = 9218868437227405312 ∨ z = -9218868437227405312 ∨ w = 0) → r = if 0 < z then 9218868437227405312 else -9218868437227405312
  fin : z ≠ 0 → -9218868437227405312 < z → z < 9218868437227405312 → 0 < w → w < 9218868437227405312 → ExK (zv z / zv w) m r
  rng : -9218868437227405312 ≤ r ∧ r ≤ 9218868437227405312
theorem DivK.pos {m z w r : Int} (h : DivK m z w r) (hz : 0 ≤ z) (h1 : z ≤ 9218868437227405312) (hw : 0 ≤ w) (h2 : w ≤ 9218868437227405312) : 0 ≤ r := by
  by_cases z0 : z = 0
  · rw [h.zero z0]; omega
  by_cases i : z = 9218868437227405312 ∨ w = 0
  · have := h.inf z0 (by omega); rw [if_pos (by omega)] at this; omega
  by_cases s : w = 9218868437227405312
  · rw [h.small s (by omega) (by omega)]; omega
  exact exk_nonneg (h.fin z0 (by omega) (by omega) (by omega) (by omega)) (rat_div_nonneg (zv_nonneg hz (by omega)) (zv_pos (by omega) (by omega)))
theorem DivK.npos {m z w r : Int} (h : DivK m z w r) (hz : z ≤ 0) (h1 : -9218868437227405312 ≤ z) (hw : 0 ≤ w) (h2 : w ≤ 9218868437227405312) : r ≤ 0 := by
  by_cases z0 : z = 0
  · rw [h.zero z0]; omega
  by_cases i : z = -9218868437227405312 ∨ w = 0
  · have := h.inf z0 (by omega); rw [if_neg (by omega)] at this; omega
  by_cases s : w = 9218868437227405312
  · rw [h.small s (by omega) (by omega)]; omega
  refine exk_nonpos (h.fin z0 (by omega) (by omega) (by omega) (by omega)) ?_
  have := rat_div_mono (zv_pos (z := w) (by omega) (by omega)) (zv_nonpos (z := z) hz (by omega))
  rwa [Rat.div_def 0, Rat.zero_mul] at this
theorem DivK.mono {m z z' w r r' : Int} (h : DivK m z w r) (g : DivK m z' w r') (hw : 0 ≤ w) (l : z ≤ z') (h1 : -9218868437227405312 ≤ z) (h2 : z' ≤ 9218868437227405312) (h3 : w ≤ 9218868437227405312) : r ≤ r' := by
  have R := h.rng; have R' := g.rng
  by_cases c : z ≤ 0 ∧ 0 ≤ z'
  · have := h.npos c.1 h1 hw h3; have := g.pos c.2 h2 hw h3; omega
  by_cases c1 : 0 < z
  · by_cases i : z' = 9218868437227405312 ∨ w = 0
    · have := g.inf (by omega) (by omega); rw [if_pos (by omega)] at this; omega
    by_cases s : w = 9218868437227405312
    · rw [h.small s (by omega) (by omega), g.small s (by omega) (by omega)]; exact Int.le_refl _
    exact exk_mono (rat_div_mono (zv_pos (by omega) (by omega)) (zv_le (by omega) (by omega) (by omega) (by omega) l)) (h.fin (by omega) (by omega) (by omega) (by omega) (by omega)) (g.fin (by omega) (by omega) (by omega) (by omega) (by omega))
  · by_cases i : z = -9218868437227405312 ∨ w = 0
    · have := h.inf (by omega) (by omega); rw [if_neg (by omega)] at this; omega
    by_cases s : w = 9218868437227405312
    · rw [h.small s (by omega) (by omega), g.small s (by omega) (by omega)]; exact Int.le_refl _
    exact exk_mono (rat_div_mono (zv_pos (by omega) (by omega)) (zv_le (by omega) (by omega) (by omega) (by omega) l)) (h.fin (by omega) (by omega) (by omega) (by omega) (by omega)) (g.fin (by omega) (by omega) (by omega) (by omega) (by omega))
theorem DivK.less {m z w w' r r' : Int} (h : DivK m z w r) (g : DivK m z w' r') (hw : 0 ≤ w) (l : w ≤ w') (h1 : -9218868437227405312 ≤ z) (h2 : z ≤ 9218868437227405312) (h3 : w' ≤ 9218868437227405312) : (0 ≤ z → r' ≤ r) ∧ (z ≤ 0 → r ≤ r') := by
  have R := h.rng; have R' := g.rng
  constructor
  · intro c
    by_cases z0 : z = 0
    · rw [h.zero z0, g.zero z0]; exact Int.le_refl _
    by_cases i : z = 9218868437227405312 ∨ w = 0
    · have := h.inf (by omega) (by omega); rw [if_pos (by omega)] at this; omega
    by_cases s : w' = 9218868437227405312
    · rw [g.small s (by omega) (by omega)]; exact h.pos c h2 hw (by omega)
    exact exk_mono (rat_div_anti (zv_pos (by omega) (by omega)) (zv_le (by omega) (by omega) (by omega) (by omega) l) (zv_nonneg c (by omega))) (g.fin z0 (by omega) (by omega) (by omega) (by omega)) (h.fin z0 (by omega) (by omega) (by omega) (by omega))
  · intro c
    by_cases z0 : z = 0
    · rw [h.zero z0, g.zero z0]; exact Int.le_refl _
    by_cases i : z = -9218868437227405312 ∨ w = 0
    · have := h.inf (by omega) (by omega); rw [if_neg (by omega)] at this; omega
    by_cases s : w' = 9218868437227405312
    · rw [g.small s (by omega) (by omega)]; exact h.npos c h1 hw (by omega)
    refine exk_mono ?_ (h.fin z0 (by omega) (by omega) (by omega) (by omega)) (g.fin z0 (by omega) (by omega) (by omega) (by omega))
    have := rat_div_anti (a := -zv z) (zv_pos (z := w) (by omega) (by omega)) (zv_le (w := w') (by omega) (by omega) (by omega) (by omega) l) (by have := zv_nonpos (z := z) c (by omega); grind)
    rw [rat_div_neg, rat_div_neg] at this
    grind
theorem DivK.order {z w d u : Int} (h : DivK 2 z w d) (g : DivK 1 z w u) (h1 : -9218868437227405312 ≤ z) (h2 : z ≤ 9218868437227405312) (h3 : 0 ≤ w) (h4 : w ≤ 9218868437227405312) : d ≤ u := by
  by_cases z0 : z = 0
  · rw [h.zero z0, g.zero z0]; exact Int.le_refl _
  by_cases i : z = 9218868437227405312 ∨ z = -9218868437227405312 ∨ w = 0
  · rw [h.inf z0 i, g.inf z0 i]; exact Int.le_refl _
  by_cases s : w = 9218868437227405312
  · rw [h.small s (by omega) (by omega), g.small s (by omega) (by omega)]; exact Int.le_refl _
  exact exk_order2 (h.fin z0 (by omega) (by omega) (by omega) (by omega)) (g.fin z0 (by omega) (by omega) (by omega) (by omega))
theorem DivK.down {z w r : Int} (h : DivK 2 z w r) (h1 : -9218868437227405312 ≤ z) (h2 : z ≤ 9218868437227405312) (h3 : 0 ≤ w) (h4 : w ≤ 9218868437227405312) (e : r = 9218868437227405312) : z = 9218868437227405312 ∨ (0 < z ∧ w = 0) := by
  by_cases z0 : z = 0
  · have := h.zero z0; omega
  by_cases i : z = 9218868437227405312 ∨ z = -9218868437227405312 ∨ w = 0
  · have := h.inf z0 i
    by_cases p : 0 < z
    · omega
    · rw [if_neg p] at this; omega
  by_cases s : w = 9218868437227405312
  · have := h.small s (by omega) (by omega); omega
  have := exk_down (h.fin z0 (by omega) (by omega) (by omega) (by omega)); omega
theorem DivK.up {z w r : Int} (h : DivK 1 z w r) (h1 : -9218868437227405312 ≤ z) (h2 : z ≤ 9218868437227405312) (h3 : 0 ≤ w) (h4 : w ≤ 9218868437227405312) (e : r = -9218868437227405312) : z = -9218868437227405312 ∨ (z < 0 ∧ w = 0) := by
  by_cases z0 : z = 0
  · have := h.zero z0; omega
  by_cases i : z = 9218868437227405312 ∨ z = -9218868437227405312 ∨ w = 0
  · have := h.inf z0 i
    by_cases p : 0 < z
    · rw [if_pos p] at this; omega
    · omega
  by_cases s : w = 9218868437227405312
  · have := h.small s (by omega) (by omega); omega
  have := exk_up (h.fin z0 (by omega) (by omega) (by omega) (by omega)); omega
theorem sign_kf {z : Int} (h1 : -9218868437227405312 ≤ z) (h2 : z ≤ 9218868437227405312) : (shrI IntKind.u64 (kf z) 63 == 1) = decide (z < 0) := shr_sign (by omega)
theorem inf_rk {z : Int} (h0 : z ≠ 0) : p_Inf (decide (z < 0)) = kf (if 0 < z then 9218868437227405312 else -9218868437227405312) := by
  rw [inf_spec]
  by_cases h : 0 < z
  · rw [if_pos h, df (by omega)]; rfl
  · rw [if_neg h, dt (by omega)]; rfl
theorem div_kf {z w : Int} (z0 : z ≠ 0) (h1 : -9218868437227405312 < z) (h2 : z < 9218868437227405312) (h3 : 0 < w) (h4 : w < 9218868437227405312) (m : Int) :
    ∃ v r, Tr.Is (s_Div_t (kf z) (kf w) m) v ∧ Wd v.1 ∧ kz v.1 = some r ∧ ExK (zv z / zv w) m r := by
  obtain ⟨v, a, c⟩ := div_s (s := decide (z < 0)) (t := decide (w < 0)) (k := z.natAbs) (j := w.natAbs) (by omega) (by omega) m
  cases c with
  | nan h e => omega
  | bad h e => omega
  | inf h e => omega
  | by0 h e => omega
  | zero h e => omega
  | fin h e =>
    have h1' := (fv_nz (s := decide (z < 0)) h.1 h.2.2.1).2.1
    have h2' := (fv_nz (s := decide (w < 0)) h.2.1 h.2.2.2).2.1
    obtain ⟨r, d, f⟩ := exF_key (div_nz h1' h2') e
    exact ⟨v, r, a, d.kz.1, d.kz.2, f⟩
theorem class3_kf {z : Int} (h1 : -9218868437227405312 ≤ z) (h2 : z ≤ 9218868437227405312) : (p_Class (kf z) == 3) = decide (z = 9218868437227405312 ∨ z = -9218868437227405312) := by
  have := (class_kf h1 h2).1
  rw [show (p_Class (kf z) == 3) = !(p_Class (kf z) != 3) by simp [bne]]
  rw [this, Bool.eq_iff_iff]; simp only [Bool.not_eq_true', decide_eq_false_iff_not, decide_eq_true_eq]; omega
theorem above1_kf {z w : Int} (h1 : -9218868437227405312 ≤ z) (h2 : z ≤ 9218868437227405312) (h3 : 0 ≤ w) (h4 : w ≤ 9218868437227405312) (m : Int) :
    ∃ x r, Tr.Is (sp_above1_t (kf z) (kf w) m) x ∧ Wd x ∧ kz x = some r ∧ DivK m z w r := by
  have k0 : kz 0 = some 0 := kz_kf (z := 0) (by omega) (by omega)
  have cz := zero_kf h1 h2
  have cw := zero_kf (z := w) (by omega) h4
  have iz := (class_kf h1 h2).1
  have iw := class3_kf (z := w) (by omega) h4
  by_cases z0 : z = 0
  · exact ⟨0, 0, Tr.is_br_t (cz.trans (dt z0)) (Tr.is_leaf rfl), zero_wd, k0, fun _ => rfl, fun _ _ _ => rfl, fun g => by omega, fun g => by omega, by omega⟩
  have I := inf_rk z0
  rw [← sign_kf h1 h2] at I
  have R : -9218868437227405312 ≤ (if 0 < z then 9218868437227405312 else -9218868437227405312 : Int) ∧ (if 0 < z then 9218868437227405312 else -9218868437227405312 : Int) ≤ 9218868437227405312 := by split <;> omega
  by_cases w1 : w = 9218868437227405312
  · by_cases zi : z = 9218868437227405312 ∨ z = -9218868437227405312
    · refine ⟨_, _, Tr.is_br_f (cz.trans (df z0)) (Tr.is_br_t (iw.trans (dt (by omega))) (Tr.is_br_f (iz.trans (df (by omega))) (Tr.is_br_t (iw.trans (dt (by omega))) (Tr.is_leaf I)))), kf_wd R.1 R.2, kz_kf R.1 R.2, fun g => by omega, fun g => by omega, fun _ _ => rfl, fun g => by omega, R⟩
    · exact ⟨0, 0, Tr.is_br_f (cz.trans (df z0)) (Tr.is_br_t (iw.trans (dt (by omega))) (Tr.is_br_t (iz.trans (dt (by omega))) (Tr.is_leaf rfl))), zero_wd, k0, fun _ => rfl, fun _ _ _ => rfl, fun _ g => by omega, fun g => by omega, by omega⟩
  have iwf := iw.trans (df (by omega))
  by_cases w0 : w = 0
  · exact ⟨_, _, Tr.is_br_f (cz.trans (df z0)) (Tr.is_br_f iwf (Tr.is_br_f iwf (Tr.is_br_t (cw.trans (dt w0)) (Tr.is_leaf I)))), kf_wd R.1 R.2, kz_kf R.1 R.2, fun g => by omega, fun g => by omega, fun _ _ => rfl, fun g => by omega, R⟩
  have cwf := cw.trans (df w0)
  by_cases zi : z = 9218868437227405312 ∨ z = -9218868437227405312
  · obtain ⟨v, a, c⟩ := div_s (s := decide (z < 0)) (t := decide (w < 0)) (k := z.natAbs) (j := w.natAbs) (by omega) (by omega) m
    have ev : s_Div (kf z) (kf w) m = v := a.1
    have e2 : v.1 = kf (if 0 < z then 9218868437227405312 else -9218868437227405312) := by
      cases c with
      | nan h e => omega
      | bad h e => omega
      | by0 h e => omega
      | zero h e => omega
      | fin h e => omega
      | inf h e =>
        rw [e, ← inf_rk z0, inf_spec, df (p := w < 0) (by omega), Bool.bne_false]
    exact ⟨_, _, Tr.is_br_f (cz.trans (df z0)) (Tr.is_br_f iwf (Tr.is_br_f iwf (Tr.is_br_f cwf (Tr.is_ast a.2 (Tr.is_leaf (by rw [ev, e2])))))), kf_wd R.1 R.2, kz_kf R.1 R.2, fun g => by omega, fun g => by omega, fun _ _ => rfl, fun g => by omega, R⟩
  · obtain ⟨v, r, a, c, d, e⟩ := div_kf (z := z) (w := w) z0 (by omega) (by omega) (by omega) (by omega) m
    have ev : s_Div (kf z) (kf w) m = v := a.1
    exact ⟨_, _, Tr.is_br_f (cz.trans (df z0)) (Tr.is_br_f iwf (Tr.is_br_f iwf (Tr.is_br_f cwf (Tr.is_ast a.2 (Tr.is_leaf (by rw [ev])))))), c, d, fun g => by omega, fun g => by omega, fun _ g => by omega, fun _ _ _ _ _ => e, exk_rng e⟩
end Go.Fb
namespace Go.Fb
open Go.Ev
def cl (L : Int) : Int := if L = 9218868437227405312 then 9218868437227405311 else L
def ch (H : Int) : Int := if H = -9218868437227405312 then -9218868437227405311 else H
def KI (d u : Int) : IV := some (cl d, ch u)
theorem cl_mono {x y : Int} (h : x ≤ y) (g : y ≤ 9218868437227405312) : cl x ≤ cl y := by unfold cl; split <;> split <;> omega
theorem ch_mono {x y : Int} (h : x ≤ y) (_g : -9218868437227405312 ≤ x) : ch x ≤ ch y := by unfold ch; split <;> split <;> omega
theorem GI.KI {d u : Int} (h : d ≤ u) (h1 : -9218868437227405312 ≤ d) (h2 : u ≤ 9218868437227405312) : GI (KI d u) := fun a b e => by
  cases e
  unfold cl ch
  split <;> split <;> omega
theorem outer_is {lo hi L H : Int} (h1 : Wd lo) (h2 : Wd hi) (k1 : kz lo = some L) (k2 : kz hi = some H) (h : L ≤ H) : sp_outer lo hi = enc (KI L H) := by
  suffices Tr.Is (sp_outer_t lo hi) (enc (KI L H)) from this.1
  have r1 := kz_rng h1 k1; have r2 := kz_rng h2 k2
  have i1 : (lo == sp_inf) = decide (L = 9218868437227405312) := by
    rw [sp_inf_val]
    rcases kz_cases h1 with ⟨e, _⟩ | ⟨s, k, g1, rfl, e⟩
    · rw [e] at k1; cases k1
    · rw [e] at k1; injection k1 with k1; subst k1; exact fl_inf g1
  have i2 : (hi == sp_ninf) = decide (H = -9218868437227405312) := by
    rw [sp_ninf_val]
    rcases kz_cases h2 with ⟨e, _⟩ | ⟨s, k, g1, rfl, e⟩
    · rw [e] at k2; cases k2
    · rw [e] at k2; injection k2 with k2; subst k2; exact fl_ninf g1
  by_cases c : L = 9218868437227405312
  · have ci := i1.trans (dt c)
    have el : lo = kf 9218868437227405312 := by rw [sp_inf_val] at ci; exact beq_iff_eq.1 ci
    have p := prev_kf (z := 9218868437227405312) (by omega) (by omega)
    refine Tr.is_br_t ci (Tr.is_leaf ?_)
    rw [el, Make_kz p.1 h2, p.2.1, k2]
    show enc (mk (9218868437227405312 - 1) H) = _
    rw [mk_of ⟨by omega, by omega, by omega, by omega, by omega⟩]
    unfold KI cl ch; rw [if_pos c, if_neg (by omega)]; rfl
  · refine Tr.is_br_f (i1.trans (df c)) ?_
    by_cases d : H = -9218868437227405312
    · have ci := i2.trans (dt d)
      have el : hi = kf (-9218868437227405312) := by rw [sp_ninf_val] at ci; exact beq_iff_eq.1 ci
      have p := next_kf (z := -9218868437227405312) (by omega) (by omega)
      refine Tr.is_br_t ci (Tr.is_leaf ?_)
      rw [el, Make_kz h1 p.1, p.2.1, k1]
      show enc (mk L (-9218868437227405312 + 1)) = _
      rw [mk_of ⟨by omega, by omega, by omega, by omega, by omega⟩]
      unfold KI cl ch; rw [if_pos d, if_neg c]; rfl
    · refine Tr.is_br_f (i2.trans (df d)) (Tr.is_leaf ?_)
      rw [Make_kz h1 h2, k1, k2]
      show enc (mk L H) = _
      rw [mk_of ⟨by omega, by omega, by omega, by omega, by omega⟩]
      unfold KI cl ch; rw [if_neg d, if_neg c]
theorem join_is {x y : SP} {X Y : IV} (hx : x = enc X) (hy : y = enc Y) (gx : GI X) (gy : GI Y) : sp_Join_s (id [[Cv.b x.empty, Cv.i x.lo, Cv.i x.hi], [Cv.b y.empty, Cv.i y.lo, Cv.i y.hi]]) = true ∧ sp_Join (id [[Cv.b x.empty, Cv.i x.lo, Cv.i x.hi], [Cv.b y.empty, Cv.i y.lo, Cv.i y.hi]]) = enc (joinI X Y) := by
  subst hx hy
  have h := Join2 (a := enc X) (b := enc Y) (enc_ws gx) (enc_ws gy)
  rw [nI_enc gx, nI_enc gy] at h
  exact h
def corn (f g : Int → Int → Int) (al ah bl bh : Int) : IV := joinI (joinI (joinI (KI (f al bl) (g al bl)) (KI (f al bh) (g al bh))) (KI (f ah bl) (g ah bl))) (KI (f ah bh) (g ah bh))
structure Box (f g : Int → Int → Int) (al ah bl bh : Int) : Prop where
  fx : ∀ z w, al ≤ z → z ≤ ah → bl ≤ w → w ≤ bh → f al w ≤ f z w ∨ f ah w ≤ f z w
  fy : ∀ z w, al ≤ z → z ≤ ah → bl ≤ w → w ≤ bh → f z bl ≤ f z w ∨ f z bh ≤ f z w
  gx : ∀ z w, al ≤ z → z ≤ ah → bl ≤ w → w ≤ bh → g z w ≤ g al w ∨ g z w ≤ g ah w
  gy : ∀ z w, al ≤ z → z ≤ ah → bl ≤ w → w ≤ bh → g z w ≤ g z bl ∨ g z w ≤ g z bh
  r : ∀ z w, al ≤ z → z ≤ ah → bl ≤ w → w ≤ bh → -9218868437227405312 ≤ f z w ∧ f z w ≤ g z w ∧ g z w ≤ 9218868437227405312
theorem corn_has {f g : Int → Int → Int} {al ah bl bh zc wc : Int} (hz : zc = al ∨ zc = ah) (hw : wc = bl ∨ wc = bh) : insI (KI (f zc wc) (g zc wc)) (corn f g al ah bl bh) = true := by
  unfold corn
  rcases hz with rfl | rfl <;> rcases hw with rfl | rfl
  · exact insI_trans (insI_trans (insI_join_l _ _) (insI_join_l _ _)) (insI_join_l _ _)
  · exact insI_trans (insI_trans (insI_join_r _ _) (insI_join_l _ _)) (insI_join_l _ _)
  · exact insI_trans (insI_join_r _ _) (insI_join_l _ _)
  · exact insI_join_r _ _
theorem Box.corn {f g : Int → Int → Int} {al ah bl bh : Int} (B : Box f g al ah bl bh) (ha : al ≤ ah) (_hb : bl ≤ bh) {z w : Int} (h1 : al ≤ z) (h2 : z ≤ ah) (h3 : bl ≤ w) (h4 : w ≤ bh) : insI (KI (f z w) (g z w)) (corn f g al ah bl bh) = true := by
  have lo : ∃ zc wc, (zc = al ∨ zc = ah) ∧ (wc = bl ∨ wc = bh) ∧ f zc wc ≤ f z w := by
    rcases B.fx z w h1 h2 h3 h4 with e | e
    · rcases B.fy al w (by omega) ha h3 h4 with d | d
      · exact ⟨al, bl, .inl rfl, .inl rfl, by omega⟩
      · exact ⟨al, bh, .inl rfl, .inr rfl, by omega⟩
    · rcases B.fy ah w ha (by omega) h3 h4 with d | d
      · exact ⟨ah, bl, .inr rfl, .inl rfl, by omega⟩
      · exact ⟨ah, bh, .inr rfl, .inr rfl, by omega⟩
  have hi : ∃ zc wc, (zc = al ∨ zc = ah) ∧ (wc = bl ∨ wc = bh) ∧ g z w ≤ g zc wc := by
    rcases B.gx z w h1 h2 h3 h4 with e | e
    · rcases B.gy al w (by omega) ha h3 h4 with d | d
      · exact ⟨al, bl, .inl rfl, .inl rfl, by omega⟩
      · exact ⟨al, bh, .inl rfl, .inr rfl, by omega⟩
    · rcases B.gy ah w ha (by omega) h3 h4 with d | d
      · exact ⟨ah, bl, .inr rfl, .inl rfl, by omega⟩
      · exact ⟨ah, bh, .inr rfl, .inr rfl, by omega⟩
  obtain ⟨z1, w1, c1, c2, c3⟩ := lo
  obtain ⟨z2, w2, d1, d2, d3⟩ := hi
  have i1 := corn_has (f := f) (g := g) c1 c2
  have i2 := corn_has (f := f) (g := g) d1 d2
  obtain ⟨l, h, e, p1, p2⟩ := insI_some i1
  rw [e] at i2 ⊢
  obtain ⟨l', h', e', q1, q2⟩ := insI_some i2
  cases e'
  have r := B.r z w h1 h2 h3 h4
  have r2 := B.r z w h1 h2 h3 h4
  have m1 := cl_mono c3 (by omega)
  have m2 := ch_mono d3 (by omega)
  exact insI_of (by omega) (by omega)
theorem GI.corn {f g : Int → Int → Int} {al ah bl bh : Int} (B : Box f g al ah bl bh) (h1 : al ≤ ah) (h2 : bl ≤ bh) : GI (corn f g al ah bl bh) := by
  have r1 := B.r al bl (by omega) (by omega) (by omega) (by omega)
  have r2 := B.r al bh (by omega) (by omega) (by omega) (by omega)
  have r3 := B.r ah bl (by omega) (by omega) (by omega) (by omega)
  have r4 := B.r ah bh (by omega) (by omega) (by omega) (by omega)
  exact GI.join (GI.join (GI.join (GI.KI (by omega) (by omega) (by omega)) (GI.KI (by omega) (by omega) (by omega))) (GI.KI (by omega) (by omega) (by omega))) (GI.KI (by omega) (by omega) (by omega))
def mulF (m z w : Int) : Int := (kz (sp_Mul1 (kf z) (kf w) m)).getD 0
theorem mulF_spec {z w : Int} (h1 : -9218868437227405312 ≤ z) (h2 : z ≤ 9218868437227405312) (h3 : -9218868437227405312 ≤ w) (h4 : w ≤ 9218868437227405312) (m : Int) : sp_Mul1_s (kf z) (kf w) m = true ∧ Wd (sp_Mul1 (kf z) (kf w) m) ∧ kz (sp_Mul1 (kf z) (kf w) m) = some (mulF m z w) ∧ MulK m z w (mulF m z w) := by
  obtain ⟨x, r, t, a, b, c⟩ := mul1_kf h1 h2 h3 h4 m
  have e : sp_Mul1 (kf z) (kf w) m = x := t.1
  unfold mulF; rw [e, b]; exact ⟨t.2, a, rfl, c⟩
def divF (m z w : Int) : Int := (kz (sp_above1 (kf z) (kf w) m)).getD 0
theorem divF_spec {z w : Int} (h1 : -9218868437227405312 ≤ z) (h2 : z ≤ 9218868437227405312) (h3 : 0 ≤ w) (h4 : w ≤ 9218868437227405312) (m : Int) : sp_above1_s (kf z) (kf w) m = true ∧ Wd (sp_above1 (kf z) (kf w) m) ∧ kz (sp_above1 (kf z) (kf w) m) = some (divF m z w) ∧ DivK m z w (divF m z w) := by
  obtain ⟨x, r, t, a, b, c⟩ := above1_kf h1 h2 h3 h4 m
  have e : sp_above1 (kf z) (kf w) m = x := t.1
  unfold divF; rw [e, b]; exact ⟨t.2, a, rfl, c⟩
theorem mul_box {al ah bl bh : Int} (h1 : -9218868437227405312 ≤ al) (h2 : ah ≤ 9218868437227405312) (h3 : -9218868437227405312 ≤ bl) (h4 : bh ≤ 9218868437227405312) : Box (mulF 2) (mulF 1) al ah bl bh where
  fx z w a b c d := by
    have k := fun x (p : al ≤ x) (q : x ≤ ah) => (mulF_spec (z := x) (w := w) (by omega) (by omega) (by omega) (by omega) 2).2.2.2
    by_cases s : 0 ≤ w
    · exact .inl ((k al (by omega) (by omega)).mono (k z a b) s a (by omega) (by omega) (by omega))
    · exact .inr ((k z a b).anti (k ah (by omega) (by omega)) (by omega) b (by omega) (by omega) (by omega))
  fy z w a b c d := by
    have k := fun x (p : bl ≤ x) (q : x ≤ bh) => (mulF_spec (z := z) (w := x) (by omega) (by omega) (by omega) (by omega) 2).2.2.2.symm
    by_cases s : 0 ≤ z
    · exact .inl ((k bl (by omega) (by omega)).mono (k w c d) s c (by omega) (by omega) (by omega))
    · exact .inr ((k w c d).anti (k bh (by omega) (by omega)) (by omega) d (by omega) (by omega) (by omega))
  gx z w a b c d := by
    have k := fun x (p : al ≤ x) (q : x ≤ ah) => (mulF_spec (z := x) (w := w) (by omega) (by omega) (by omega) (by omega) 1).2.2.2
    by_cases s : 0 ≤ w
    · exact .inr ((k z a b).mono (k ah (by omega) (by omega)) s b (by omega) (by omega) (by omega))
    · exact .inl ((k al (by omega) (by omega)).anti (k z a b) (by omega) a (by omega) (by omega) (by omega))
  gy z w a b c d := by
    have k := fun x (p : bl ≤ x) (q : x ≤ bh) => (mulF_spec (z := z) (w := x) (by omega) (by omega) (by omega) (by omega) 1).2.2.2.symm
    by_cases s : 0 ≤ z
    · exact .inr ((k w c d).mono (k bh (by omega) (by omega)) s d (by omega) (by omega) (by omega))
    · exact .inl ((k bl (by omega) (by omega)).anti (k w c d) (by omega) c (by omega) (by omega) (by omega))
  r z w a b c d := by
    have x := (mulF_spec (z := z) (w := w) (by omega) (by omega) (by omega) (by omega) 2).2.2.2
    have y := (mulF_spec (z := z) (w := w) (by omega) (by omega) (by omega) (by omega) 1).2.2.2
    have := x.order y (by omega) (by omega) (by omega) (by omega)
    have := x.rng; have := y.rng; omega
theorem div_box {al ah bl bh : Int} (h1 : -9218868437227405312 ≤ al) (h2 : ah ≤ 9218868437227405312) (h3 : 0 ≤ bl) (h4 : bh ≤ 9218868437227405312) : Box (divF 2) (divF 1) al ah bl bh where
  fx z w a b c d := by
    have k := fun x (p : al ≤ x) (q : x ≤ ah) => (divF_spec (z := x) (w := w) (by omega) (by omega) (by omega) (by omega) 2).2.2.2
    exact .inl ((k al (by omega) (by omega)).mono (k z a b) (by omega) a (by omega) (by omega) (by omega))
  fy z w a b c d := by
    have k := fun x (p : bl ≤ x) (q : x ≤ bh) => (divF_spec (z := z) (w := x) (by omega) (by omega) (by omega) (by omega) 2).2.2.2
    by_cases s : 0 ≤ z
    · exact .inr (((k w c d).less (k bh (by omega) (by omega)) (by omega) d (by omega) (by omega) (by omega)).1 s)
    · exact .inl (((k bl (by omega) (by omega)).less (k w c d) (by omega) c (by omega) (by omega) (by omega)).2 (by omega))
  gx z w a b c d := by
    have k := fun x (p : al ≤ x) (q : x ≤ ah) => (divF_spec (z := x) (w := w) (by omega) (by omega) (by omega) (by omega) 1).2.2.2
    exact .inr ((k z a b).mono (k ah (by omega) (by omega)) (by omega) b (by omega) (by omega) (by omega))
  gy z w a b c d := by
    have k := fun x (p : bl ≤ x) (q : x ≤ bh) => (divF_spec (z := z) (w := x) (by omega) (by omega) (by omega) (by omega) 1).2.2.2
    by_cases s : 0 ≤ z
    · exact .inl (((k bl (by omega) (by omega)).less (k w c d) (by omega) c (by omega) (by omega) (by omega)).1 s)
    · exact .inr (((k w c d).less (k bh (by omega) (by omega)) (by omega) d (by omega) (by omega) (by omega)).2 (by omega))
  r z w a b c d := by
    have x := (divF_spec (z := z) (w := w) (by omega) (by omega) (by omega) (by omega) 2).2.2.2
    have y := (divF_spec (z := z) (w := w) (by omega) (by omega) (by omega) (by omega) 1).2.2.2
    have := x.order y (by omega) (by omega) (by omega) (by omega)
    have := x.rng; have := y.rng; omega
theorem cornersM_is {al ah bl bh : Int} (hA : GI (some (al, ah))) (hB : GI (some (bl, bh))) : sp_cornersM_s (enc (some (al, ah))) (enc (some (bl, bh))) () = true ∧ sp_cornersM (enc (some (al, ah))) (enc (some (bl, bh))) () = enc (corn (mulF 2) (mulF 1) al ah bl bh) := by
  suffices h : Tr.Is (sp_cornersM_t (enc (some (al, ah))) (enc (some (bl, bh))) ()) (enc (corn (mulF 2) (mulF 1) al ah bl bh)) from ⟨h.2, h.1⟩
  have p := hA _ _ rfl; have q := hB _ _ rfl
  have B : Box (mulF 2) (mulF 1) al ah bl bh := mul_box (by omega) (by omega) (by omega) (by omega)
  have s := fun z w m (a : al ≤ z) (b : z ≤ ah) (c : bl ≤ w) (d : w ≤ bh) => mulF_spec (z := z) (w := w) (by omega) (by omega) (by omega) (by omega) m
  have o : ∀ z w, al ≤ z → z ≤ ah → bl ≤ w → w ≤ bh → sp_outer (sp_Mul1 (kf z) (kf w) 2) (sp_Mul1 (kf z) (kf w) 1) = enc (KI (mulF 2 z w) (mulF 1 z w)) := fun z w a b c d =>
    outer_is (s z w 2 a b c d).2.1 (s z w 1 a b c d).2.1 (s z w 2 a b c d).2.2.1 (s z w 1 a b c d).2.2.1 (B.r z w a b c d).2.1
  have g : ∀ z w, al ≤ z → z ≤ ah → bl ≤ w → w ≤ bh → GI (KI (mulF 2 z w) (mulF 1 z w)) := fun z w a b c d => by
    have := B.r z w a b c d; exact GI.KI (by omega) (by omega) (by omega)
  have o1 := o al bl (by omega) (by omega) (by omega) (by omega)
  have o2 := o al bh (by omega) (by omega) (by omega) (by omega)
  have o3 := o ah bl (by omega) (by omega) (by omega) (by omega)
  have o4 := o ah bh (by omega) (by omega) (by omega) (by omega)
  have g1 := g al bl (by omega) (by omega) (by omega) (by omega)
  have g2 := g al bh (by omega) (by omega) (by omega) (by omega)
  have g3 := g ah bl (by omega) (by omega) (by omega) (by omega)
  have g4 := g ah bh (by omega) (by omega) (by omega) (by omega)
  unfold sp_cornersM_t sp_cornersM_T
  extract_lets t0 t1 t2 t3 t4 t5 t6 t7 t8 t9 t10
  have j1 := join_is (x := sp_none) (y := t3) (X := none) rfl o1 GI.nil g1
  have e5 : t5 = enc (KI (mulF 2 al bl) (mulF 1 al bl)) := j1.2
  have j2 := join_is (x := t5) (y := t1) e5 o2 g1 g2
  have j3 := join_is (x := t7) (y := t0) j2.2 o3 (GI.join g1 g2) g3
  have j4 := join_is (x := t9) (y := t2) j3.2 o4 (GI.join (GI.join g1 g2) g3) g4
  exact Tr.is_ast (s al bl 2 (by omega) (by omega) (by omega) (by omega)).1 (Tr.is_ast (s al bl 1 (by omega) (by omega) (by omega) (by omega)).1 (Tr.is_ast j1.1
    (Tr.is_ast (s al bh 2 (by omega) (by omega) (by omega) (by omega)).1 (Tr.is_ast (s al bh 1 (by omega) (by omega) (by omega) (by omega)).1 (Tr.is_ast j2.1
    (Tr.is_ast (s ah bl 2 (by omega) (by omega) (by omega) (by omega)).1 (Tr.is_ast (s ah bl 1 (by omega) (by omega) (by omega) (by omega)).1 (Tr.is_ast j3.1
    (Tr.is_ast (s ah bh 2 (by omega) (by omega) (by omega) (by omega)).1 (Tr.is_ast (s ah bh 1 (by omega) (by omega) (by omega) (by omega)).1 (Tr.is_ast j4.1 (Tr.is_leaf j4.2))))))))))))
theorem cornersD_is {al ah bl bh : Int} (hA : GI (some (al, ah))) (hB : GI (some (bl, bh))) (h0 : 0 ≤ bl) : sp_cornersD_s (enc (some (al, ah))) (enc (some (bl, bh))) () = true ∧ sp_cornersD (enc (some (al, ah))) (enc (some (bl, bh))) () = enc (corn (divF 2) (divF 1) al ah bl bh) := by
  suffices h : Tr.Is (sp_cornersD_t (enc (some (al, ah))) (enc (some (bl, bh))) ()) (enc (corn (divF 2) (divF 1) al ah bl bh)) from ⟨h.2, h.1⟩
  have p := hA _ _ rfl; have q := hB _ _ rfl
  have B : Box (divF 2) (divF 1) al ah bl bh := div_box (by omega) (by omega) (by omega) (by omega)
  have s := fun z w m (a : al ≤ z) (b : z ≤ ah) (c : bl ≤ w) (d : w ≤ bh) => divF_spec (z := z) (w := w) (by omega) (by omega) (by omega) (by omega) m
  have o : ∀ z w, al ≤ z → z ≤ ah → bl ≤ w → w ≤ bh → sp_outer (sp_above1 (kf z) (kf w) 2) (sp_above1 (kf z) (kf w) 1) = enc (KI (divF 2 z w) (divF 1 z w)) := fun z w a b c d =>
    outer_is (s z w 2 a b c d).2.1 (s z w 1 a b c d).2.1 (s z w 2 a b c d).2.2.1 (s z w 1 a b c d).2.2.1 (B.r z w a b c d).2.1
  have g : ∀ z w, al ≤ z → z ≤ ah → bl ≤ w → w ≤ bh → GI (KI (divF 2 z w) (divF 1 z w)) := fun z w a b c d => by
    have := B.r z w a b c d; exact GI.KI (by omega) (by omega) (by omega)
  have o1 := o al bl (by omega) (by omega) (by omega) (by omega)
  have o2 := o al bh (by omega) (by omega) (by omega) (by omega)
  have o3 := o ah bl (by omega) (by omega) (by omega) (by omega)
  have o4 := o ah bh (by omega) (by omega) (by omega) (by omega)
  have g1 := g al bl (by omega) (by omega) (by omega) (by omega)
  have g2 := g al bh (by omega) (by omega) (by omega) (by omega)
  have g3 := g ah bl (by omega) (by omega) (by omega) (by omega)
  have g4 := g ah bh (by omega) (by omega) (by omega) (by omega)
  unfold sp_cornersD_t sp_cornersD_T
  extract_lets t0 t1 t2 t3 t4 t5 t6 t7 t8 t9 t10
  have j1 := join_is (x := sp_none) (y := t1) (X := none) rfl o1 GI.nil g1
  have e5 : t5 = enc (KI (divF 2 al bl) (divF 1 al bl)) := j1.2
  have j2 := join_is (x := t5) (y := t0) e5 o2 g1 g2
  have j3 := join_is (x := t7) (y := t3) j2.2 o3 (GI.join g1 g2) g3
  have j4 := join_is (x := t9) (y := t2) j3.2 o4 (GI.join (GI.join g1 g2) g3) g4
  exact Tr.is_ast (s al bl 2 (by omega) (by omega) (by omega) (by omega)).1 (Tr.is_ast (s al bl 1 (by omega) (by omega) (by omega) (by omega)).1 (Tr.is_ast j1.1
    (Tr.is_ast (s al bh 2 (by omega) (by omega) (by omega) (by omega)).1 (Tr.is_ast (s al bh 1 (by omega) (by omega) (by omega) (by omega)).1 (Tr.is_ast j2.1
    (Tr.is_ast (s ah bl 2 (by omega) (by omega) (by omega) (by omega)).1 (Tr.is_ast (s ah bl 1 (by omega) (by omega) (by omega) (by omega)).1 (Tr.is_ast j3.1
    (Tr.is_ast (s ah bh 2 (by omega) (by omega) (by omega) (by omega)).1 (Tr.is_ast (s ah bh 1 (by omega) (by omega) (by omega) (by omega)).1 (Tr.is_ast j4.1 (Tr.is_leaf j4.2))))))))))))
end Go.Fb
namespace Go.Fb
open Go.Ev
def mulI : IV → IV → IV
  | some (al, ah), some (bl, bh) => corn (mulF 2) (mulF 1) al ah bl bh
  | _, _ => none
theorem mulI_good {A B : IV} (hA : GI A) (hB : GI B) : GI (mulI A B) := by
  match A, B, hA, hB with
  | none, _, _, _ => exact GI.nil
  | some _, none, _, _ => exact GI.nil
  | some (al, ah), some (bl, bh), hA, hB =>
    have p := hA _ _ rfl; have q := hB _ _ rfl
    exact GI.corn (mul_box (by omega) (by omega) (by omega) (by omega)) (by omega) (by omega)
theorem Mul_is {a b : SP} {A B : IV} (hA : GI A) (hB : GI B) (ha : sp_norm a = enc A) (hb : sp_norm b = enc B) : sp_Mul_s a b = true ∧ sp_Mul a b = enc (mulI A B) := by
  suffices h : Tr.Is (sp_Mul_t a b) (enc (mulI A B)) from ⟨h.2, h.1⟩
  unfold sp_Mul_t sp_Mul_T; rw [ha, hb]
  match A, B, hA, hB with
  | none, _, _, _ => exact Tr.is_br_t rfl (Tr.is_leaf rfl)
  | some _, none, _, _ => exact Tr.is_br_f rfl (Tr.is_br_t rfl (Tr.is_leaf rfl))
  | some (al, ah), some (bl, bh), hA, hB =>
    have c := cornersM_is hA hB
    exact Tr.is_br_f rfl (Tr.is_br_f rfl (Tr.is_ast c.1 (Tr.is_leaf c.2)))
def aboveI : IV → IV → IV
  | some (al, ah), some (bl, bh) => corn (divF 2) (divF 1) al ah bl bh
  | _, _ => none
def posI : IV → IV
  | some (l, h) => if 0 < h then some (if l ≤ 0 then 0 else l, h) else none
  | none => none
theorem posI_some (l h : Int) : posI (some (l, h)) = if 0 < h then some (if l ≤ 0 then 0 else l, h) else none := rfl
def divI (A B : IV) : IV := joinI (aboveI A (posI B)) (negI (aboveI A (posI (negI B))))
theorem posI_good {B : IV} (hB : GI B) : GI (posI B) := fun l h e => by
  match B with
  | none => cases e
  | some (l', h') =>
    have q := hB _ _ rfl
    rw [posI_some] at e; split at e
    · simp only [Option.some.injEq, Prod.mk.injEq] at e
      obtain ⟨e1, e2⟩ := e
      split at e1 <;> omega
    · cases e
theorem posI_lo {B : IV} {l h : Int} (e : posI B = some (l, h)) : 0 ≤ l ∧ 0 < h := by
  match B with
  | none => cases e
  | some (l', h') =>
    rw [posI_some] at e; split at e
    · simp only [Option.some.injEq, Prod.mk.injEq] at e
      obtain ⟨e1, e2⟩ := e
      split at e1 <;> omega
    · cases e
theorem aboveI_good {A B : IV} (hA : GI A) (hB : GI B) (h0 : ∀ l h, B = some (l, h) → 0 ≤ l) : GI (aboveI A B) := by
  match A, B, hA, hB with
  | none, _, _, _ => exact GI.nil
  | some _, none, _, _ => exact GI.nil
  | some (al, ah), some (bl, bh), hA, hB =>
    have p := hA _ _ rfl; have q := hB _ _ rfl; have := h0 _ _ rfl
    exact GI.corn (div_box (by omega) (by omega) (by omega) (by omega)) (by omega) (by omega)
theorem divI_good {A B : IV} (hA : GI A) (hB : GI B) : GI (divI A B) :=
  GI.join (aboveI_good hA (posI_good hB) fun _ _ e => (posI_lo e).1) (GI.neg (aboveI_good hA (posI_good (GI.neg hB)) fun _ _ e => (posI_lo e).1))
theorem above_is {al ah : Int} {x : SP} {B : IV} (hA : GI (some (al, ah))) (hx : x = enc B) (hB : GI B) (h0 : ∀ l h, B = some (l, h) → 0 ≤ l) (hn : B ≠ none) : sp_above_s (enc (some (al, ah))) x = true ∧ sp_above (enc (some (al, ah))) x = enc (aboveI (some (al, ah)) B) := by
  subst hx
  match B, hB, h0, hn with
  | none, _, _, hn => exact absurd rfl hn
  | some (bl, bh), hB, h0, _ =>
    have c := cornersD_is hA hB (h0 _ _ rfl)
    exact ⟨(Tr.is_ast c.1 (Tr.is_leaf c.2) : Tr.Is (sp_above_t (enc (some (al, ah))) (enc (some (bl, bh)))) _).2, (Tr.is_ast c.1 (Tr.is_leaf c.2) : Tr.Is (sp_above_t (enc (some (al, ah))) (enc (some (bl, bh)))) _).1⟩
theorem mk0inf : sp_Make 0 sp_inf = enc (some (0, 9218868437227405312)) := by
  rw [sp_inf_val, Make_kz zero_wd wp_inf, kp_inf, show kz 0 = some 0 from kz_kf (z := 0) (by omega) (by omega)]; rfl
theorem mkninf0 : sp_Make sp_ninf 0 = enc (some (-9218868437227405312, 0)) := by
  rw [sp_ninf_val, Make_kz wn_inf zero_wd, kn_inf, show kz 0 = some 0 from kz_kf (z := 0) (by omega) (by omega)]; rfl
theorem gi_0inf : GI (some (0, 9218868437227405312)) := fun _ _ e => by cases e; omega
theorem gi_ninf0 : GI (some (-9218868437227405312, 0)) := fun _ _ e => by cases e; omega
theorem Div_is {a b : SP} {A B : IV} (hA : GI A) (hB : GI B) (ha : sp_norm a = enc A) (hb : sp_norm b = enc B) : sp_Div_s a b = true ∧ sp_Div a b = enc (divI A B) := by
  suffices h : Tr.Is (sp_Div_t a b) (enc (divI A B)) from ⟨h.2, h.1⟩
  unfold sp_Div_t sp_Div_T; rw [ha, hb]
  match A, B, hA, hB with
  | none, B, _, _ =>
    refine Tr.is_br_t rfl (Tr.is_leaf ?_)
    show enc none = enc (divI none B)
    unfold divI
    have e : ∀ X, aboveI none X = none := fun X => by cases X <;> rfl
    rw [e, e]; rfl
  | some _, none, _, _ => exact Tr.is_br_f rfl (Tr.is_br_t rfl (Tr.is_leaf rfl))
  | some (al, ah), some (bl, bh), hA, hB =>
    have p := hA _ _ rfl; have q := hB _ _ rfl
    refine Tr.is_br_f rfl (Tr.is_br_f rfl ?_)
    have c1 : (!sp_atMost (enc (some (bl, bh))).hi 0) = decide (0 < bh) := by
      show (!sp_atMost (kf bh) 0) = _
      rw [show sp_atMost (kf bh) 0 = decide (bh ≤ 0) by rw [← kf0]; exact atMost_kf (by omega) (by omega) (by omega) (by omega), Bool.eq_iff_iff]
      simp only [Bool.not_eq_true', decide_eq_false_iff_not, decide_eq_true_eq]; omega
    have c2 : (!sp_atMost 0 (enc (some (bl, bh))).lo) = decide (bl < 0) := by
      show (!sp_atMost 0 (kf bl)) = _
      rw [show sp_atMost 0 (kf bl) = decide (0 ≤ bl) by rw [← kf0]; exact atMost_kf (by omega) (by omega) (by omega) (by omega), Bool.eq_iff_iff]
      simp only [Bool.not_eq_true', decide_eq_false_iff_not, decide_eq_true_eq]; omega
    have m1 := Meet_is hB gi_0inf (norm_enc hB) (b := sp_Make 0 sp_inf) (by rw [mk0inf]; exact norm_enc gi_0inf)
    have m2 := Meet_is hB gi_ninf0 (norm_enc hB) (b := sp_Make sp_ninf 0) (by rw [mkninf0]; exact norm_enc gi_ninf0)
    have gP := posI_good hB
    have gN := posI_good (GI.neg hB)
    have e1 : 0 < bh → meetI (some (bl, bh)) (some (0, 9218868437227405312)) = posI (some (bl, bh)) := fun c => by
      show mk (if bl ≤ 0 then 0 else bl) (if 9218868437227405312 ≤ bh then 9218868437227405312 else bh) = if 0 < bh then some (if bl ≤ 0 then 0 else bl, bh) else none
      rw [if_pos c, show (if 9218868437227405312 ≤ bh then 9218868437227405312 else bh) = bh by split <;> omega]
      exact mk_of ⟨by split <;> omega, by split <;> omega, by split <;> omega, by omega, by omega⟩
    have e2 : bl < 0 → negI (meetI (some (bl, bh)) (some (-9218868437227405312, 0))) = posI (negI (some (bl, bh))) := fun c => by
      show negI (mk (if bl ≤ -9218868437227405312 then -9218868437227405312 else bl) (if 0 ≤ bh then 0 else bh)) = if 0 < -bl then some (if -bh ≤ 0 then 0 else -bh, -bl) else none
      rw [if_pos (show 0 < -bl by omega), show (if bl ≤ -9218868437227405312 then -9218868437227405312 else bl) = bl by split <;> omega]
      have em : mk bl (if 0 ≤ bh then 0 else bh) = some (bl, if 0 ≤ bh then 0 else bh) := mk_of ⟨by split <;> omega, by omega, by omega, by split <;> omega, by split <;> omega⟩
      rw [em]
      show some (-(if 0 ≤ bh then 0 else bh), -bl) = some (if -bh ≤ 0 then 0 else -bh, -bl)
      rw [show (-(if 0 ≤ bh then 0 else bh) : Int) = if -bh ≤ 0 then 0 else -bh by split <;> split <;> omega]
    have np : ¬ 0 < bh → posI (some (bl, bh)) = none := fun c => if_neg c
    have nn : ¬ bl < 0 → posI (negI (some (bl, bh))) = none := fun c => if_neg (by omega)
    have yp : 0 < bh → posI (some (bl, bh)) ≠ none := fun c => by
      show (if 0 < bh then some _ else none) ≠ none
      rw [if_pos c]; exact fun e => by cases e
    have yn : bl < 0 → posI (negI (some (bl, bh))) ≠ none := fun c => by
      show (if 0 < -bl then some _ else none) ≠ none
      rw [if_pos (by omega)]; exact fun e => by cases e
    have gM : GI (meetI (some (bl, bh)) (some (-9218868437227405312, 0))) := GI.meet hB gi_ninf0
    have n2 : sp_Neg (sp_Meet (enc (some (bl, bh))) (sp_Make sp_ninf 0)) = enc (negI (meetI (some (bl, bh)) (some (-9218868437227405312, 0)))) := by
      rw [m2.2]; exact Neg_is gM (norm_enc gM)
    have gaP := aboveI_good hA gP fun _ _ e => (posI_lo e).1
    have gaN := aboveI_good hA gN fun _ _ e => (posI_lo e).1
    unfold divI
    by_cases d1 : 0 < bh
    · refine Tr.is_br_t (c1.trans (dt d1)) (Tr.is_ast m1.1 ?_)
      rw [m1.2, e1 d1]
      have a1 := above_is hA rfl gP (fun _ _ e => (posI_lo e).1) (yp d1)
      refine Tr.is_ast a1.1 ?_
      by_cases d2 : bl < 0
      · refine Tr.is_br_t (c2.trans (dt d2)) (Tr.is_ast m2.1 ?_)
        rw [n2, e2 d2]
        have a2 := above_is hA rfl gN (fun _ _ e => (posI_lo e).1) (yn d2)
        refine Tr.is_ast a2.1 ?_
        have j := join_is (x := sp_above (enc (some (al, ah))) (enc (posI (some (bl, bh))))) (y := sp_Neg (sp_above (enc (some (al, ah))) (enc (posI (negI (some (bl, bh))))))) a1.2 (by rw [a2.2]; exact Neg_is gaN (norm_enc gaN)) gaP (GI.neg gaN)
        exact Tr.is_ast j.1 (Tr.is_leaf j.2)
      · refine Tr.is_br_f (c2.trans (df d2)) (Tr.is_leaf ?_)
        rw [a1.2, nn d2]
        show _ = enc (joinI (aboveI (some (al, ah)) (posI (some (bl, bh)))) none)
        cases aboveI (some (al, ah)) (posI (some (bl, bh))) <;> rfl
    · refine Tr.is_br_f (c1.trans (df d1)) ?_
      rw [np d1]
      by_cases d2 : bl < 0
      · refine Tr.is_br_t (c2.trans (dt d2)) (Tr.is_ast m2.1 ?_)
        rw [n2, e2 d2]
        have a2 := above_is hA rfl gN (fun _ _ e => (posI_lo e).1) (yn d2)
        refine Tr.is_ast a2.1 ?_
        have j := join_is (x := sp_none) (X := none) (y := sp_Neg (sp_above (enc (some (al, ah))) (enc (posI (negI (some (bl, bh))))))) rfl (by rw [a2.2]; exact Neg_is gaN (norm_enc gaN)) GI.nil (GI.neg gaN)
        exact Tr.is_ast j.1 (Tr.is_leaf j.2)
      · refine Tr.is_br_f (c2.trans (df d2)) (Tr.is_leaf ?_)
        rw [nn d2]; rfl
structure AddK (m z w r : Int) : Prop where
  infz : (z = 9218868437227405312 ∨ z = -9218868437227405312) → r = z
  infw : -9218868437227405312 < z → z < 9218868437227405312 → (w = 9218868437227405312 ∨ w = -9218868437227405312) → r = w
  fin : -9218868437227405312 < z → z < 9218868437227405312 → -9218868437227405312 < w → w < 9218868437227405312 → ExK (zv z + zv w) m r
  rng : -9218868437227405312 ≤ r ∧ r ≤ 9218868437227405312
theorem AddK.mono {m z w z' w' r r' : Int} (h : AddK m z w r) (g : AddK m z' w' r') (a : z ≤ z') (b : w ≤ w') (h1 : -9218868437227405312 ≤ z) (h2 : z' ≤ 9218868437227405312) (h3 : -9218868437227405312 ≤ w) (h4 : w' ≤ 9218868437227405312) : r ≤ r' := by
  have R := h.rng; have R' := g.rng
  by_cases c1 : z = -9218868437227405312
  · have := h.infz (.inr c1); omega
  by_cases c2 : z' = 9218868437227405312
  · have := g.infz (.inl c2); omega
  by_cases c3 : w = -9218868437227405312
  · have := h.infw (by omega) (by omega) (.inr c3); omega
  by_cases c4 : w' = 9218868437227405312
  · have := g.infw (by omega) (by omega) (.inl c4); omega
  refine exk_mono ?_ (h.fin (by omega) (by omega) (by omega) (by omega)) (g.fin (by omega) (by omega) (by omega) (by omega))
  have p := zv_le (z := z) (w := z') (by omega) (by omega) (by omega) (by omega) a
  have q := zv_le (z := w) (w := w') (by omega) (by omega) (by omega) (by omega) b
  grind
theorem add_kf {z w : Int} (h1 : -9218868437227405312 ≤ z) (h2 : z ≤ 9218868437227405312) (h3 : -9218868437227405312 ≤ w) (h4 : w ≤ 9218868437227405312) (hc : ¬ (z = 9218868437227405312 ∧ w = -9218868437227405312)) (hd : ¬ (z = -9218868437227405312 ∧ w = 9218868437227405312)) (m : Int) :
    ∃ v r, Tr.Is (s_Add_t (kf z) (kf w) m) v ∧ Wd v.1 ∧ kz v.1 = some r ∧ AddK m z w r := by
  obtain ⟨v, a, c⟩ := add_s (s := decide (z < 0)) (t := decide (w < 0)) (k := z.natAbs) (j := w.natAbs) (by omega) (by omega) m
  rcases addRK c (by omega) (by omega) with d | ⟨r, d, e⟩
  · exfalso
    cases c with
    | nan h e => omega
    | bad h e =>
      obtain ⟨e1, e2, e3⟩ := h
      refine e3 ?_
      rw [decide_eq_decide]; omega
    | infa h e =>
      rw [e] at d
      have : fl (decide (z < 0)) 9218868437227405312 = fl false 9221120237041090560 := d
      have := (fl_inj (by omega) (by omega) this).2
      omega
    | infb h e =>
      rw [e] at d
      have : fl (decide (w < 0)) 9218868437227405312 = fl false 9221120237041090560 := d
      have := (fl_inj (by omega) (by omega) this).2
      omega
    | fin h w' =>
      have hk : ∃ q, RK v.1 q := by
        rcases w' with ⟨z0, e⟩ | ⟨z0, e⟩
        · rw [e]; split <;> exact ⟨_, _, 0, by omega, rfl, rfl⟩
        · obtain ⟨q, q1, _⟩ := exF_key z0 e; exact ⟨q, q1⟩
      obtain ⟨q, s, n, hn, e, _⟩ := hk
      rw [d] at e
      have : fl false 9221120237041090560 = fl s n := e
      have := (fl_inj (by omega) (by omega) this).2
      omega
  · refine ⟨v, r, a, d.kz.1, d.kz.2, fun g => ?_, fun g1 g2 g3 => ?_, fun g1 g2 g3 g4 => ?_, d.rng⟩
    · rcases e with ⟨e1, e2⟩ | ⟨e1, e2, e3⟩ | ⟨e1, e2, e3⟩
      · rw [e2, ky_kf]
      · omega
      · omega
    · rcases e with ⟨e1, e2⟩ | ⟨e1, e2, e3⟩ | ⟨e1, e2, e3⟩
      · omega
      · rw [e3, ky_kf]
      · omega
    · rcases e with ⟨e1, e2⟩ | ⟨e1, e2, e3⟩ | ⟨e1, e2, e3⟩
      · omega
      · omega
      · exact e3
def addF (m z w : Int) : Int := (kz (s_Add (kf z) (kf w) m).1).getD 0
theorem addF_spec {z w : Int} (h1 : -9218868437227405312 ≤ z) (h2 : z ≤ 9218868437227405312) (h3 : -9218868437227405312 ≤ w) (h4 : w ≤ 9218868437227405312) (hc : ¬ (z = 9218868437227405312 ∧ w = -9218868437227405312)) (hd : ¬ (z = -9218868437227405312 ∧ w = 9218868437227405312)) (m : Int) : s_Add_s (kf z) (kf w) m = true ∧ Wd (s_Add (kf z) (kf w) m).1 ∧ kz (s_Add (kf z) (kf w) m).1 = some (addF m z w) ∧ AddK m z w (addF m z w) := by
  obtain ⟨v, r, t, a, b, c⟩ := add_kf h1 h2 h3 h4 hc hd m
  have e : s_Add (kf z) (kf w) m = v := t.1
  unfold addF; rw [e, b]; exact ⟨t.2, a, rfl, c⟩
def addI : IV → IV → IV
  | some (al, ah), some (bl, bh) => mk (addF 2 al bl) (addF 1 ah bh)
  | _, _ => none
theorem addI_good {A B : IV} (hA : GI A) (hB : GI B) : GI (addI A B) := by
  match A, B, hA, hB with
  | none, _, _, _ => exact GI.nil
  | some _, none, _, _ => exact GI.nil
  | some (al, ah), some (bl, bh), hA, hB =>
    have p := hA _ _ rfl; have q := hB _ _ rfl
    have x := (addF_spec (z := al) (w := bl) (by omega) (by omega) (by omega) (by omega) (by omega) (by omega) 2).2.2.2.rng
    have y := (addF_spec (z := ah) (w := bh) (by omega) (by omega) (by omega) (by omega) (by omega) (by omega) 1).2.2.2.rng
    exact GI.mk (by omega) (by omega) (by omega) (by omega)
theorem Add_is {a b : SP} {A B : IV} (hA : GI A) (hB : GI B) (ha : sp_norm a = enc A) (hb : sp_norm b = enc B) : sp_Add_s a b = true ∧ sp_Add a b = enc (addI A B) := by
  suffices h : Tr.Is (sp_Add_t a b) (enc (addI A B)) from ⟨h.2, h.1⟩
  unfold sp_Add_t sp_Add_T; rw [ha, hb]
  match A, B, hA, hB with
  | none, _, _, _ => exact Tr.is_br_t rfl (Tr.is_leaf rfl)
  | some _, none, _, _ => exact Tr.is_br_f rfl (Tr.is_br_t rfl (Tr.is_leaf rfl))
  | some (al, ah), some (bl, bh), hA, hB =>
    have p := hA _ _ rfl; have q := hB _ _ rfl
    have x := addF_spec (z := al) (w := bl) (by omega) (by omega) (by omega) (by omega) (by omega) (by omega) 2
    have y := addF_spec (z := ah) (w := bh) (by omega) (by omega) (by omega) (by omega) (by omega) (by omega) 1
    refine Tr.is_br_f rfl (Tr.is_br_f rfl (Tr.is_ast x.1 (Tr.is_ast y.1 (Tr.is_leaf ?_))))
    show sp_Make (s_Add (kf al) (kf bl) 2).1 (s_Add (kf ah) (kf bh) 1).1 = _
    rw [Make_kz x.2.1 y.2.1, x.2.2.1, y.2.2.1]; rfl
theorem Sub_is {a b : SP} {A B : IV} (hA : GI A) (hB : GI B) (ha : sp_norm a = enc A) (hb : sp_norm b = enc B) : sp_Sub_s a b = true ∧ sp_Sub a b = enc (addI A (negI B)) := by
  have n := Neg_is hB hb
  have g := GI.neg hB
  have x := Add_is hA g ha (b := sp_Neg b) (by rw [n]; exact norm_enc g)
  exact ⟨(Tr.is_ast x.1 (Tr.is_leaf x.2) : Tr.Is (sp_Sub_t a b) _).2, (Tr.is_ast x.1 (Tr.is_leaf x.2) : Tr.Is (sp_Sub_t a b) _).1⟩
end Go.Fb
namespace Go.Fb
open Go.Ev
theorem cut_xQ (S N D t : Nat) : (0 ≤ cut (xQ S N D) t ↔ D * t ≤ N * 2 ^ (S + 1075)) ∧ (0 < cut (xQ S N D) t ↔ D * t < N * 2 ^ (S + 1075)) := by
  unfold cut xQ
  dsimp only
  simp only [Bool.false_eq_true, if_false]
  constructor
  · split
    · exact ⟨fun g => absurd g (by decide), fun g => by omega⟩
    · exact ⟨fun _ => by omega, fun _ => by split <;> decide⟩
  · split
    · exact ⟨fun g => absurd g (by decide), fun g => by omega⟩
    · split
      · exact ⟨fun _ => by omega, fun _ => by decide⟩
      · exact ⟨fun g => absurd g (by decide), fun g => by omega⟩
theorem scale_cut (S k N D T : Nat) (_hT : T = 1074) : (D * pos S k ≤ N * 2 ^ (S + 1075) ↔ D * kvN k ≤ N * 2 ^ T) ∧ (D * pos S k < N * 2 ^ (S + 1075) ↔ D * kvN k < N * 2 ^ T) := by
  have e1 : D * pos S k = D * kvN k * 2 ^ (S + 1) := by unfold pos; rw [Nat.pow_succ]; ac_rfl
  have e2 : N * 2 ^ (S + 1075) = N * 2 ^ T * 2 ^ (S + 1) := by rw [show S + 1075 = T + (S + 1) by omega, Nat.pow_add, Nat.mul_assoc]
  rw [e1, e2]
  have p := Nat.two_pow_pos (S + 1)
  exact ⟨⟨fun h => Nat.le_of_mul_le_mul_right h p, fun h => Nat.mul_le_mul_right _ h⟩, ⟨fun h => Nat.lt_of_mul_lt_mul_right h, fun h => Nat.mul_lt_mul_of_pos_right h p⟩⟩
theorem cmp_fv {x : Rat} (hx : 0 < x) {k : Nat} (hk : k < 9218868437227405312) (S : Nat) : (0 ≤ cut (xV S x) (pos S k) ↔ fv false k ≤ x) ∧ (0 < cut (xV S x) (pos S k) ↔ fv false k < x) := by
  obtain ⟨T, hT, hfv⟩ := fvT
  have e : xV S x = xQ S x.num.natAbs x.den := rfl
  rw [e, (cut_xQ _ _ _ _).1, (cut_xQ _ _ _ _).2, (scale_cut S k _ _ T hT).1, (scale_cut S k _ _ T hT).2, hfv false k hk]
  have h1 : 0 ≤ x.num := Rat.num_nonneg.2 (Rat.le_of_lt hx)
  obtain ⟨n, hn⟩ := Int.eq_ofNat_of_zero_le h1
  have hq : x = rq false n x.den := by
    have := rq_self x
    rw [df (Rat.not_lt.2 (Rat.le_of_lt hx)), hn, Int.natAbs_natCast] at this
    exact this.symm
  rw [hn, Int.natAbs_natCast]
  have d0 : x.den ≠ 0 := x.den_nz
  have sc : rq false (kvN k) (2 ^ T) = rq false (kvN k * x.den) (2 ^ T * x.den) := (rq_scale false d0).symm
  have sx : rq false n x.den = rq false (n * 2 ^ T) (2 ^ T * x.den) := by rw [Nat.mul_comm (2 ^ T)]; exact (rq_scale false (two_nz T)).symm
  have dd : 2 ^ T * x.den ≠ 0 := Nat.mul_ne_zero (two_nz T) d0
  have lt1 : ∀ a b : Nat, rq false a (2 ^ T * x.den) < rq false b (2 ^ T * x.den) ↔ a < b := fun a b => by
    rw [rq_lt dd]; unfold sg; rw [if_neg (by simp), if_neg (by simp)]; omega
  generalize hD : x.den = D at *
  rw [hq, sc, sx]
  constructor
  · rw [← Rat.not_lt, lt1, Nat.not_lt, Nat.mul_comm D]
  · rw [lt1, Nat.mul_comm D]
theorem mag_down {x : Rat} (hx : 0 < x) {K : Nat} {a b : Bool} (s : Sit 3925 (xV 3925 x) K a b) : rk K a b 2 < 9218868437227405312 ∧ fv false (rk K a b 2) ≤ x := by
  have hk : rk K a b 2 = if 9218868437227405312 ≤ K then 9218868437227405311 else K := by rw [rk_of]; rfl
  have lt : rk K a b 2 < 9218868437227405312 := by rw [hk]; split <;> omega
  refine ⟨lt, ((cmp_fv hx lt 3925).1).1 (cut_mono (pos_mono ?_) s.1)⟩
  rw [hk]; split <;> omega
theorem mag_up {x : Rat} (hx : 0 < x) {K : Nat} {a b : Bool} (s : Sit 3925 (xV 3925 x) K a b) (h : rk K a b 1 < 9218868437227405312) : x ≤ fv false (rk K a b 1) := by
  have hk : rk K a b 1 = if 9218868437227405312 ≤ rkey K a b 1 then 9218868437227405312 else rkey K a b 1 := by rw [rk_of]; rfl
  have e : rk K a b 1 = if a || b then K + 1 else K := by
    rw [hk] at h ⊢
    split
    · rename_i c; rw [if_pos c] at h; omega
    · rfl
  refine Rat.not_lt.1 fun c => ?_
  have c := ((cmp_fv hx h 3925).2).2 c
  rw [e] at c
  by_cases g : (a || b) = true
  · rw [if_pos g] at c; have := s.2.1; omega
  · rw [if_neg g] at c
    obtain ⟨ga, gb⟩ := Bool.or_eq_false_iff.1 (eq_false_of_ne_true g)
    have := s.2.2.2
    rw [ga, gb, if_neg (by simp)] at this
    have := of_decide_eq_false this.symm
    omega
theorem zv_ky (s : Bool) {k : Nat} (_h : k < 9218868437227405312) : zv (ky s k) = fv s k := by
  unfold zv
  by_cases k0 : k = 0
  · subst k0; rw [show (ky s 0).natAbs = 0 by cases s <;> rfl, fv_zero, fv_zero]
  · cases s
    · have e : ky false k = (k : Int) := by unfold ky; simp
      rw [e, df (by omega), Int.natAbs_natCast]
    · have e : ky true k = -(k : Int) := by unfold ky; simp
      rw [e, dt (by omega), Int.natAbs_neg, Int.natAbs_natCast]
theorem ky_fin {s : Bool} {k : Nat} (h : -9218868437227405312 < ky s k) (g : ky s k < 9218868437227405312) : k < 9218868437227405312 := by
  cases s
  · unfold ky at g; simp at g; omega
  · unfold ky at h; simp at h; omega
theorem exk_le {x : Rat} {r : Int} (h : ExK x 2 r) (g : -9218868437227405312 < r) : zv r ≤ x := by
  have g' := exk_down h
  rcases h with ⟨h1, h2⟩ | ⟨h0, K, a, b, s, e⟩
  · rw [h1, h2, zv_zero]; exact Rat.le_refl
  · by_cases c : x < 0
    · rw [dt c] at e
      have w : wayOf true 2 = 1 := rfl
      rw [w] at e
      rw [e] at g g' ⊢
      have kf := ky_fin g g'
      rw [zv_ky _ kf]
      have s' : Sit 3925 (xV 3925 (-x)) K a b := by rw [xV_neg]; exact s
      have := mag_up (x := -x) (by grind) s' kf
      rw [show fv true (rk K a b 1) = fv (!false) (rk K a b 1) from rfl, fv_neg]
      grind
    · rw [df c] at e
      have w : wayOf false 2 = 2 := rfl
      rw [w] at e
      rw [e] at g g' ⊢
      have kf := ky_fin g g'
      rw [zv_ky _ kf]
      exact (mag_down (by grind) s).2
theorem exk_ge {x : Rat} {r : Int} (h : ExK x 1 r) (g : r < 9218868437227405312) : x ≤ zv r := by
  have g' := exk_up h
  rcases h with ⟨h1, h2⟩ | ⟨h0, K, a, b, s, e⟩
  · rw [h1, h2, zv_zero]; exact Rat.le_refl
  · by_cases c : x < 0
    · rw [dt c] at e
      have w : wayOf true 1 = 2 := rfl
      rw [w] at e
      rw [e] at g g' ⊢
      have kf := ky_fin g' g
      rw [zv_ky _ kf]
      have s' : Sit 3925 (xV 3925 (-x)) K a b := by rw [xV_neg]; exact s
      have := (mag_down (x := -x) (by grind) s').2
      rw [show fv true (rk K a b 2) = fv (!false) (rk K a b 2) from rfl, fv_neg]
      grind
    · rw [df c] at e
      have w : wayOf false 1 = 1 := rfl
      rw [w] at e
      rw [e] at g g' ⊢
      have kf := ky_fin g' g
      rw [zv_ky _ kf]
      exact mag_up (by grind) s kf
end Go.Fb
namespace Go.Fb
open Go.Ev
def SameT {α : Type} (s t : Tr α) : Prop := ∃ v, Tr.Is s v ∧ Tr.Is t v
theorem SameT.trans' {α : Type} {s t : Tr α} {v : α} (h : SameT s t) (g : Tr.Is s v) : Tr.Is t v := by
  obtain ⟨w, a, b⟩ := h
  have : w = v := a.1.symm.trans g.1
  rw [← this]; exact b
theorem MulK.unique {m z w r r' : Int} (h : MulK m z w r) (g : MulK m z w r') (h1 : -9218868437227405312 ≤ z) (h2 : z ≤ 9218868437227405312) (h3 : -9218868437227405312 ≤ w) (h4 : w ≤ 9218868437227405312) : r = r' := by
  by_cases c : 0 ≤ w
  · have := h.mono g c (Int.le_refl _) h1 h2 h4; have := g.mono h c (Int.le_refl _) h1 h2 h4; omega
  · have := h.anti g (by omega) (Int.le_refl _) h1 h2 h3; have := g.anti h (by omega) (Int.le_refl _) h1 h2 h3; omega
theorem DivK.unique {m z w r r' : Int} (h : DivK m z w r) (g : DivK m z w r') (h1 : -9218868437227405312 ≤ z) (h2 : z ≤ 9218868437227405312) (h3 : 0 ≤ w) (h4 : w ≤ 9218868437227405312) : r = r' := by
  have := h.mono g h3 (Int.le_refl _) h1 h2 h4; have := g.mono h h3 (Int.le_refl _) h1 h2 h4; omega
end Go.Fb
namespace Go.Fb
open Go.Ev
theorem val_kz {v z : Int} (hv : Wd v) (hz : kz v = some z) (h1 : -9218868437227405312 < z) (h2 : z < 9218868437227405312) : p_Value_s v = true ∧ ∃ q, p_Value v = (q, true) ∧ RIs q (zv z) 300 := by
  rcases kz_cases hv with ⟨e, _⟩ | ⟨s, k, hk, rfl, e⟩
  · rw [e] at hz; cases hz
  · rw [e] at hz; injection hz with hz; subst hz
    have kf := ky_fin h1 h2
    rw [zv_ky s kf]
    exact value_spec kf
theorem val_inf {z : Int} (h : z = 9218868437227405312 ∨ z = -9218868437227405312) : p_Value_s (kf z) = true ∧ p_Value (kf z) = (⟨false, [], []⟩, false) := value_none (s := decide (z < 0)) (k := z.natAbs) (by omega) (by omega)
def InR (L H : Int) (X : Rat) : Prop := (L = -9218868437227405312 ∨ zv L ≤ X) ∧ (H = 9218868437227405312 ∨ X ≤ zv H)
instance (L H : Int) (X : Rat) : Decidable (InR L H X) := by unfold InR; infer_instance
theorem cmpQ_dec (x y : Rat) : decide (cmpQ x y ≤ 0) = decide (x ≤ y) := by
  rcases cmpQ_cases x y with ⟨e, h⟩ | ⟨e, h⟩ | ⟨e, h⟩
  · rw [e, dt (Rat.le_of_lt h)]; rfl
  · rw [e, dt (p := x ≤ y) (by rw [h]; exact Rat.le_refl)]; rfl
  · rw [e, df (p := x ≤ y) (Rat.not_le.2 h)]; rfl
theorem within_is {r : RR} {x : Rat} {k : Nat} (h : RIs r x k) (hk : k ≤ 40000) {l u : Int} (g : GI (some (l, u))) : Tr.Is (l16_within_t r (enc (some (l, u)))) (decide (InR l u x)) := by
  have p := g _ _ rfl
  have hm : k ≤ max k 300 := Nat.le_max_left _ _
  have hm2 : 300 ≤ max k 300 := Nat.le_max_right _ _
  have hm3 : max k 300 ≤ 40000 := Nat.max_le.2 ⟨hk, by omega⟩
  have up : ∀ q : RR × Bool, p_Value (kf u) = q → p_Value_s (kf u) = true ∧ ((u = 9218868437227405312 ∧ q.2 = false) ∨ (u ≠ 9218868437227405312 ∧ q.2 = true ∧ q_Cmp_s r q.1 = true ∧ q_Cmp r q.1 = cmpQ x (zv u))) := fun q hq => by
    by_cases c : u = 9218868437227405312
    · have v := val_inf (.inl c); rw [v.2] at hq; subst hq; exact ⟨v.1, .inl ⟨c, rfl⟩⟩
    · obtain ⟨v1, y, v2, v3⟩ := val_kz (v := kf u) (z := u) (kf_wd (by omega) (by omega)) (kz_kf (by omega) (by omega)) (by omega) (by omega)
      rw [v2] at hq; subst hq
      have e := qcmp_spec (h.le hm).RW (v3.le hm2).RW (Nat.le_trans (by omega) hm2) hm3
      rw [h.val, v3.val] at e
      exact ⟨v1, .inr ⟨c, rfl, e⟩⟩
  have lo : ∀ q : RR × Bool, p_Value (kf l) = q → p_Value_s (kf l) = true ∧ ((l = -9218868437227405312 ∧ q.2 = false) ∨ (l ≠ -9218868437227405312 ∧ q.2 = true ∧ q_Cmp_s q.1 r = true ∧ q_Cmp q.1 r = cmpQ (zv l) x)) := fun q hq => by
    by_cases c : l = -9218868437227405312
    · have v := val_inf (.inr c); rw [v.2] at hq; subst hq; exact ⟨v.1, .inl ⟨c, rfl⟩⟩
    · obtain ⟨v1, y, v2, v3⟩ := val_kz (v := kf l) (z := l) (kf_wd (by omega) (by omega)) (kz_kf (by omega) (by omega)) (by omega) (by omega)
      rw [v2] at hq; subst hq
      have e := qcmp_spec (v3.le hm2).RW (h.le hm).RW (Nat.le_trans (by omega) hm2) hm3
      rw [h.val, v3.val] at e
      exact ⟨v1, .inr ⟨c, rfl, e⟩⟩
  show Tr.Is (.br false (.leaf false) (.ast (p_Value_s (kf l)) (.ast (p_Value_s (kf u)) (.br (!(p_Value (kf l)).snd)
    (.br (!(p_Value (kf u)).snd) (.leaf true) (.ast (q_Cmp_s r (p_Value (kf u)).fst) (.leaf (decide (q_Cmp r (p_Value (kf u)).fst ≤ 0)))))
    (.ast (q_Cmp_s (p_Value (kf l)).fst r) (.br (decide (q_Cmp (p_Value (kf l)).fst r ≤ 0))
      (.br (!(p_Value (kf u)).snd) (.leaf true) (.ast (q_Cmp_s r (p_Value (kf u)).fst) (.leaf (decide (q_Cmp r (p_Value (kf u)).fst ≤ 0)))))
      (.leaf false))))))) _
  generalize hq1 : p_Value (kf l) = q1
  generalize hq2 : p_Value (kf u) = q2
  obtain ⟨s1, c1⟩ := lo q1 hq1
  obtain ⟨s2, c2⟩ := up q2 hq2
  have tail : Tr.Is (.br (!q2.snd) (.leaf true) (.ast (q_Cmp_s r q2.fst) (.leaf (decide (q_Cmp r q2.fst ≤ 0))))) (decide (u = 9218868437227405312 ∨ x ≤ zv u)) := by
    rcases c2 with ⟨e, d⟩ | ⟨e, d, f, i⟩
    · rw [dt (p := u = 9218868437227405312 ∨ x ≤ zv u) (.inl e)]; exact Tr.is_br_t (by rw [d]; rfl) (Tr.is_leaf rfl)
    · refine Tr.is_br_f (by rw [d]; rfl) (Tr.is_ast f (Tr.is_leaf ?_))
      rw [i, cmpQ_dec, decide_eq_decide]
      exact ⟨.inr, fun g => g.resolve_left e⟩
  refine Tr.is_br_f rfl (Tr.is_ast s1 (Tr.is_ast s2 ?_))
  rcases c1 with ⟨e, d⟩ | ⟨e, d, f, i⟩
  · refine Tr.is_br_t (by rw [d]; rfl) ?_
    have : decide (InR l u x) = decide (u = 9218868437227405312 ∨ x ≤ zv u) := by
      rw [decide_eq_decide]; unfold InR; exact ⟨fun g => g.2, fun g => ⟨.inl e, g⟩⟩
    rw [this]; exact tail
  · refine Tr.is_br_f (by rw [d]; rfl) (Tr.is_ast f ?_)
    rw [i, cmpQ_dec]
    by_cases b : zv l ≤ x
    · refine Tr.is_br_t (dt b) ?_
      have : decide (InR l u x) = decide (u = 9218868437227405312 ∨ x ≤ zv u) := by
        rw [decide_eq_decide]; unfold InR; exact ⟨fun g => g.2, fun g => ⟨.inr b, g⟩⟩
      rw [this]; exact tail
    · refine Tr.is_br_f (df b) (Tr.is_leaf ?_)
      rw [df]; unfold InR; rintro ⟨g | g, _⟩
      · exact e g
      · exact b g
def HasR (A : IV) (X : Rat) : Prop := ∃ l u, A = some (l, u) ∧ InR l u X
theorem HasR.sub {A B : IV} {X : Rat} (h : HasR A X) (hA : GI A) (hB : GI B) (i : insI A B = true) : HasR B X := by
  obtain ⟨l, u, rfl, h1, h2⟩ := h
  obtain ⟨l', u', rfl, i1, i2⟩ := insI_some i
  have p := hA _ _ rfl; have q := hB _ _ rfl
  refine ⟨l', u', rfl, ?_, ?_⟩
  · by_cases c : l' = -9218868437227405312
    · exact .inl c
    · right
      rcases h1 with e | e
      · omega
      · exact Rat.le_trans (zv_le (by omega) (by omega) (by omega) (by omega) i1) e
  · by_cases c : u' = 9218868437227405312
    · exact .inl c
    · right
      rcases h2 with e | e
      · omega
      · exact Rat.le_trans e (zv_le (by omega) (by omega) (by omega) (by omega) i2)
theorem within_has {r : RR} {x : Rat} {k : Nat} (h : RIs r x k) (hk : k ≤ 40000) {A : IV} (g : GI A) (hx : HasR A x) {s : SP} (hs : s = enc A) : l16_within_s r s = true ∧ l16_within r s = true := by
  subst hs
  obtain ⟨l, u, rfl, i⟩ := hx
  have t := within_is h hk g
  rw [dt i] at t
  exact ⟨t.2, t.1⟩
theorem around {X : Rat} {d u : Int} (hd : ExK X 2 d) (hu : ExK X 1 u) : GI (some (d, u)) ∧ HasR (some (d, u)) X ∧ KI d u = some (d, u) := by
  have o := exk_order2 hd hu
  have r1 := exk_rng hd; have r2 := exk_rng hu
  have a := exk_down hd; have b := exk_up hu
  refine ⟨fun _ _ e => by cases e; omega, ⟨d, u, rfl, ?_, ?_⟩, ?_⟩
  · by_cases c : d = -9218868437227405312
    · exact .inl c
    · exact .inr (exk_le hd (by omega))
  · by_cases c : u = 9218868437227405312
    · exact .inl c
    · exact .inr (exk_ge hu (by omega))
  · unfold KI cl ch; rw [if_neg (by omega), if_neg (by omega)]
theorem has_pair {A : IV} {z : Int} (hA : GI A) (h : hasI A (some z) = true) : ∃ l u, A = some (l, u) ∧ l ≤ z ∧ z ≤ u ∧ -9218868437227405312 < z ∧ z < 9218868437227405312 := by
  obtain ⟨l, u, rfl, h1, h2, _⟩ := hasI_some.1 h
  have := has_rng hA h
  exact ⟨l, u, rfl, h1, h2, this.2, this.1⟩
theorem has_self {A : IV} {z : Int} (hA : GI A) (h : hasI A (some z) = true) : HasR A (zv z) := by
  obtain ⟨l, u, rfl, h1, h2, h3, h4⟩ := has_pair hA h
  have p := hA _ _ rfl
  refine ⟨l, u, rfl, ?_, ?_⟩
  · by_cases c : l = -9218868437227405312
    · exact .inl c
    · exact .inr (zv_le (by omega) (by omega) (by omega) (by omega) h1)
  · by_cases c : u = 9218868437227405312
    · exact .inl c
    · exact .inr (zv_le (by omega) (by omega) (by omega) (by omega) h2)
theorem has_neg {A : IV} {X : Rat} (h : HasR A X) : HasR (negI A) (-X) := by
  obtain ⟨l, u, rfl, h1, h2⟩ := h
  refine ⟨-u, -l, rfl, ?_, ?_⟩
  · rcases h2 with e | e
    · exact .inl (by omega)
    · right; rw [zv_neg]; grind
  · rcases h1 with e | e
    · exact .inl (by omega)
    · right; rw [zv_neg]; grind
theorem hasI_neg {A : IV} {z : Int} (hA : GI A) (h : hasI A (some z) = true) : hasI (negI A) (some (-z)) = true := by
  obtain ⟨l, u, rfl, h1, h2, h3, h4⟩ := has_pair hA h
  exact hasI_some.2 ⟨-u, -l, rfl, by omega, by omega, by omega, by omega⟩
theorem sound_add {A B : IV} (hA : GI A) (hB : GI B) {z w : Int} (h : hasI A (some z) = true) (g : hasI B (some w) = true) : HasR (addI A B) (zv z + zv w) := by
  obtain ⟨al, ah, rfl, z1, z2, z3, z4⟩ := has_pair hA h
  obtain ⟨bl, bh, rfl, w1, w2, w3, w4⟩ := has_pair hB g
  have p := hA _ _ rfl; have q := hB _ _ rfl
  have c2 := (addF_spec (z := z) (w := w) (by omega) (by omega) (by omega) (by omega) (by omega) (by omega) 2).2.2.2
  have c1 := (addF_spec (z := z) (w := w) (by omega) (by omega) (by omega) (by omega) (by omega) (by omega) 1).2.2.2
  have x := (addF_spec (z := al) (w := bl) (by omega) (by omega) (by omega) (by omega) (by omega) (by omega) 2).2.2.2
  have y := (addF_spec (z := ah) (w := bh) (by omega) (by omega) (by omega) (by omega) (by omega) (by omega) 1).2.2.2
  have l1 := x.mono c2 z1 w1 (by omega) (by omega) (by omega) (by omega)
  have l2 := c1.mono y z2 w2 (by omega) (by omega) (by omega) (by omega)
  obtain ⟨gg, hh, _⟩ := around (c2.fin z3 z4 w3 w4) (c1.fin z3 z4 w3 w4)
  have r := gg _ _ rfl
  have rx := x.rng; have ry := y.rng
  refine hh.sub gg (addI_good hA hB) ?_
  show insI _ (mk (addF 2 al bl) (addF 1 ah bh)) = true
  rw [mk_of ⟨by omega, by omega, by omega, by omega, by omega⟩]
  exact insI_of l1 l2
theorem sound_mul {A B : IV} (hA : GI A) (hB : GI B) {z w : Int} (h : hasI A (some z) = true) (g : hasI B (some w) = true) : HasR (mulI A B) (zv z * zv w) := by
  have gm := mulI_good hA hB
  obtain ⟨al, ah, rfl, z1, z2, z3, z4⟩ := has_pair hA h
  obtain ⟨bl, bh, rfl, w1, w2, w3, w4⟩ := has_pair hB g
  have p := hA _ _ rfl; have q := hB _ _ rfl
  have c2 := (mulF_spec (z := z) (w := w) (by omega) (by omega) (by omega) (by omega) 2).2.2.2
  have c1 := (mulF_spec (z := z) (w := w) (by omega) (by omega) (by omega) (by omega) 1).2.2.2
  obtain ⟨gg, hh, e⟩ := around (c2.fin z3 z4 w3 w4) (c1.fin z3 z4 w3 w4)
  have B : Box (mulF 2) (mulF 1) al ah bl bh := mul_box (by omega) (by omega) (by omega) (by omega)
  have i := B.corn p.1 q.1 z1 z2 w1 w2
  rw [e] at i
  exact hh.sub gg gm i
theorem sound_above {A B : IV} (hA : GI A) (hB : GI B) (h0 : ∀ l u, B = some (l, u) → 0 ≤ l) {z w : Int} (h : hasI A (some z) = true) (g : hasI B (some w) = true) (hw : 0 < w) : HasR (aboveI A B) (zv z / zv w) := by
  have gm := aboveI_good hA hB h0
  obtain ⟨al, ah, rfl, z1, z2, z3, z4⟩ := has_pair hA h
  obtain ⟨bl, bh, rfl, w1, w2, w3, w4⟩ := has_pair hB g
  have p := hA _ _ rfl; have q := hB _ _ rfl; have b0 := h0 _ _ rfl
  have c2 := (divF_spec (z := z) (w := w) (by omega) (by omega) (by omega) (by omega) 2).2.2.2
  have c1 := (divF_spec (z := z) (w := w) (by omega) (by omega) (by omega) (by omega) 1).2.2.2
  have ex : ∀ m r, DivK m z w r → ExK (zv z / zv w) m r := fun m r c => by
    by_cases z0 : z = 0
    · rw [c.zero z0, z0, zv_zero, Rat.div_def, Rat.zero_mul]; exact exk_zero m
    · exact c.fin z0 z3 z4 hw w4
  obtain ⟨gg, hh, e⟩ := around (ex _ _ c2) (ex _ _ c1)
  have B : Box (divF 2) (divF 1) al ah bl bh := div_box (by omega) (by omega) (by omega) (by omega)
  have i := B.corn p.1 q.1 z1 z2 w1 w2
  rw [e] at i
  exact hh.sub gg gm i
theorem hasI_pos {B : IV} (hB : GI B) {w : Int} (g : hasI B (some w) = true) (hw : 0 < w) : hasI (posI B) (some w) = true := by
  obtain ⟨bl, bh, rfl, w1, w2, w3, w4⟩ := has_pair hB g
  rw [posI_some, if_pos (by omega)]
  exact hasI_some.2 ⟨_, _, rfl, by split <;> omega, w2, by omega, by omega⟩
theorem sound_div {A B : IV} (hA : GI A) (hB : GI B) {z w : Int} (h : hasI A (some z) = true) (g : hasI B (some w) = true) (hw : w ≠ 0) : HasR (divI A B) (zv z / zv w) := by
  have gP := aboveI_good hA (posI_good hB) fun _ _ e => (posI_lo e).1
  have gN := aboveI_good hA (posI_good (GI.neg hB)) fun _ _ e => (posI_lo e).1
  by_cases c : 0 < w
  · exact (sound_above hA (posI_good hB) (fun _ _ e => (posI_lo e).1) h (hasI_pos hB g c) c).sub gP (divI_good hA hB) (insI_join_l _ _)
  · have s := sound_above hA (posI_good (GI.neg hB)) (fun _ _ e => (posI_lo e).1) h (hasI_pos (GI.neg hB) (hasI_neg hB g) (by omega)) (by omega)
    have n := has_neg s
    have e : -(zv z / zv (-w)) = zv z / zv w := by
      rw [zv_neg]; grind
    rw [e] at n
    exact n.sub (GI.neg gN) (divI_good hA hB) (insI_join_r _ _)
theorem sound_abs {A : IV} (hA : GI A) {z : Int} (h : hasI A (some z) = true) : HasR (absI A) (absQ (zv z)) := by
  have gN := GI.abs hA
  have e : absQ (zv z) = zv (if 0 ≤ z then z else -z) := by
    obtain ⟨l, u, _, _, _, h3, h4⟩ := has_pair hA h
    unfold absQ
    by_cases c : 0 ≤ z
    · rw [if_pos c, if_neg (Rat.not_lt.2 (zv_nonneg c h4))]
    · rw [if_neg c, if_pos, zv_neg]
      have := (zv_lt (z := z) (w := 0) h3 h4 (by omega) (by omega)).2 (by omega)
      rwa [zv_zero] at this
  rw [e]
  refine has_self gN ?_
  obtain ⟨l, u, rfl, h1, h2, h3, h4⟩ := has_pair hA h
  have p := hA _ _ rfl
  unfold absI
  refine hasI_some.2 ?_
  by_cases c1 : 0 ≤ l
  · simp only [if_pos c1]; exact ⟨_, _, rfl, by split <;> omega, by split <;> omega, by split <;> omega, by split <;> omega⟩
  · by_cases c2 : u ≤ 0
    · simp only [if_neg c1, if_pos c2]; exact ⟨_, _, rfl, by split <;> omega, by split <;> omega, by split <;> omega, by split <;> omega⟩
    · simp only [if_neg c1, if_neg c2]; exact ⟨_, _, rfl, by split <;> omega, by split <;> split <;> omega, by split <;> omega, by split <;> omega⟩
theorem SpanSound_both {a b : SP} {f g : Int} (ha : WS a) (hb : WS b) (hf : Wd f) (hg : Wd g) : l_SpanSound a b f g = true ∧ l_SpanSound_s a b f g = true := by
  suffices h : Tr.Is (l_SpanSound_t a b f g) true from ⟨h.1, h.2⟩
  have gA := GI.nI ha; have gB := GI.nI hb
  have na := sp_norm_spec ha; have nb := sp_norm_spec hb
  obtain ⟨v, x, l1, wv, hx⟩ := inside_is ha hf
  obtain ⟨w, y, l2, ww, hy⟩ := inside_is hb hg
  have q1 : l16_inside a f = (v, x) := l1.1
  have q2 : l16_inside b g = (w, y) := l2.1
  rw [Has_ws ha wv] at hx; rw [Has_ws hb ww] at hy
  unfold l_SpanSound_t l_SpanSound_T
  rw [q1, q2]
  refine pre16 ?_
  cases x with
  | false => exact Tr.is_br_t rfl (Tr.is_leaf works16.1)
  | true =>
  refine Tr.is_br_f rfl ?_
  cases y with
  | false => exact Tr.is_br_t rfl (Tr.is_leaf works16.1)
  | true =>
  refine Tr.is_br_f rfl ?_
  have hv : ∃ z, kz v = some z := by
    cases h : kz v with
    | none => rw [h, hasI_none] at hx; cases hx
    | some z => exact ⟨z, rfl⟩
  have hw : ∃ z, kz w = some z := by
    cases h : kz w with
    | none => rw [h, hasI_none] at hy; cases hy
    | some z => exact ⟨z, rfl⟩
  obtain ⟨z, hv⟩ := hv
  obtain ⟨u, hw⟩ := hw
  rw [hv] at hx; rw [hw] at hy
  have hx := hx.symm; have hy := hy.symm
  obtain ⟨_, _, _, _, _, z3, z4⟩ := has_pair gA hx
  obtain ⟨_, _, _, _, _, u3, u4⟩ := has_pair gB hy
  obtain ⟨s1, X, e1, r1⟩ := val_kz wv hv z3 z4
  obtain ⟨s2, Y, e2, r2⟩ := val_kz ww hw u3 u4
  have k1 : (1 : Nat) ≤ 300 := by omega
  have k2 : (300 : Nat) ≤ 40000 := by omega
  obtain ⟨a1, a2⟩ := qadd_spec r1.RW r2.RW k1 k2
  obtain ⟨b1, b2⟩ := qsub_spec r1.RW r2.RW k1 k2
  obtain ⟨m1, m2⟩ := qmul_spec r1.RW r2.RW k1 k2
  obtain ⟨d1, d2, d3⟩ := qdiv_spec r1.RW r2.RW k1 k2
  obtain ⟨n1, n2⟩ := neg1_spec r1.RW k1 (by omega)
  obtain ⟨t1, t2⟩ := abs_spec r1.RW k1 (by omega)
  rw [r1.val] at n2 t2
  rw [r1.val, r2.val] at a2 b2 m2 d3
  rw [r2.val] at d2
  have A := Add_is gA gB na nb
  have S := Sub_is gA gB na nb
  have M := Mul_is gA gB na nb
  have D := Div_is gA gB na nb
  have N := Neg_is gA na
  have T := Abs_ws ha
  have iA := within_has a2 (by omega) (addI_good gA gB) (sound_add gA gB hx hy) A.2
  have iS := within_has b2 (by omega) (addI_good gA (GI.neg gB)) (by
    have := sound_add gA (GI.neg gB) hx (hasI_neg gB hy)
    rw [zv_neg] at this
    rwa [show zv z - zv u = zv z + -zv u from Rat.sub_eq_add_neg _ _]) S.2
  have iM := within_has m2 (by omega) (mulI_good gA gB) (sound_mul gA gB hx hy) M.2
  have iN := within_has n2 (by omega) (GI.neg gA) (has_neg (has_self gA hx)) N
  have iT := within_has t2 (by omega) (GI.abs gA) (sound_abs gA hx) T.2
  show Tr.Is (.ast (p_Value_s v) (.ast (p_Value_s w) _)) _
  refine Tr.is_ast s1 (Tr.is_ast s2 ?_)
  rw [e1, e2]
  refine Tr.is_ast a1 (Tr.is_ast A.1 (Tr.is_ast iA.1 (Tr.is_br_t iA.2 (Tr.is_ast b1 (Tr.is_ast S.1 (Tr.is_ast iS.1 (Tr.is_br_t iS.2 (Tr.is_ast m1 (Tr.is_ast M.1 (Tr.is_ast iM.1 (Tr.is_br_t iM.2 (Tr.is_ast n1 (Tr.is_ast iN.1 (Tr.is_br_t iN.2
    (Tr.is_ast t1 (Tr.is_ast T.1 (Tr.is_ast iT.1 (Tr.is_ast d1 ?_))))))))))))))))))
  by_cases u0 : u = 0
  · have := d2 (by rw [u0, zv_zero])
    exact Tr.is_br_t (by show ((q_Div X Y).snd != 0) = true; rw [this]; rfl) (Tr.is_br_t works16.1 (Tr.is_leaf iT.2))
  · have nz : zv u ≠ 0 := by
      unfold zv; exact (fv_nz (s := decide (u < 0)) (k := u.natAbs) (by omega) (by omega)).2.1
    obtain ⟨q, e, r⟩ := d3 nz
    have iD := within_has r (by omega) (divI_good gA gB) (sound_div gA gB hx hy u0) D.2
    refine Tr.is_br_f (by show ((q_Div X Y).snd != 0) = false; rw [e]; rfl) (Tr.is_br_t works16.1 (Tr.is_br_t iT.2 (Tr.is_ast D.1 ?_)))
    show Tr.Is (.ast (l16_within_s (q_Div X Y).fst (sp_Div a b)) (.leaf (l16_within (q_Div X Y).fst (sp_Div a b)))) true
    rw [e]
    exact Tr.is_ast iD.1 (Tr.is_leaf iD.2)
end Go.Fb
