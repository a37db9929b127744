/- Layer 6: plain laws of what the functions compute. Conditions: as each theorem states. -/
import Derived.Test.YtggmmkdfgjnjfaaUq
import Derived.Test.YtggmmkdfgjnjfaaSd
namespace Go.Fb
open Go.Ev
def ExF (x : Rat) (mode : Int) (v : Int × Int) : Prop := ∃ K a b, Sit 3925 (xV 3925 x) K a b ∧ v = rnd (decide (x < 0)) K a b (smOf 3925 (xV 3925 x)) mode
theorem ExF.unique {x : Rat} {mode : Int} {v w : Int × Int} (h : ExF x mode v) (g : ExF x mode w) : v = w := by
  obtain ⟨K, a, b, s, rfl⟩ := h
  obtain ⟨J, c, d, t, rfl⟩ := g
  obtain ⟨rfl, rfl, rfl⟩ := sit_inj s t
  rfl
theorem two_nz (n : Nat) : 2 ^ n ≠ 0 := Nat.ne_of_gt (Nat.two_pow_pos n)
end Go.Fb
namespace Go.Fb
open Go.Ev
end Go.Fb
namespace Go.Fb
open Go.Ev
theorem sof_spec {s : Bool} {k : Nat} (h : k < 9223372036854775808) : s_of (fl s k) = ⟨fl s k, cls k, s, (mant k : Int), expo k⟩ := by
  show SN.mk (fl s k) (p_Class (fl s k)) (shrI IntKind.u64 (fl s k) 63 == 1) (p_Split (fl s k)).fst (p_Split (fl s k)).snd = _
  rw [class_spec h, shr_sign h, split_spec h]
theorem ris6_spec {s : Bool} {k : Nat} (h : k < 9223372036854775808) (c : Int) : r6_is (fl s k) c = (cls k == c) := by
  show (r4_Class (fl s k) == c) = _
  rw [rclass_spec h]
theorem rneg6_spec {s : Bool} {k : Nat} (h : k < 9223372036854775808) : r6_neg (fl s k) = s := shr_sign h
theorem sinvalid_spec : s_invalid = (9221120237041090560, 16) := rfl
theorem quiet_val : p_Quiet = 9221120237041090560 := rfl
theorem rbits6_spec {m : Nat} (h : m < 18446744073709551616) : r6_bits_s (m : Int) = true ∧ bv (r6_bits (m : Int)) = m ∧ LenIs m (r6_bits (m : Int)).length ∧ (r6_bits (m : Int)).length ≤ 64 := by
  obtain ⟨o1, o2, o3⟩ := of1_spec (x := (m : Int)) (by unfold Wd; omega)
  obtain ⟨l1, L, l2, l3⟩ := rlen_spec (a := r1_Of1 (m : Int)) (by omega)
  rw [o3, Int.toNat_natCast] at l3
  have hL : L ≤ 64 := lenIs_le l3 (m := 64) h
  have ht : Tr.Is (r6_bits_t (m : Int)) ((r1_Of1 (m : Int)).take L) := by
    unfold r6_bits_t r6_bits_T
    rw [l2]
    refine Tr.is_ast o1 (Tr.is_ast l1 (Tr.is_ast ?_ (Tr.is_leaf ?_)))
    · show (decide (0 ≤ (L : Int)) && decide ((L : Int) ≤ ((r1_Of1 (m : Int)).length : Int))) = true
      rw [dt (by omega), dt (by omega)]; rfl
    · show List.take ((L : Int).toNat - 0) (List.drop 0 (r1_Of1 (m : Int))) = _
      rw [Int.toNat_natCast, Nat.sub_zero, List.drop_zero]
  have e : r6_bits (m : Int) = _ := ht.1
  have hlen : ((r1_Of1 (m : Int)).take L).length = L := by rw [List.length_take]; omega
  refine ⟨ht.2, ?_, ?_, ?_⟩
  · rw [e, bv_take _ _ (by omega), o3, Int.toNat_natCast, Nat.mod_eq_of_lt l3.1]
  · rw [e, hlen]; exact l3
  · rw [e, hlen]; exact hL
inductive Kind (k : Nat) : Prop
  | nan (h : 9218868437227405312 < k) (c4 : (cls k == 4) = true) (c3 : (cls k == 3) = false) (c0 : (cls k == 0) = false)
  | inf (h : k = 9218868437227405312) (c4 : (cls k == 4) = false) (c3 : (cls k == 3) = true) (c0 : (cls k == 0) = false)
  | zero (h : k = 0) (c4 : (cls k == 4) = false) (c3 : (cls k == 3) = false) (c0 : (cls k == 0) = true)
  | fin (h : k < 9218868437227405312) (h0 : k ≠ 0) (c4 : (cls k == 4) = false) (c3 : (cls k == 3) = false) (c0 : (cls k == 0) = false)
theorem kind (k : Nat) : Kind k := by
  rcases cls_cases k with ⟨h, g⟩ | ⟨h, g⟩ | ⟨h, g⟩ | ⟨h, g⟩ | ⟨h, g⟩
  · exact .inf g (bf (by omega)) (bt h) (bf (by omega))
  · exact .nan g (bt h) (bf (by omega)) (bf (by omega))
  · exact .zero g (bf (by omega)) (bf (by omega)) (bt h)
  · exact .fin (by omega) (by omega) (bf (by omega)) (bf (by omega)) (bf (by omega))
  · exact .fin (by omega) (by omega) (bf (by omega)) (bf (by omega)) (bf (by omega))
theorem mant_nz {k : Nat} (h : k < 9218868437227405312) (h0 : k ≠ 0) : mant k ≠ 0 := fun g => h0 ((mant_zero h).1 g)
inductive MulV (s : Bool) (k : Nat) (t : Bool) (j : Nat) (mode : Int) (v : Int × Int) : Prop
  | nan (h : 9218868437227405312 < k ∨ 9218868437227405312 < j) (e : v = (9221120237041090560, 0))
  | bad (h : (k = 9218868437227405312 ∧ j = 0) ∨ (k = 0 ∧ j = 9218868437227405312)) (e : v = (9221120237041090560, 16))
  | inf (h : (k = 9218868437227405312 ∧ j ≤ 9218868437227405312 ∧ j ≠ 0) ∨ (j = 9218868437227405312 ∧ k ≤ 9218868437227405312 ∧ k ≠ 0)) (e : v = (fl (s != t) 9218868437227405312, 0))
  | zero (h : k < 9218868437227405312 ∧ j < 9218868437227405312 ∧ (k = 0 ∨ j = 0)) (e : v = (fl (s != t) 0, 0))
  | fin (h : k < 9218868437227405312 ∧ j < 9218868437227405312 ∧ k ≠ 0 ∧ j ≠ 0) (e : ExF (fv s k * fv t j) mode v)
end Go.Fb
namespace Go.Fb
open Go.Ev
theorem n2_lo (m : Nat) : n2 ⟨0, (m : Int)⟩ = m := by unfold n2; simp
theorem len_mant {k : Nat} (h : k < 9218868437227405312) (h0 : k ≠ 0) : ∃ L : Nat, u2_Len ⟨0, (mant k : Int)⟩ = (L : Int) ∧ LenIs (mant k) L ∧ 1 ≤ L ∧ L ≤ 53 := by
  have m1 := mant_lt k
  have m0 := mant_nz h h0
  obtain ⟨L, l1, l2⟩ := ulen_spec (a := ⟨0, (mant k : Int)⟩) (by unfold W2 Wd; dsimp only; omega)
  rw [n2_lo] at l2
  refine ⟨L, l1, l2, ?_, lenIs_le l2 (m := 53) m1⟩
  rcases Nat.eq_zero_or_pos L with g | g
  · subst g; have := l2.1; simp at this; omega
  · exact g
end Go.Fb
namespace Go.Fb
open Go.Ev
theorem rsqrt2_spec {a : List Bool} (ha : a.length ≤ 128) : r1_Sqrt_s a = true ∧ (r1_Sqrt a).1.length = 64 ∧ IsRt (bv a) (bv (r1_Sqrt a).1) ∧ (r1_Sqrt a).2.length = a.length ∧ bv (r1_Sqrt a).2 = bv a - bv (r1_Sqrt a).1 * bv (r1_Sqrt a).1 := by
  have hlt := Nat.lt_of_lt_of_le (bv_lt a) (Nat.pow_le_pow_right (n := 2) (by decide) ha)
  obtain ⟨root, h1, h2, h3⟩ := rsqrt_run (a := a) (by omega) 64 (List.replicate 64 false) (by omega) (by simp) (by rw [bv_rep]) (by rw [bv_rep]; omega) (by rw [bv_rep]; simpa using hlt)
  have hr : r1_Sqrt_L0_r a (63, List.replicate (Int.toNat 64) false) = some (-1, root) := runB_of h1 (by omega)
  obtain ⟨m1, m2, m3⟩ := mul_spec (a := root) (b := root) (by omega)
  obtain ⟨k1, k2, k3, _⟩ := sub_le (a := a) (b := r1_Mul root root) (n := a.length) (by omega) (bv_lt a) (by rw [m2]; exact h3.1)
  simp only [r1_Sqrt, r1_Sqrt_s, r1_Sqrt_t, r1_Sqrt_T, r1_Sqrt_L0_ok, r1_Sqrt_L0_v, hr, Tr.val, Tr.safe, Option.isSome_some, Option.getD_some, m1, k1]
  exact ⟨rfl, h2, h3, by omega, by rw [k3, m2]⟩
/-- a root: of m times 2^sh, with s below and what is left -/
structure RtOk (m : Nat) (e : Int) (sh s : Nat) (f : Int) (rest : Bool) : Prop where
  par : 2 * f = e - sh
  lo : s * s ≤ m * 2 ^ sh
  hi : m * 2 ^ sh < (s + 1) * (s + 1)
  re : rest = decide (s * s < m * 2 ^ sh)
  big : 4611686018427387904 ≤ s
  rng : 72 ≤ sh ∧ sh ≤ 127
  len : ∃ L, LenIs m L ∧ (sh + L = 126 ∨ sh + L = 127)
inductive SqrtV (s : Bool) (k : Nat) (mode : Int) (v : Int × Int) : Prop
  | nan (h : 9218868437227405312 < k) (e : v = (9221120237041090560, 0))
  | zero (h : k = 0) (e : v = (fl s 0, 0))
  | bad (h : k ≠ 0 ∧ k ≤ 9218868437227405312 ∧ s = true) (e : v = (9221120237041090560, 16))
  | inf (h : k = 9218868437227405312 ∧ s = false) (e : v = (fl s 9218868437227405312, 0))
  | fin (h : k < 9218868437227405312 ∧ k ≠ 0 ∧ s = false) (sh r : Nat) (f : Int) (rest : Bool) (ok : RtOk (mant k) (expo k) sh r f rest) (K : Nat) (a b : Bool) (st : Sit 3925 (xInt 3925 r f rest) K a b) (e : v = rnd false K a b (smOf 3925 (xInt 3925 r f rest)) mode)
theorem root_both {k L sh : Nat} (hL : LenIs (mant k) L) (l1 : 1 ≤ L) (l2 : L ≤ 53) (hsh : sh + L = 126 ∨ sh + L = 127) {f : Int} (hf : 2 * f = expo k - sh) (mode : Int) :
    ∃ v, (u2_Shl_s ⟨0, (mant k : Int)⟩ (sh : Int) = true ∧ u2_Sqrt_s (u2_Shl ⟨0, (mant k : Int)⟩ (sh : Int)) = true ∧
      Tr.Is (n_Round_t false ⟨0, (u2_Sqrt (u2_Shl ⟨0, (mant k : Int)⟩ (sh : Int))).fst⟩ f (!((u2_Sqrt (u2_Shl ⟨0, (mant k : Int)⟩ (sh : Int))).snd.hi == 0 && ((u2_Sqrt (u2_Shl ⟨0, (mant k : Int)⟩ (sh : Int))).snd.lo == 0 && true))) mode) v) ∧
     (r1_Shl_s (r6_bits (mant k : Int)) (sh : Int) = true ∧ r1_Sqrt_s (r1_Shl (r6_bits (mant k : Int)) (sh : Int)) = true ∧ r1_Len_s (r1_Sqrt (r1_Shl (r6_bits (mant k : Int)) (sh : Int))).snd = true ∧
      Tr.Is (r5_Round_t false (r1_Sqrt (r1_Shl (r6_bits (mant k : Int)) (sh : Int))).fst f (decide (r1_Len (r1_Sqrt (r1_Shl (r6_bits (mant k : Int)) (sh : Int))).snd > 0)) mode) v) ∧
     ∃ (r : Nat) (rest : Bool) (K : Nat) (a b : Bool), RtOk (mant k) (expo k) sh r f rest ∧ Sit 3925 (xInt 3925 r f rest) K a b ∧ v = rnd false K a b (smOf 3925 (xInt 3925 r f rest)) mode := by
  have m1 := mant_lt k
  have e1 := @expo_rng k
  have plt : mant k * 2 ^ sh < 170141183460469231731687303715884105728 := by
    have := Nat.mul_lt_mul_of_pos_right hL.1 (Nat.two_pow_pos sh)
    rw [← Nat.pow_add] at this
    have t := Nat.pow_le_pow_right (n := 2) (by decide) (show L + sh ≤ 127 by omega)
    rw [show (2 : Nat) ^ 127 = 170141183460469231731687303715884105728 from rfl] at t
    omega
  have pge : 42535295865117307932921825928971026432 ≤ mant k * 2 ^ sh := by
    have h2 : 2 ^ (L - 1) ≤ mant k := by rcases hL.2 with h | h; omega; exact h
    have := Nat.mul_le_mul_right (2 ^ sh) h2
    rw [← Nat.pow_add] at this
    have t := Nat.pow_le_pow_right (n := 2) (by decide) (show 125 ≤ L - 1 + sh by omega)
    rw [show (2 : Nat) ^ 125 = 42535295865117307932921825928971026432 from rfl] at t
    omega
  obtain ⟨s1, s2, s3⟩ := ushl_spec (a := ⟨0, (mant k : Int)⟩) (by unfold W2 Wd; dsimp only; omega) (n := sh) (by omega)
  rw [n2_lo, Nat.mod_eq_of_lt (by omega)] at s3
  obtain ⟨r, q1, q2, q3, q4, q5, q6⟩ := sqrt_spec s2
  obtain ⟨b1, b2, b3, b4⟩ := rbits6_spec (m := mant k) (by omega)
  have lb := LenIs.unique b3 hL
  have sh1 := shl_spec (a := r6_bits (mant k : Int)) (n := sh) (by omega) (by omega)
  have shv := bv_shl (a := r6_bits (mant k : Int)) (n := sh) (by omega) (by omega)
  have shl : (r1_Shl (r6_bits (mant k : Int)) (sh : Int)).length = sh + L := by rw [sh1.1]; simp [lb]
  obtain ⟨t1, t2, t3, t4, t5⟩ := rsqrt2_spec (a := r1_Shl (r6_bits (mant k : Int)) (sh : Int)) (by omega)
  rw [shv, b2, Nat.mul_comm] at t3 t5
  rw [s3] at q3 q6
  have er := q3.unique t3
  rw [← er] at t5
  obtain ⟨y1, Y, y2, y3⟩ := rlen_spec (a := (r1_Sqrt (r1_Shl (r6_bits (mant k : Int)) (sh : Int))).2) (by omega)
  rw [t5] at y3
  obtain ⟨N, hN⟩ : ∃ N, N = mant k * 2 ^ sh := ⟨_, rfl⟩
  rw [← hN] at plt pge q3 q6 y3
  have ry : decide (r1_Len (r1_Sqrt (r1_Shl (r6_bits (mant k : Int)) (sh : Int))).2 > 0) = decide (r * r < N) := by
    rw [y2]
    apply decide_eq_decide.2
    have hrr := q3.1
    constructor
    · intro h
      rcases y3.2 with g | g
      · omega
      · have := Nat.two_pow_pos (Y - 1); omega
    · intro h
      rcases Nat.eq_zero_or_pos Y with g | g
      · rw [g] at y3; have := y3.1; simp at this; omega
      · omega
  have rx : (!((u2_Sqrt (u2_Shl ⟨0, (mant k : Int)⟩ (sh : Int))).snd.hi == 0 && ((u2_Sqrt (u2_Shl ⟨0, (mant k : Int)⟩ (sh : Int))).snd.lo == 0 && true))) = decide (r * r < N) := by
    generalize (u2_Sqrt (u2_Shl ⟨0, (mant k : Int)⟩ (sh : Int))).snd = z at *
    have hrr := q3.1
    have ez : n2 z = 0 ↔ (z.hi = 0 ∧ z.lo = 0) := by
      obtain ⟨h1, h2⟩ := q5
      unfold Wd at h1 h2
      unfold n2
      omega
    by_cases g : r * r < N
    · rw [dt g]
      by_cases g1 : z.hi = 0
      · rw [bt g1, bf (show z.lo ≠ 0 by intro g2; have := ez.2 ⟨g1, g2⟩; omega)]; rfl
      · rw [bf g1]; rfl
    · have := ez.1 (by omega)
      rw [df g, bt this.1, bt this.2]; rfl
  have big : 4611686018427387904 ≤ r := by
    rcases Nat.lt_or_ge r 4611686018427387904 with g | g
    · have h1 := q3.2
      have h2 : (r + 1) * (r + 1) ≤ 4611686018427387904 * 4611686018427387904 := Nat.mul_le_mul (by omega) (by omega)
      omega
    · exact g
  have er2 : (decide (r * r < N) && decide (9007199254740992 ≤ r)) = decide (r * r < N) := by rw [dt (show 9007199254740992 ≤ r by omega), Bool.and_true]
  obtain ⟨K, a, b, st, tr⟩ := nround_is (m := ⟨0, (r : Int)⟩) (by unfold W2 Wd; dsimp only; omega) (by rw [n2_lo]; omega) false f (decide (r * r < N)) mode (S := 3925) (Nat.le_refl _) (xInt_in _ _ _ _)
  rw [n2_lo, er2, clamp_in (by omega) (by omega)] at st tr
  have tr2 := rround_is (b := (r1_Sqrt (r1_Shl (r6_bits (mant k : Int)) (sh : Int))).1) (by omega) er.symm (by omega) false f (decide (r * r < N)) mode (S := 3925) (Nat.le_refl _) (K := K) (h := a) (r := b) (by rw [er2, clamp_in (by omega) (by omega)]; exact st)
  rw [er2, clamp_in (by omega) (by omega)] at tr2
  refine ⟨_, ⟨s1, q1, ?_⟩, ⟨sh1.2, t1, y1, ?_⟩, r, decide (r * r < N), K, a, b, ⟨hf, by rw [← hN]; exact q3.1, by rw [← hN]; exact q3.2, by rw [← hN], big, by omega, ⟨L, hL, hsh⟩⟩, st, rfl⟩
  · rw [q2, rx]; exact tr
  · rw [ry]; exact tr2
theorem half_of {e : Int} {f : Int} (h : 2 * f = e) (h1 : -4000 ≤ e) (h2 : e ≤ 4000) : IntKind.i64.wrap (e.tdiv 2) = f ∧ (e.tmod 2 != 0) = false := by
  subst h
  have h3 : (2 * f).tdiv 2 = f := Int.mul_tdiv_cancel_left f (by decide)
  have h4 : (2 * f).tmod 2 = 0 := Int.mul_tmod_right 2 f
  rw [h3, h4, w64 (by omega) (by omega)]
  exact ⟨rfl, rfl⟩
theorem odd_of {e : Int} (h : e % 2 = 1) : (e.tmod 2 != 0) = true := by
  refine nbt fun g => ?_
  have := Int.dvd_of_tmod_eq_zero g
  omega
theorem sqrt_both {s : Bool} {k : Nat} (hk : k < 9223372036854775808) (mode : Int) :
    ∃ v, Tr.Is (s_Sqrt_t (fl s k) mode) v ∧ Tr.Is (r6_Sqrt_t (fl s k) mode) v ∧ SqrtV s k mode v := by
  have S : s_Sqrt_t (fl s k) mode = s_Sqrt_T s_of p_Quiet s_invalid u2_Len u2_Shl u2_Shl_s u2_Sqrt u2_Sqrt_s n_Round n_Round_s (fl s k) mode := rfl
  have R : r6_Sqrt_t (fl s k) mode = r6_Sqrt_T r6_is r6_neg r4_Split r6_bits r6_bits_s r1_Len r1_Len_s r1_Shl r1_Shl_s r1_Sqrt r1_Sqrt_s r5_Round r5_Round_s (fl s k) mode := rfl
  rw [S, R]
  unfold s_Sqrt_T r6_Sqrt_T
  simp only [sof_spec hk, ris6_spec hk, rneg6_spec hk, sinvalid_spec, rsplit_spec hk, quiet_val]
  rcases kind k with ⟨h, c4, c3, c0⟩ | ⟨h, c4, c3, c0⟩ | ⟨h, c4, c3, c0⟩ | ⟨h, h0, c4, c3, c0⟩ <;> simp only [c4, c3, c0]
  · exact ⟨(9221120237041090560, 0), ⟨rfl, rfl⟩, ⟨rfl, rfl⟩, .nan h rfl⟩
  · cases s
    · exact ⟨(fl false k, 0), ⟨rfl, rfl⟩, ⟨rfl, rfl⟩, .inf ⟨h, rfl⟩ (by rw [h])⟩
    · exact ⟨(9221120237041090560, 16), ⟨rfl, rfl⟩, ⟨rfl, rfl⟩, .bad ⟨by omega, by omega, rfl⟩ rfl⟩
  · exact ⟨(fl s k, 0), ⟨rfl, rfl⟩, ⟨rfl, rfl⟩, .zero h (by rw [h])⟩
  · cases s
    · have e1 := @expo_rng k
      obtain ⟨L, l1, l2, l3, l4⟩ := len_mant h h0
      obtain ⟨b1, b2, b3, b4⟩ := rbits6_spec (m := mant k) (by have := mant_lt k; omega)
      obtain ⟨y1, Y, y2, y3⟩ := rlen_spec (a := r6_bits (mant k : Int)) (by omega)
      rw [b2] at y3
      have eY := LenIs.unique y3 l2
      subst eY
      obtain ⟨c, hc⟩ : ∃ c : Nat, c + Y = 126 := ⟨126 - Y, by omega⟩
      have ec : IntKind.i64.wrap (126 - (Y : Int)) = (c : Int) := by rw [w64 (by omega) (by omega)]; omega
      have ed : IntKind.i64.wrap (expo k - (c : Int)) = expo k - c := w64 (by omega) (by omega)
      have ec1 : IntKind.i64.wrap ((c : Int) + 1) = ((c + 1 : Nat) : Int) := by rw [w64 (by omega) (by omega)]; rfl
      have ed1 : IntKind.i64.wrap (expo k - ((c + 1 : Nat) : Int)) = expo k - ((c + 1 : Nat) : Int) := w64 (by omega) (by omega)
      simp only [l1, y2, ec, ed, ec1, ed1]
      by_cases par : (expo k - (c : Int)) % 2 = 0
      · obtain ⟨f, hf⟩ : ∃ f : Int, 2 * f = expo k - (c : Int) := ⟨(expo k - c) / 2, by omega⟩
        obtain ⟨z1, z2⟩ := half_of hf (by omega) (by omega)
        obtain ⟨v, ⟨p1, p2, p3⟩, ⟨q1, q2, q3, q4⟩, r, rest, K, a, b, ok, st, ev⟩ := root_both l2 l3 l4 (.inl hc) hf mode
        rw [z1, z2]
        exact ⟨v, Tr.is_br_f rfl (Tr.is_br_f rfl (Tr.is_br_f rfl (Tr.is_br_f rfl (Tr.is_br_f rfl (Tr.is_ast p1 (Tr.is_ast p2 (Tr.is_ast p3.2 (Tr.is_leaf p3.1)))))))),
          Tr.is_br_f rfl (Tr.is_br_f rfl (Tr.is_br_f rfl (Tr.is_br_f rfl (Tr.is_ast b1 (Tr.is_ast y1 (Tr.is_br_f rfl (Tr.is_ast b1 (Tr.is_ast q1 (Tr.is_ast q2 (Tr.is_ast q3 (Tr.is_ast q4.2 (Tr.is_leaf q4.1)))))))))))),
          .fin ⟨h, h0, rfl⟩ c r f rest ok K a b st ev⟩
      · obtain ⟨f, hf⟩ : ∃ f : Int, 2 * f = expo k - ((c + 1 : Nat) : Int) := ⟨(expo k - ((c + 1 : Nat) : Int)) / 2, by omega⟩
        have z1 := (half_of hf (by omega) (by omega)).1
        have z2 := odd_of (e := expo k - (c : Int)) (by omega)
        obtain ⟨v, ⟨p1, p2, p3⟩, ⟨q1, q2, q3, q4⟩, r, rest, K, a, b, ok, st, ev⟩ := root_both l2 l3 l4 (sh := c + 1) (.inr (by omega)) hf mode
        rw [z1, z2]
        exact ⟨v, Tr.is_br_f rfl (Tr.is_br_f rfl (Tr.is_br_f rfl (Tr.is_br_f rfl (Tr.is_br_t rfl (Tr.is_ast p1 (Tr.is_ast p2 (Tr.is_ast p3.2 (Tr.is_leaf p3.1)))))))),
          Tr.is_br_f rfl (Tr.is_br_f rfl (Tr.is_br_f rfl (Tr.is_br_f rfl (Tr.is_ast b1 (Tr.is_ast y1 (Tr.is_br_t rfl (Tr.is_ast b1 (Tr.is_ast q1 (Tr.is_ast q2 (Tr.is_ast q3 (Tr.is_ast q4.2 (Tr.is_leaf q4.1)))))))))))),
          .fin ⟨h, h0, rfl⟩ (c + 1) r f rest ok K a b st ev⟩
    · exact ⟨(9221120237041090560, 16), ⟨rfl, rfl⟩, ⟨rfl, rfl⟩, .bad ⟨h0, by omega, rfl⟩ rfl⟩
end Go.Fb
namespace Go.Fb
open Go.Ev
/-- what a sum is rounded to -/
def AddW (s t : Bool) (x : Rat) (mode : Int) (v : Int × Int) : Prop :=
  (x = 0 ∧ v = if s = t then (fl s 0, 0) else (fl (mode == 2) 0, 0)) ∨ (x ≠ 0 ∧ ExF x mode v)
end Go.Fb
namespace Go.Fb
open Go.Ev
inductive AddV (s : Bool) (k : Nat) (t : Bool) (j : Nat) (mode : Int) (v : Int × Int) : Prop
  | nan (h : 9218868437227405312 < k ∨ 9218868437227405312 < j) (e : v = (9221120237041090560, 0))
  | bad (h : k = 9218868437227405312 ∧ j = 9218868437227405312 ∧ s ≠ t) (e : v = (9221120237041090560, 16))
  | infa (h : k = 9218868437227405312 ∧ j ≤ 9218868437227405312 ∧ (j = 9218868437227405312 → s = t)) (e : v = (fl s 9218868437227405312, 0))
  | infb (h : k < 9218868437227405312 ∧ j = 9218868437227405312) (e : v = (fl t 9218868437227405312, 0))
  | fin (h : k < 9218868437227405312 ∧ j < 9218868437227405312) (w : AddW s t (fv s k + fv t j) mode v)
end Go.Fb
