/- Layer 6: plain laws of what the functions compute. Conditions: as each theorem states. -/
import Derived.Test.YtdkbeajkedffeaaUq
import Derived.Test.YtdkbeajkedffeaaSd
namespace Go.Fb
open Go.Ev
def ExF (x : Rat) (mode : Int) (v : Int × Int) : Prop := ∃ K a b, Sit 3925 (xV 3925 x) K a b ∧ v = rnd (decide (x < 0)) K a b (smOf 3925 (xV 3925 x)) mode
theorem ExF.unique {x : Rat} {mode : Int} {v w : Int × Int} (h : ExF x mode v) (g : ExF x mode w) : v = w := by
  obtain ⟨K, a, b, s, rfl⟩ := h
  obtain ⟨J, c, d, t, rfl⟩ := g
  obtain ⟨rfl, rfl, rfl⟩ := sit_inj s t
  rfl
theorem exF_of {s : Bool} {N D : Nat} (hN : N ≠ 0) (hD : D ≠ 0) {X : Xn} (hX : ∀ y, cut X y = cut (xQ 3925 N D) y) {K : Nat} {a b : Bool} (hs : Sit 3925 X K a b) (mode : Int) : ExF (rq s N D) mode (rnd s K a b (smOf 3925 X) mode) := by
  have c : ∀ y, cut X y = cut (xV 3925 (rq s N D)) y := fun y => (hX y).trans (xV_rq hN hD 3925 y).symm
  refine ⟨K, a, b, sit_congr c hs, ?_⟩
  rw [smOf_congr c, ← rq_neg hN hD]
theorem xInt_q {S M : Nat} {e : Int} (h : -((S : Int) + 1075) ≤ e) (y : Nat) : cut (xInt S M e false) y = cut (xQ S (2 ^ e.toNat * M) (2 ^ (-e).toNat)) y := by
  have hg : 0 < 2 ^ (-e).toNat := Nat.two_pow_pos _
  have := cut_scale (P := M * 2 ^ ((S : Int) + 1075 + e).toNat) (Q := 1) (c := false) hg y
  have e1 : M * 2 ^ ((S : Int) + 1075 + e).toNat * 2 ^ (-e).toNat = 2 ^ e.toNat * M * 2 ^ (S + 1075) := by
    rw [Nat.mul_assoc, ← Nat.pow_add, show ((S : Int) + 1075 + e).toNat + (-e).toNat = e.toNat + (S + 1075) by omega, Nat.pow_add]
    simp only [Nat.mul_assoc, Nat.mul_comm]
  unfold xInt xQ
  rw [← this, Nat.one_mul, e1]
theorem two_nz (n : Nat) : 2 ^ n ≠ 0 := Nat.ne_of_gt (Nat.two_pow_pos n)
theorem scale_nz {e : Int} {M : Nat} (h : M ≠ 0) : 2 ^ e.toNat * M ≠ 0 := Nat.mul_ne_zero (two_nz _) h
theorem nround_exact {m : U2} (hm : W2 m) (h0 : n2 m ≠ 0) (neg : Bool) {e : Int} (h1 : -5000 ≤ e) (h2 : e ≤ 5000) (mode : Int) : ∃ v, Tr.Is (n_Round_t neg m e false mode) v ∧ ExF (dy neg (n2 m) e) mode v := by
  obtain ⟨K, a, b, s, t⟩ := nround_is hm h0 neg e false mode (S := 3925) (Nat.le_refl _) (xInt_in _ _ _ _)
  rw [clamp_in h1 h2] at s t
  exact ⟨_, t, exF_of (scale_nz h0) (two_nz _) (fun y => xInt_q (by omega) y) s mode⟩
theorem nround_in {m : U2} (hm : W2 m) (h0 : n2 m ≠ 0) (neg : Bool) {e : Int} (h1 : -5000 ≤ e) (h2 : e ≤ 5000) {rest : Bool} (hr : rest = true → 9007199254740992 ≤ n2 m) (mode : Int) {N D : Nat} (hN : N ≠ 0) (hD : D ≠ 0) {X : Xn} (hX : ∀ y, cut X y = cut (xQ 3925 N D) y)
    (hin : In X (2 ^ (5000 + e).toNat) (n2 m) rest) : ∃ v, Tr.Is (n_Round_t neg m e rest mode) v ∧ ExF (rq neg N D) mode v := by
  have er : (rest && decide (9007199254740992 ≤ n2 m)) = rest := by
    cases rest with
    | false => rfl
    | true => rw [dt (hr rfl)]; rfl
  obtain ⟨K, a, b, s, t⟩ := nround_is hm h0 neg e rest mode (S := 3925) (Nat.le_refl _) (by rw [er, clamp_in h1 h2]; exact hin)
  exact ⟨_, t, exF_of hN hD hX s mode⟩
theorem xOf_q {x : RX} {A B : Nat} (hx : XIs x A B) (hr : x.rest = false) {S : Nat} (hS : 3925 ≤ S) (y : Nat) : cut (xOf S x) y = cut (xQ S (A * 2 ^ x.e.toNat) (B * 2 ^ (-x.e).toNat)) y := by
  have hg : 0 < 2 ^ (-x.e).toNat := Nat.two_pow_pos _
  have := cut_scale (P := A * 2 ^ ((S : Int) + 1075 + x.e).toNat) (Q := B) (c := false) hg y
  have e1 : A * 2 ^ ((S : Int) + 1075 + x.e).toNat * 2 ^ (-x.e).toNat = A * 2 ^ x.e.toNat * 2 ^ (S + 1075) := by
    have := hx.e1
    rw [Nat.mul_assoc, Nat.mul_assoc, ← Nat.pow_add, ← Nat.pow_add, show ((S : Int) + 1075 + x.e).toNat + (-x.e).toNat = x.e.toNat + (S + 1075) by omega]
  unfold xOf xQ
  rw [hx.a, hx.b, hr, ← this, e1]
theorem exF_fv {s : Bool} {k : Nat} (h : k < 9218868437227405312) (h0 : k ≠ 0) (mode : Int) : ExF (fv s k) mode (fl s k, 0) := by
  obtain ⟨f1, f2, f3, f4⟩ := fv_nz (s := s) h h0
  refine ⟨k, false, false, f4 _, ?_⟩
  rw [f3, rnd_self h]
end Go.Fb
namespace Go.Fb
open Go.Ev
theorem rq_same {s : Bool} {N D N' D' c d : Nat} (hc : c ≠ 0) (hd : d ≠ 0) (h1 : N * c = N' * d) (h2 : D * c = D' * d) : rq s N D = rq s N' D' := by
  rw [← rq_scale s hc (n := N) (d := D), h1, h2, rq_scale s hd]
theorem dy_shift (s : Bool) (m : Nat) (e : Int) (d : Nat) : dy s m (e + d) = dy s (m * 2 ^ d) e := by
  unfold dy
  refine rq_same (c := 2 ^ (-e).toNat) (d := 2 ^ (-(e + d)).toNat) (two_nz _) (two_nz _) ?_ ?_
  · have : 2 ^ (e + (d : Int)).toNat * 2 ^ (-e).toNat = 2 ^ e.toNat * 2 ^ d * 2 ^ (-(e + (d : Int))).toNat := by
      rw [← Nat.pow_add, ← Nat.pow_add, ← Nat.pow_add]; congr 1; omega
    rw [Nat.mul_right_comm, this]
    simp only [Nat.mul_assoc, Nat.mul_comm]
  · exact Nat.mul_comm _ _
theorem dy_mul (s t : Bool) (m n : Nat) (e f : Int) : dy s m e * dy t n f = dy (s != t) (m * n) (e + f) := by
  unfold dy
  rw [rq_mul]
  refine rq_same (c := 2 ^ (-(e + f)).toNat) (d := 2 ^ (-e).toNat * 2 ^ (-f).toNat) (two_nz _) (Nat.mul_ne_zero (two_nz _) (two_nz _)) ?_ ?_
  · have : 2 ^ e.toNat * 2 ^ f.toNat * 2 ^ (-(e + f)).toNat = 2 ^ (e + f).toNat * (2 ^ (-e).toNat * 2 ^ (-f).toNat) := by
      rw [← Nat.pow_add, ← Nat.pow_add, ← Nat.pow_add, ← Nat.pow_add]; congr 1; omega
    calc 2 ^ e.toNat * m * (2 ^ f.toNat * n) * 2 ^ (-(e + f)).toNat = (2 ^ e.toNat * 2 ^ f.toNat * 2 ^ (-(e + f)).toNat) * (m * n) := by simp only [Nat.mul_assoc, Nat.mul_comm, Nat.mul_left_comm]
      _ = _ := by rw [this]; simp only [Nat.mul_assoc, Nat.mul_comm]
  · exact Nat.mul_comm _ _
theorem dy_div {s t : Bool} {m n : Nat} (e f : Int) : dy s m e / dy t n f = rq (s != t) (m * 2 ^ (e - f).toNat) (n * 2 ^ (-(e - f)).toNat) := by
  unfold dy
  rw [Rat.div_def, ← rq_inv, rq_mul]
  refine rq_same (c := 2 ^ (-(e - f)).toNat) (d := 2 ^ (-e).toNat * 2 ^ f.toNat) (two_nz _) (Nat.mul_ne_zero (two_nz _) (two_nz _)) ?_ ?_
  · have : 2 ^ e.toNat * 2 ^ (-f).toNat * 2 ^ (-(e - f)).toNat = 2 ^ (e - f).toNat * (2 ^ (-e).toNat * 2 ^ f.toNat) := by
      rw [← Nat.pow_add, ← Nat.pow_add, ← Nat.pow_add, ← Nat.pow_add]; congr 1; omega
    calc 2 ^ e.toNat * m * 2 ^ (-f).toNat * 2 ^ (-(e - f)).toNat = (2 ^ e.toNat * 2 ^ (-f).toNat * 2 ^ (-(e - f)).toNat) * m := by simp only [Nat.mul_assoc, Nat.mul_comm]
      _ = _ := by rw [this]; simp only [Nat.mul_assoc, Nat.mul_comm, Nat.mul_left_comm]
  · simp only [Nat.mul_assoc, Nat.mul_comm, Nat.mul_left_comm]
theorem rq_add_same {s t : Bool} {n m : Nat} {d : Nat} (hd : d ≠ 0) : rq s n d + rq t m d = mkRat (sg s n + sg t m) d := by
  rw [rq_add s t n m hd hd, ← sg_mulN, ← sg_mulN, ← Int.add_mul, Rat.mkRat_mul_right hd]
theorem dy_add (s : Bool) (m n : Nat) (e : Int) : dy s m e + dy s n e = dy s (m + n) e := by
  unfold dy
  rw [rq_add_same (two_nz _)]
  unfold rq
  congr 1
  rw [Nat.mul_add]
  unfold sg
  split <;> omega
theorem dy_sub {s t : Bool} (hst : s ≠ t) {m n : Nat} (h : n ≤ m) (e : Int) : dy s m e + dy t n e = dy s (m - n) e := by
  unfold dy
  rw [rq_add_same (two_nz _)]
  unfold rq
  congr 1
  have h1 : 2 ^ e.toNat * (m - n) + 2 ^ e.toNat * n = 2 ^ e.toNat * m := by rw [← Nat.mul_add]; congr 1; omega
  generalize 2 ^ e.toNat * (m - n) = a at *
  generalize 2 ^ e.toNat * n = b at *
  generalize 2 ^ e.toNat * m = c at *
  cases s <;> cases t
  · exact absurd rfl hst
  · unfold sg; simp only [Bool.false_eq_true, if_false, if_true]; omega
  · unfold sg; simp only [Bool.false_eq_true, if_false, if_true]; omega
  · exact absurd rfl hst
theorem dy_zero (s : Bool) (e : Int) : dy s 0 e = 0 := by unfold dy; rw [Nat.mul_zero, rq_zero_num]
theorem dy_nz {s : Bool} {m : Nat} (h : m ≠ 0) (e : Int) : dy s m e ≠ 0 := by
  unfold dy rq
  intro g
  have := (Rat.mkRat_eq_zero (two_nz _)).1 g
  have h2 := scale_nz (e := e) h
  unfold sg at this
  split at this <;> omega
end Go.Fb
namespace Go.Fb
open Go.Ev
theorem sof_spec {s : Bool} {k : Nat} (h : k < 9223372036854775808) : s_of (fl s k) = ⟨fl s k, cls k, s, (mant k : Int), expo k⟩ := by
  show SN.mk (fl s k) (p_Class (fl s k)) (shrI IntKind.u64 (fl s k) 63 == 1) (p_Split (fl s k)).fst (p_Split (fl s k)).snd = _
  rw [class_spec h, shr_sign h, split_spec h]
theorem either_spec (a b : SN) (c : Int) : s_either a b c = (a.c == c || b.c == c) := by
  unfold s_either s_either_t s_either_T
  cases h : a.c == c <;> rfl
theorem szero_spec (s : Bool) : s_zero s = fl s 0 := by
  show (p_Make s 0 0).fst = _
  rw [zero_spec]
theorem sinvalid_spec : s_invalid = (9221120237041090560, 16) := rfl
theorem quiet_val : p_Quiet = 9221120237041090560 := rfl
inductive Kind (k : Nat) : Prop
  | nan (h : 9218868437227405312 < k) (c4 : (cls k == 4) = true) (c3 : (cls k == 3) = false) (c0 : (cls k == 0) = false)
  | inf (h : k = 9218868437227405312) (c4 : (cls k == 4) = false) (c3 : (cls k == 3) = true) (c0 : (cls k == 0) = false)
  | zero (h : k = 0) (c4 : (cls k == 4) = false) (c3 : (cls k == 3) = false) (c0 : (cls k == 0) = true)
  | fin (h : k < 9218868437227405312) (h0 : k ≠ 0) (c4 : (cls k == 4) = false) (c3 : (cls k == 3) = false) (c0 : (cls k == 0) = false)
theorem kind (k : Nat) : Kind k := by
  rcases cls_cases k with ⟨h, g⟩ | ⟨h, g⟩ | ⟨h, g⟩ | ⟨h, g⟩ | ⟨h, g⟩
  · exact .inf g (bf (by omega)) (bt h) (bf (by omega))
  · exact .nan g (bt h) (bf (by omega)) (bf (by omega))
  · exact .zero g (bf (by omega)) (bf (by omega)) (bt h)
  · exact .fin (by omega) (by omega) (bf (by omega)) (bf (by omega)) (bf (by omega))
  · exact .fin (by omega) (by omega) (bf (by omega)) (bf (by omega)) (bf (by omega))
theorem mant_nz {k : Nat} (h : k < 9218868437227405312) (h0 : k ≠ 0) : mant k ≠ 0 := fun g => h0 ((mant_zero h).1 g)
theorem wd_mant (k : Nat) : Wd (mant k : Int) := by have := mant_lt k; unfold Wd; omega
inductive MulV (s : Bool) (k : Nat) (t : Bool) (j : Nat) (mode : Int) (v : Int × Int) : Prop
  | nan (h : 9218868437227405312 < k ∨ 9218868437227405312 < j) (e : v = (9221120237041090560, 0))
  | bad (h : (k = 9218868437227405312 ∧ j = 0) ∨ (k = 0 ∧ j = 9218868437227405312)) (e : v = (9221120237041090560, 16))
  | inf (h : (k = 9218868437227405312 ∧ j ≤ 9218868437227405312 ∧ j ≠ 0) ∨ (j = 9218868437227405312 ∧ k ≤ 9218868437227405312 ∧ k ≠ 0)) (e : v = (fl (s != t) 9218868437227405312, 0))
  | zero (h : k < 9218868437227405312 ∧ j < 9218868437227405312 ∧ (k = 0 ∨ j = 0)) (e : v = (fl (s != t) 0, 0))
  | fin (h : k < 9218868437227405312 ∧ j < 9218868437227405312 ∧ k ≠ 0 ∧ j ≠ 0) (e : ExF (fv s k * fv t j) mode v)
theorem fv_dy (s : Bool) (k : Nat) : fv s k = dy s (mant k) (expo k) := rfl
theorem neg_eq (s t : Bool) : (!(s == t)) = (s != t) := by cases s <;> cases t <;> rfl
end Go.Fb
namespace Go.Fb
open Go.Ev
inductive DivV (s : Bool) (k : Nat) (t : Bool) (j : Nat) (mode : Int) (v : Int × Int) : Prop
  | nan (h : 9218868437227405312 < k ∨ 9218868437227405312 < j) (e : v = (9221120237041090560, 0))
  | bad (h : (k = 9218868437227405312 ∧ j = 9218868437227405312) ∨ (k = 0 ∧ j = 0)) (e : v = (9221120237041090560, 16))
  | inf (h : k = 9218868437227405312 ∧ j < 9218868437227405312) (e : v = (fl (s != t) 9218868437227405312, 0))
  | by0 (h : k < 9218868437227405312 ∧ k ≠ 0 ∧ j = 0) (e : v = (fl (s != t) 9218868437227405312, 8))
  | zero (h : (k = 0 ∧ j ≠ 0 ∧ j ≤ 9218868437227405312) ∨ (k < 9218868437227405312 ∧ j = 9218868437227405312)) (e : v = (fl (s != t) 0, 0))
  | fin (h : k < 9218868437227405312 ∧ j < 9218868437227405312 ∧ k ≠ 0 ∧ j ≠ 0) (e : ExF (fv s k / fv t j) mode v)
theorem n2_lo (m : Nat) : n2 ⟨0, (m : Int)⟩ = m := by unfold n2; simp
theorem n2_hi (m : Nat) : n2 ⟨(m : Int), 0⟩ = 18446744073709551616 * m := by unfold n2; simp
theorem len_mant {k : Nat} (h : k < 9218868437227405312) (h0 : k ≠ 0) : ∃ L : Nat, u2_Len ⟨0, (mant k : Int)⟩ = (L : Int) ∧ LenIs (mant k) L ∧ 1 ≤ L ∧ L ≤ 53 := by
  have m1 := mant_lt k
  have m0 := mant_nz h h0
  obtain ⟨L, l1, l2⟩ := ulen_spec (a := ⟨0, (mant k : Int)⟩) (by unfold W2 Wd; dsimp only; omega)
  rw [n2_lo] at l2
  refine ⟨L, l1, l2, ?_, lenIs_le l2 (m := 53) m1⟩
  rcases Nat.eq_zero_or_pos L with g | g
  · subst g; have := l2.1; simp at this; omega
  · exact g
theorem xIs_bits {a b : List Bool} {e : Int} {A B : Nat} (h1 : bv a = A) (h2 : bv b = B) (h3 : a.length ≤ 64) (h4 : b.length ≤ 64) (h5 : -5000 ≤ e) (h6 : e ≤ 5000) {r : Bool} : XIs ⟨a, b, e, r⟩ A B :=
  ⟨h1, h2, Nat.le_trans h3 (by decide), Nat.le_trans h4 (by decide), h5, h6⟩
theorem div_in {S : Nat} {A B q l sh : Nat} {e f : Int} {a b : List Bool} (h1 : bv a = A) (h2 : bv b = B) (hB : 0 < B) (h : A * 2 ^ (sh + 64) = B * q + l) (hl : l < B) {U : Nat} (hf : f = e - sh - 64) (hU : U = ((S : Int) + 1075 + f).toNat) (hr : 0 ≤ (S : Int) + 1075 + f) :
    In (xOf S ⟨a, b, e, false⟩) (2 ^ U) q (decide (l ≠ 0)) := by
  unfold xOf
  dsimp only
  rw [h1, h2]
  refine in_div (a := 2 ^ (sh + 64)) (c := 1) (Nat.two_pow_pos _) (Nat.two_pow_pos _) (Nat.two_pow_pos _) hB ?_ (by rw [Nat.mul_one]; exact h) (by rw [Nat.mul_one]; exact hl)
  rw [← Nat.pow_add, Nat.mul_one, show U + (sh + 64) = ((S : Int) + 1075 + e).toNat by omega]
theorem clsEq {k j : Nat} : (cls k == cls j) = true ∨ (cls k == cls j) = false := by cases cls k == cls j <;> simp
end Go.Fb
namespace Go.Fb
open Go.Ev
end Go.Fb
namespace Go.Fb
open Go.Ev
def AddW (s t : Bool) (x : Rat) (mode : Int) (v : Int × Int) : Prop :=
  (x = 0 ∧ v = if s = t then (fl s 0, 0) else (fl (mode == 2) 0, 0)) ∨ (x ≠ 0 ∧ ExF x mode v)
theorem add_in {S M q l d : Nat} {low f : Int} (h : M * 2 ^ 70 = 2 ^ d * q + l) (hl : l < 2 ^ d) {U : Nat} (hf : f = low + d - 70) (hU : U = ((S : Int) + 1075 + f).toNat) (hr : 0 ≤ (S : Int) + 1075 + f) (hr2 : 0 ≤ (S : Int) + 1075 + low) :
    In (xInt S M low false) (2 ^ U) q (decide (l ≠ 0)) := by
  unfold xInt
  refine in_div (a := 2 ^ 70) (c := 2 ^ d) (Nat.two_pow_pos _) (Nat.two_pow_pos _) (Nat.two_pow_pos _) Nat.one_pos ?_ (by rw [Nat.one_mul]; exact h) (by rw [Nat.one_mul]; exact hl)
  rw [← Nat.pow_add, ← Nat.pow_add, show U + 70 = ((S : Int) + 1075 + low).toNat + d by omega]
theorem mant_norm {k : Nat} (h : k < 9218868437227405312) (he : -1074 < expo k) (h0 : k ≠ 0) : 4503599627370496 ≤ mant k := by
  unfold expo at he
  unfold mant
  split at he
  · contradiction
  · split at he
    · omega
    · rw [if_neg (by assumption), if_pos h]; omega
theorem add_split (a b d : Nat) (p : Nat) (_hp : p = 1180591620717411303424) : (a * 2 ^ d + b) * p = 2 ^ d * (a * p + b * p / 2 ^ d) + b * p % 2 ^ d := by
  have := Nat.div_add_mod (b * p) (2 ^ d)
  rw [Nat.add_mul, Nat.mul_add, show a * 2 ^ d * p = 2 ^ d * (a * p) by simp only [Nat.mul_assoc, Nat.mul_comm, Nat.mul_left_comm]]
  omega
theorem sub_split {a b d : Nat} {p : Nat} (_hp : p = 1180591620717411303424) (h : b ≤ a * 2 ^ d) : b * p / 2 ^ d ≤ a * p ∧ 2 ^ d * (a * p - b * p / 2 ^ d) = (a * 2 ^ d - b) * p + b * p % 2 ^ d := by
  have h0 := Nat.two_pow_pos d
  have dm := Nat.div_add_mod (b * p) (2 ^ d)
  have e1 : a * 2 ^ d * p = 2 ^ d * (a * p) := by simp only [Nat.mul_assoc, Nat.mul_comm, Nat.mul_left_comm]
  have h1 : b * p ≤ 2 ^ d * (a * p) := by rw [← e1]; exact Nat.mul_le_mul_right _ h
  have h2 : b * p / 2 ^ d ≤ a * p := by
    have : b * p / 2 ^ d ≤ 2 ^ d * (a * p) / 2 ^ d := Nat.div_le_div_right h1
    rwa [Nat.mul_div_cancel_left _ h0] at this
  refine ⟨h2, ?_⟩
  rw [Nat.mul_sub, Nat.sub_mul, e1]
  have : 2 ^ d * (b * p / 2 ^ d) ≤ 2 ^ d * (a * p) := Nat.mul_le_mul_left _ h2
  omega
set_option maxHeartbeats 1000000 in
theorem sadd_is {s t : Bool} {k j : Nat} (hk : k < 9218868437227405312) (hj : j < 9218868437227405312) (k0 : k ≠ 0) (j0 : j ≠ 0) (he : expo j ≤ expo k) (hm : expo j = expo k → mant j ≤ mant k) (f g c1 c2 : Int) (mode : Int) :
    ∃ v, Tr.Is (s_add_t ⟨f, c1, s, (mant k : Int), expo k⟩ ⟨g, c2, t, (mant j : Int), expo j⟩ mode) v ∧ AddW s t (fv s k + fv t j) mode v := by
  have m1 := mant_lt k
  have m2 := mant_lt j
  have n1 := mant_nz hk k0
  have n2' := mant_nz hj j0
  have e1 := @expo_rng k
  have e2 := @expo_rng j
  obtain ⟨d, hd⟩ : ∃ d : Nat, (d : Int) = expo k - expo j := ⟨(expo k - expo j).toNat, by omega⟩
  have hnorm : 0 < d → 4503599627370496 ≤ mant k := fun h => mant_norm hk (by omega) k0
  have hle : mant j ≤ mant k * 2 ^ d := by
    rcases Nat.eq_zero_or_pos d with h | h
    · subst h; rw [Nat.pow_zero, Nat.mul_one]; exact hm (by omega)
    · have := hnorm h
      have h2 := Nat.pow_le_pow_right (n := 2) (by decide) h
      have := Nat.mul_le_mul this h2
      omega
  obtain ⟨p, hp⟩ : ∃ p : Nat, p = 1180591620717411303424 := ⟨_, rfl⟩
  have hp2 : 2 ^ 70 = p := hp.symm
  have pk1 : p ≤ mant k * p := Nat.le_mul_of_pos_left p (by omega)
  have pk2 : mant k * p ≤ 9007199254740991 * p := Nat.mul_le_mul_right p (by omega)
  have pj1 : p ≤ mant j * p := Nat.le_mul_of_pos_left p (by omega)
  have pj2 : mant j * p ≤ 9007199254740991 * p := Nat.mul_le_mul_right p (by omega)
  obtain ⟨a1, a2, a3⟩ := ushl_spec (a := ⟨0, (mant k : Int)⟩) (by unfold W2 Wd; dsimp only; omega) (n := 70) (by omega)
  obtain ⟨b1, b2, b3⟩ := ushl_spec (a := ⟨0, (mant j : Int)⟩) (by unfold W2 Wd; dsimp only; omega) (n := 70) (by omega)
  rw [n2_lo, hp2, Nat.mod_eq_of_lt (by omega)] at a3 b3
  rw [show ((70 : Nat) : Int) = 70 from rfl] at a1 a2 a3 b1 b2 b3
  obtain ⟨r1, r2, r3, r4⟩ := ushr_spec b2 (n := d) (by omega)
  rw [b3] at r3 r4
  have ed : IntKind.i64.wrap (expo k - expo j) = (d : Int) := by rw [w64 (by omega) (by omega)]; omega
  have ee : IntKind.i64.wrap (expo k - 70) = expo k - 70 := w64 (by omega) (by omega)
  have hq : mant j * p / 2 ^ d ≤ mant j * p := Nat.div_le_self _ _
  have hx : ∀ M, (∀ y, cut (xInt 3925 M (expo j) false) y = cut (xQ 3925 (2 ^ (expo j).toNat * M) (2 ^ (-(expo j)).toNat)) y) := fun M y => xInt_q (by omega) y
  have vk : fv s k = dy s (mant k * 2 ^ d) (expo j) := by rw [fv_dy, ← dy_shift]; congr 1; omega
  have vj : fv t j = dy t (mant j) (expo j) := fv_dy t j
  unfold s_add_t s_add_T
  dsimp only
  rw [ed, ee]
  by_cases hst : s = t
  · subst hst
    obtain ⟨u1, u2, u3, u4⟩ := uadd_spec a2 r2
    rw [a3, r3, Nat.mod_eq_of_lt (by omega)] at u3
    have hM : mant k * 2 ^ d + mant j ≠ 0 := by omega
    have hs := add_split (mant k) (mant j) d p hp
    have hs2 : (mant k * 2 ^ d + mant j) * 2 ^ 70 = 2 ^ d * (mant k * p + mant j * p / 2 ^ d) + mant j * p % 2 ^ d := by rw [hp2]; exact hs
    obtain ⟨v, v1, v2⟩ := nround_in u2 (by rw [u3]; omega) s (e := expo k - 70) (by omega) (by omega) (rest := (u2_Shr (u2_Shl ⟨0, (mant j : Int)⟩ 70) (d : Int)).snd) (fun _ => by rw [u3]; omega) mode (scale_nz hM) (two_nz _) (hx _)
      (by rw [r4, u3]; exact add_in hs2 (Nat.mod_lt _ (Nat.two_pow_pos d)) (f := expo k - 70) (by omega) (by omega) (by omega) (by omega))
    refine ⟨v, Tr.is_ast a1 (Tr.is_ast b1 (Tr.is_ast r1 (Tr.is_br_t (by simp) (Tr.is_ast u1 (Tr.is_ast v1.2 (Tr.is_leaf v1.1)))))), .inr ?_⟩
    rw [vk, vj, dy_add]
    exact ⟨dy_nz hM _, v2⟩
  · obtain ⟨w1, w2⟩ := sub_split (a := mant k) (b := mant j) (d := d) hp hle
    obtain ⟨u1, u2, u3, u4⟩ := usub_spec a2 r2
    rw [a3, r3] at u3
    have u3 : n2 (u2_Sub (u2_Shl ⟨0, (mant k : Int)⟩ 70) (u2_Shr (u2_Shl ⟨0, (mant j : Int)⟩ 70) (d : Int)).1).1 = mant k * p - mant j * p / 2 ^ d := by
      rw [u3, show mant k * p + 340282366920938463463374607431768211456 - mant j * p / 2 ^ d = (mant k * p - mant j * p / 2 ^ d) + 340282366920938463463374607431768211456 by omega, Nat.add_mod_right, Nat.mod_eq_of_lt (by omega)]
    have hval : fv s k + fv t j = dy s (mant k * 2 ^ d - mant j) (expo j) := by rw [vk, vj, dy_sub hst hle]
    have hb : (s == t) = false := by cases s <;> cases t <;> first | rfl | exact absurd rfl hst
    have hlt := Nat.mod_lt (mant j * p) (Nat.two_pow_pos d)
    have hz : ∀ z : U2, W2 z → ((z.hi == 0 && (z.lo == 0 && true)) = decide (n2 z = 0)) := fun z hz => by
      obtain ⟨h1, h2⟩ := hz
      unfold Wd at h1 h2
      have ez : n2 z = 0 ↔ (z.hi = 0 ∧ z.lo = 0) := by unfold n2; omega
      by_cases g1 : z.hi = 0
      · by_cases g2 : z.lo = 0
        · rw [bt g1, bt g2, dt (ez.2 ⟨g1, g2⟩)]; rfl
        · rw [bt g1, bf g2, df (fun g => g2 (ez.1 g).2)]; rfl
      · rw [bf g1, df (fun g => g1 (ez.1 g).1)]; rfl
    have zt := hz _ u2
    rw [u3] at zt
    by_cases hz0 : mant k * p - mant j * p / 2 ^ d = 0
    · rw [dt hz0] at zt
      rw [hz0, Nat.mul_zero] at w2
      have hM : mant k * 2 ^ d - mant j = 0 := by
        rcases Nat.eq_zero_or_pos (mant k * 2 ^ d - mant j) with h | h
        · exact h
        · have := Nat.mul_pos h (show 0 < p by omega); omega
      refine ⟨(fl (mode == 2) 0, 0), Tr.is_ast a1 (Tr.is_ast b1 (Tr.is_ast r1 (Tr.is_br_f hb (Tr.is_ast u1 (Tr.is_br_t zt (Tr.is_leaf (by rw [szero_spec]))))))), .inl ⟨?_, by rw [if_neg hst]⟩⟩
      rw [hval, hM, dy_zero]
    · rw [df hz0] at zt
      have hM : mant k * 2 ^ d - mant j ≠ 0 := by
        intro h
        rw [h, Nat.zero_mul, Nat.zero_add] at w2
        have h1 : 1 ≤ mant k * p - mant j * p / 2 ^ d := by omega
        have := Nat.mul_le_mul_left (2 ^ d) h1
        omega
      by_cases hl : mant j * p % 2 ^ d = 0
      · have r4' : (u2_Shr (u2_Shl ⟨0, (mant j : Int)⟩ 70) (d : Int)).snd = false := by rw [r4]; exact df (by omega)
        obtain ⟨v, v1, v2⟩ := nround_in u2 (by rw [u3]; exact hz0) s (e := expo k - 70) (by omega) (by omega) (rest := false) (fun g => by contradiction) mode (scale_nz hM) (two_nz _) (hx _)
          (by rw [u3]; exact add_in (l := 0) (by rw [hp2, w2, hl]; simp only [Nat.add_zero]) (Nat.two_pow_pos d) (f := expo k - 70) (by omega) (by omega) (by omega) (by omega))
        refine ⟨v, Tr.is_ast a1 (Tr.is_ast b1 (Tr.is_ast r1 (Tr.is_br_f hb (Tr.is_ast u1 (Tr.is_br_f zt (Tr.is_br_f r4' ?_)))))), .inr (by rw [hval]; exact ⟨dy_nz hM _, v2⟩)⟩
        rw [r4']
        exact Tr.is_ast v1.2 (Tr.is_leaf v1.1)
      · have r4' : (u2_Shr (u2_Shl ⟨0, (mant j : Int)⟩ 70) (d : Int)).snd = true := by rw [r4]; exact dt hl
        have hd70 : 70 < d := by
          rcases Nat.lt_or_ge 70 d with h | h
          · exact h
          · exfalso
            apply hl
            rw [← hp2, show (70 : Nat) = d + (70 - d) by omega, Nat.pow_add, ← Nat.mul_assoc, Nat.mul_comm (mant j), Nat.mul_assoc, Nat.mul_mod_right]
        have hbig := hnorm (by omega)
        have hqs : mant j * p / 2 ^ d < 9007199254740992 := by
          have h71 : mant j * p / 2 ^ d ≤ mant j * p / 2 ^ 70 := Nat.div_le_div_left (Nat.pow_le_pow_right (by decide) (by omega)) (Nat.two_pow_pos 70)
          rw [hp2, Nat.mul_div_cancel _ (by omega)] at h71
          omega
        obtain ⟨x1, x2, x3, x4⟩ := usub_spec (b := ⟨0, 1⟩) u2 (by unfold W2 Wd; dsimp only; omega)
        have x3 : n2 (u2_Sub (u2_Sub (u2_Shl ⟨0, (mant k : Int)⟩ 70) (u2_Shr (u2_Shl ⟨0, (mant j : Int)⟩ 70) (d : Int)).1).1 ⟨0, 1⟩).1 = mant k * p - mant j * p / 2 ^ d - 1 := by
          rw [x3, u3, show n2 ⟨0, 1⟩ = 1 from rfl, show mant k * p - mant j * p / 2 ^ d + 340282366920938463463374607431768211456 - 1 = (mant k * p - mant j * p / 2 ^ d - 1) + 340282366920938463463374607431768211456 by omega, Nat.add_mod_right, Nat.mod_eq_of_lt (by omega)]
        have hsz : 9007199254740992 ≤ mant k * p - mant j * p / 2 ^ d - 1 := by
          have := Nat.mul_le_mul_right p hbig
          omega
        have e3 : 2 ^ d * (mant k * p - mant j * p / 2 ^ d) = 2 ^ d * (mant k * p - mant j * p / 2 ^ d - 1) + 2 ^ d := by
          rw [← Nat.mul_succ]; congr 1; omega
        have key := add_in (S := 3925) (M := mant k * 2 ^ d - mant j) (q := mant k * p - mant j * p / 2 ^ d - 1) (l := 2 ^ d - mant j * p % 2 ^ d) (d := d) (low := expo j) (f := expo k - 70) (by rw [hp2]; omega) (by omega) (U := (5000 + (expo k - 70)).toNat) (by omega) (by omega) (by omega) (by omega)
        rw [dt (show 2 ^ d - mant j * p % 2 ^ d ≠ 0 by omega)] at key
        obtain ⟨v, v1, v2⟩ := nround_in x2 (by rw [x3]; omega) s (e := expo k - 70) (by omega) (by omega) (rest := true) (fun _ => by rw [x3]; exact hsz) mode (scale_nz hM) (two_nz _) (hx _) (by rw [x3]; exact key)
        refine ⟨v, Tr.is_ast a1 (Tr.is_ast b1 (Tr.is_ast r1 (Tr.is_br_f hb (Tr.is_ast u1 (Tr.is_br_f zt (Tr.is_br_t r4' ?_)))))), .inr (by rw [hval]; exact ⟨dy_nz hM _, v2⟩)⟩
        rw [r4']
        exact Tr.is_ast x1 (Tr.is_ast v1.2 (Tr.is_leaf v1.1))
end Go.Fb
namespace Go.Fb
open Go.Ev
inductive AddV (s : Bool) (k : Nat) (t : Bool) (j : Nat) (mode : Int) (v : Int × Int) : Prop
  | nan (h : 9218868437227405312 < k ∨ 9218868437227405312 < j) (e : v = (9221120237041090560, 0))
  | bad (h : k = 9218868437227405312 ∧ j = 9218868437227405312 ∧ s ≠ t) (e : v = (9221120237041090560, 16))
  | infa (h : k = 9218868437227405312 ∧ j ≤ 9218868437227405312 ∧ (j = 9218868437227405312 → s = t)) (e : v = (fl s 9218868437227405312, 0))
  | infb (h : k < 9218868437227405312 ∧ j = 9218868437227405312) (e : v = (fl t 9218868437227405312, 0))
  | fin (h : k < 9218868437227405312 ∧ j < 9218868437227405312) (w : AddW s t (fv s k + fv t j) mode v)
theorem sAdd_nan {a b mode : Int} (h : s_either (s_of a) (s_of b) 4 = true) : Tr.Is (s_Add_t a b mode) (9221120237041090560, 0) := by
  unfold s_Add_t s_Add_T
  extract_lets
  exact Tr.is_br_t h (Tr.is_leaf rfl)
theorem sAdd_ii {a b mode : Int} (h : s_either (s_of a) (s_of b) 4 = false) (a3 : ((s_of a).c == 3) = true) (b3 : ((s_of b).c == 3) = true) :
    Tr.Is (s_Add_t a b mode) (if (s_of a).neg == (s_of b).neg then (a, 0) else (9221120237041090560, 16)) := by
  unfold s_Add_t s_Add_T
  extract_lets
  refine Tr.is_br_f h (Tr.is_br_t a3 (Tr.is_br_t b3 ?_))
  cases h : (s_of a).neg == (s_of b).neg with
  | true => exact Tr.is_br_f (show (!((s_of a).neg == (s_of b).neg)) = false by rw [h]; rfl) (Tr.is_br_t a3 (Tr.is_leaf rfl))
  | false => exact Tr.is_br_t (show (!((s_of a).neg == (s_of b).neg)) = true by rw [h]; rfl) (Tr.is_leaf rfl)
theorem sAdd_if {a b mode : Int} (h : s_either (s_of a) (s_of b) 4 = false) (a3 : ((s_of a).c == 3) = true) (b3 : ((s_of b).c == 3) = false) : Tr.Is (s_Add_t a b mode) (a, 0) := by
  unfold s_Add_t s_Add_T
  extract_lets
  exact Tr.is_br_f h (Tr.is_br_t a3 (Tr.is_br_f b3 (Tr.is_br_t a3 (Tr.is_leaf rfl))))
theorem sAdd_fi {a b mode : Int} (h : s_either (s_of a) (s_of b) 4 = false) (a3 : ((s_of a).c == 3) = false) (b3 : ((s_of b).c == 3) = true) : Tr.Is (s_Add_t a b mode) (b, 0) := by
  unfold s_Add_t s_Add_T
  extract_lets
  exact Tr.is_br_f h (Tr.is_br_f a3 (Tr.is_br_f a3 (Tr.is_br_t b3 (Tr.is_leaf rfl))))
def sAddC (a b mode : Int) : Tr (Int × Int) :=
  Tr.br (decide ((s_of a).e < (s_of b).e))
    (Tr.ast (s_add_s (s_of b) (s_of a) mode) (Tr.leaf (s_add (s_of b) (s_of a) mode)))
    (Tr.br ((s_of a).e == (s_of b).e)
      (Tr.br (decide ((s_of a).m < (s_of b).m))
        (Tr.ast (s_add_s (s_of b) (s_of a) mode) (Tr.leaf (s_add (s_of b) (s_of a) mode)))
        (Tr.ast (s_add_s (s_of a) (s_of b) mode) (Tr.leaf (s_add (s_of a) (s_of b) mode))))
      (Tr.ast (s_add_s (s_of a) (s_of b) mode) (Tr.leaf (s_add (s_of a) (s_of b) mode))))
theorem sAdd_ff {a b mode : Int} (h : s_either (s_of a) (s_of b) 4 = false) (a3 : ((s_of a).c == 3) = false) (b3 : ((s_of b).c == 3) = false) {v : Int × Int}
    (hzz : ((s_of a).m == 0) = true → ((s_of b).m == 0) = true → v = if (s_of a).neg == (s_of b).neg then (a, 0) else (s_zero (mode == 2), 0))
    (hzn : ((s_of a).m == 0) = true → ((s_of b).m == 0) = false → v = (b, 0)) (hnz : ((s_of a).m == 0) = false → ((s_of b).m == 0) = true → v = (a, 0))
    (hnn : ((s_of a).m == 0) = false → ((s_of b).m == 0) = false → Tr.Is (sAddC a b mode) v) : Tr.Is (s_Add_t a b mode) v := by
  unfold s_Add_t s_Add_T
  extract_lets
  refine Tr.is_br_f h (Tr.is_br_f a3 (Tr.is_br_f a3 (Tr.is_br_f b3 ?_)))
  cases ha : (s_of a).m == 0 with
  | true =>
    refine Tr.is_br_t ha ?_
    cases hb : (s_of b).m == 0 with
    | true =>
      refine Tr.is_br_t hb ?_
      have hv := hzz ha hb
      cases hn : (s_of a).neg == (s_of b).neg with
      | true => rw [hn] at hv; exact Tr.is_br_t hn (Tr.is_leaf hv.symm)
      | false => rw [hn] at hv; exact Tr.is_br_f hn (Tr.is_br_t ha (Tr.is_br_t hb (Tr.is_leaf hv.symm)))
    | false => exact Tr.is_br_f hb (Tr.is_br_t ha (Tr.is_br_f hb (Tr.is_br_t ha (Tr.is_leaf (hzn ha hb).symm))))
  | false =>
    refine Tr.is_br_f ha (Tr.is_br_f ha (Tr.is_br_f ha ?_))
    cases hb : (s_of b).m == 0 with
    | true => exact Tr.is_br_t hb (Tr.is_leaf (hnz ha hb).symm)
    | false => exact Tr.is_br_f hb (hnn ha hb)
theorem sAddC_is {s t : Bool} {k j : Nat} (hk : k < 9223372036854775808) (hj : j < 9223372036854775808) (h : k < 9218868437227405312) (g : j < 9218868437227405312) (h0 : k ≠ 0) (g0 : j ≠ 0) (mode : Int) :
    ∃ v, AddW s t (fv s k + fv t j) mode v ∧ Tr.Is (sAddC (fl s k) (fl t j) mode) v := by
  have swap : expo k < expo j ∨ (expo k = expo j ∧ mant k < mant j) → ∃ v, AddW s t (fv s k + fv t j) mode v ∧ Tr.Is (s_add_t ⟨fl t j, cls j, t, (mant j : Int), expo j⟩ ⟨fl s k, cls k, s, (mant k : Int), expo k⟩ mode) v := fun hh => by
    obtain ⟨v, v1, v2⟩ := sadd_is g h g0 h0 (s := t) (t := s) (by omega) (by omega) (fl t j) (fl s k) (cls j) (cls k) mode
    rw [Rat.add_comm] at v2
    refine ⟨v, ?_, v1⟩
    rcases v2 with ⟨a1, a2⟩ | a
    · refine .inl ⟨a1, ?_⟩
      rw [a2]
      by_cases hst : s = t
      · rw [if_pos hst, if_pos hst.symm, hst]
      · rw [if_neg hst, if_neg (fun e => hst e.symm)]
    · exact .inr a
  have keep : ¬ (expo k < expo j) → ¬ (expo k = expo j ∧ mant k < mant j) → ∃ v, AddW s t (fv s k + fv t j) mode v ∧ Tr.Is (s_add_t ⟨fl s k, cls k, s, (mant k : Int), expo k⟩ ⟨fl t j, cls j, t, (mant j : Int), expo j⟩ mode) v := fun h1 h2 => by
    obtain ⟨v, v1, v2⟩ := sadd_is h g h0 g0 (s := s) (t := t) (by omega) (by omega) (fl s k) (fl t j) (cls k) (cls j) mode
    exact ⟨v, v2, v1⟩
  unfold sAddC
  rw [sof_spec hk, sof_spec hj]
  by_cases q1 : expo k < expo j
  · obtain ⟨v, v1, v2⟩ := swap (.inl q1)
    exact ⟨v, v1, Tr.is_br_t (dt q1) (Tr.is_ast v2.2 (Tr.is_leaf v2.1))⟩
  · by_cases q2 : expo k = expo j
    · by_cases q3 : mant k < mant j
      · obtain ⟨v, v1, v2⟩ := swap (.inr ⟨q2, q3⟩)
        exact ⟨v, v1, Tr.is_br_f (df q1) (Tr.is_br_t (bt q2) (Tr.is_br_t (dt (by dsimp only; omega)) (Tr.is_ast v2.2 (Tr.is_leaf v2.1))))⟩
      · obtain ⟨v, v1, v2⟩ := keep q1 (by omega)
        exact ⟨v, v1, Tr.is_br_f (df q1) (Tr.is_br_t (bt q2) (Tr.is_br_f (df (by dsimp only; omega)) (Tr.is_ast v2.2 (Tr.is_leaf v2.1))))⟩
    · obtain ⟨v, v1, v2⟩ := keep q1 (by omega)
      exact ⟨v, v1, Tr.is_br_f (df q1) (Tr.is_br_f (bf q2) (Tr.is_ast v2.2 (Tr.is_leaf v2.1)))⟩
theorem addfin {s t : Bool} {k j : Nat} (hk : k < 9223372036854775808) (hj : j < 9223372036854775808) (h : k < 9218868437227405312) (g : j < 9218868437227405312) (mode : Int) :
    ∃ v, AddW s t (fv s k + fv t j) mode v ∧ (((mant k : Int) == 0) = true → ((mant j : Int) == 0) = true → v = if s == t then (fl s k, 0) else (s_zero (mode == 2), 0)) ∧
    (((mant k : Int) == 0) = true → ((mant j : Int) == 0) = false → v = (fl t j, 0)) ∧ (((mant k : Int) == 0) = false → ((mant j : Int) == 0) = true → v = (fl s k, 0)) ∧
    (((mant k : Int) == 0) = false → ((mant j : Int) == 0) = false → Tr.Is (sAddC (fl s k) (fl t j) mode) v) := by
  by_cases h0 : k = 0
  · have z1 : ((mant k : Int) == 0) = true := bt (by rw [(mant_zero h).2 h0]; rfl)
    by_cases g0 : j = 0
    · have z2 : ((mant j : Int) == 0) = true := bt (by rw [(mant_zero g).2 g0]; rfl)
      rw [z1, z2]
      refine ⟨if s = t then (fl s 0, 0) else (fl (mode == 2) 0, 0), .inl ⟨by rw [h0, g0, fv_zero, fv_zero, Rat.add_zero], rfl⟩, fun _ _ => ?_, fun _ e => (by contradiction), fun e => (by contradiction), fun e => (by contradiction)⟩
      rw [szero_spec, h0]
      by_cases hst : s = t
      · rw [if_pos hst, if_pos (by rw [hst]; simp)]
      · rw [if_neg hst, if_neg (by simpa using hst)]
    · have z2 : ((mant j : Int) == 0) = false := bf (by have := mant_nz g g0; omega)
      rw [z1, z2]
      exact ⟨(fl t j, 0), .inr (by rw [h0, fv_zero, Rat.zero_add]; exact ⟨(fv_nz g g0).2.1, exF_fv g g0 mode⟩), fun _ e => (by contradiction), fun _ _ => rfl, fun e => (by contradiction), fun e => (by contradiction)⟩
  · have z1 : ((mant k : Int) == 0) = false := bf (by have := mant_nz h h0; omega)
    by_cases g0 : j = 0
    · have z2 : ((mant j : Int) == 0) = true := bt (by rw [(mant_zero g).2 g0]; rfl)
      rw [z1, z2]
      exact ⟨(fl s k, 0), .inr (by rw [g0, fv_zero, Rat.add_zero]; exact ⟨(fv_nz h h0).2.1, exF_fv h h0 mode⟩), fun e => (by contradiction), fun e => (by contradiction), fun _ _ => rfl, fun _ e => (by contradiction)⟩
    · have z2 : ((mant j : Int) == 0) = false := bf (by have := mant_nz g g0; omega)
      obtain ⟨v, v1, v2⟩ := sAddC_is (s := s) (t := t) hk hj h g h0 g0 mode
      rw [z1, z2]
      exact ⟨v, v1, fun e => (by contradiction), fun e => (by contradiction), fun _ e => (by contradiction), fun _ _ => v2⟩
end Go.Fb
