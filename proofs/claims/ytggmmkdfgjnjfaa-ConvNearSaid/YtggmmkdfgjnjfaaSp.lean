/- Layer 6: plain laws of what the functions compute. Conditions: as each theorem states. -/
import Derived.Test.YtggmmkdfgjnjfaaUq
import Derived.Test.YtggmmkdfgjnjfaaSd
namespace Go.Fb
open Go.Ev
def ExF (x : Rat) (mode : Int) (v : Int × Int) : Prop := ∃ K a b, Sit 3925 (xV 3925 x) K a b ∧ v = rnd (decide (x < 0)) K a b (smOf 3925 (xV 3925 x)) mode
theorem ExF.unique {x : Rat} {mode : Int} {v w : Int × Int} (h : ExF x mode v) (g : ExF x mode w) : v = w := by
  obtain ⟨K, a, b, s, rfl⟩ := h
  obtain ⟨J, c, d, t, rfl⟩ := g
  obtain ⟨rfl, rfl, rfl⟩ := sit_inj s t
  rfl
theorem exF_of {s : Bool} {N D : Nat} (hN : N ≠ 0) (hD : D ≠ 0) {X : Xn} (hX : ∀ y, cut X y = cut (xQ 3925 N D) y) {K : Nat} {a b : Bool} (hs : Sit 3925 X K a b) (mode : Int) : ExF (rq s N D) mode (rnd s K a b (smOf 3925 X) mode) := by
  have c : ∀ y, cut X y = cut (xV 3925 (rq s N D)) y := fun y => (hX y).trans (xV_rq hN hD 3925 y).symm
  refine ⟨K, a, b, sit_congr c hs, ?_⟩
  rw [smOf_congr c, ← rq_neg hN hD]
/-- an integer times a power of two, as a fraction -/
theorem xInt_q {S M : Nat} {e : Int} (h : -((S : Int) + 1075) ≤ e) (y : Nat) : cut (xInt S M e false) y = cut (xQ S (2 ^ e.toNat * M) (2 ^ (-e).toNat)) y := by
  have hg : 0 < 2 ^ (-e).toNat := Nat.two_pow_pos _
  have := cut_scale (P := M * 2 ^ ((S : Int) + 1075 + e).toNat) (Q := 1) (c := false) hg y
  have e1 : M * 2 ^ ((S : Int) + 1075 + e).toNat * 2 ^ (-e).toNat = 2 ^ e.toNat * M * 2 ^ (S + 1075) := by
    rw [Nat.mul_assoc, ← Nat.pow_add, show ((S : Int) + 1075 + e).toNat + (-e).toNat = e.toNat + (S + 1075) by omega, Nat.pow_add]
    simp only [Nat.mul_assoc, Nat.mul_comm]
  unfold xInt xQ
  rw [← this, Nat.one_mul, e1]
theorem two_nz (n : Nat) : 2 ^ n ≠ 0 := Nat.ne_of_gt (Nat.two_pow_pos n)
theorem scale_nz {e : Int} {M : Nat} (h : M ≠ 0) : 2 ^ e.toNat * M ≠ 0 := Nat.mul_ne_zero (two_nz _) h
theorem nround_exact {m : U2} (hm : W2 m) (h0 : n2 m ≠ 0) (neg : Bool) {e : Int} (h1 : -5000 ≤ e) (h2 : e ≤ 5000) (mode : Int) : ∃ v, Tr.Is (n_Round_t neg m e false mode) v ∧ ExF (dy neg (n2 m) e) mode v := by
  obtain ⟨K, a, b, s, t⟩ := nround_is hm h0 neg e false mode (S := 3925) (Nat.le_refl _) (xInt_in _ _ _ _)
  rw [clamp_in h1 h2] at s t
  exact ⟨_, t, exF_of (scale_nz h0) (two_nz _) (fun y => xInt_q (by omega) y) s mode⟩
theorem exF_fv {s : Bool} {k : Nat} (h : k < 9218868437227405312) (h0 : k ≠ 0) (mode : Int) : ExF (fv s k) mode (fl s k, 0) := by
  obtain ⟨f1, f2, f3, f4⟩ := fv_nz (s := s) h h0
  refine ⟨k, false, false, f4 _, ?_⟩
  rw [f3, rnd_self h]
end Go.Fb
namespace Go.Fb
open Go.Ev
theorem rq_add_same {s t : Bool} {n m : Nat} {d : Nat} (hd : d ≠ 0) : rq s n d + rq t m d = mkRat (sg s n + sg t m) d := by
  rw [rq_add s t n m hd hd, ← sg_mulN, ← sg_mulN, ← Int.add_mul, Rat.mkRat_mul_right hd]
end Go.Fb
namespace Go.Fb
open Go.Ev
theorem rbits6_spec {m : Nat} (h : m < 18446744073709551616) : r6_bits_s (m : Int) = true ∧ bv (r6_bits (m : Int)) = m ∧ LenIs m (r6_bits (m : Int)).length ∧ (r6_bits (m : Int)).length ≤ 64 := by
  obtain ⟨o1, o2, o3⟩ := of1_spec (x := (m : Int)) (by unfold Wd; omega)
  obtain ⟨l1, L, l2, l3⟩ := rlen_spec (a := r1_Of1 (m : Int)) (by omega)
  rw [o3, Int.toNat_natCast] at l3
  have hL : L ≤ 64 := lenIs_le l3 (m := 64) h
  have ht : Tr.Is (r6_bits_t (m : Int)) ((r1_Of1 (m : Int)).take L) := by
    unfold r6_bits_t r6_bits_T
    rw [l2]
    refine Tr.is_ast o1 (Tr.is_ast l1 (Tr.is_ast ?_ (Tr.is_leaf ?_)))
    · show (decide (0 ≤ (L : Int)) && decide ((L : Int) ≤ ((r1_Of1 (m : Int)).length : Int))) = true
      rw [dt (by omega), dt (by omega)]; rfl
    · show List.take ((L : Int).toNat - 0) (List.drop 0 (r1_Of1 (m : Int))) = _
      rw [Int.toNat_natCast, Nat.sub_zero, List.drop_zero]
  have e : r6_bits (m : Int) = _ := ht.1
  have hlen : ((r1_Of1 (m : Int)).take L).length = L := by rw [List.length_take]; omega
  refine ⟨ht.2, ?_, ?_, ?_⟩
  · rw [e, bv_take _ _ (by omega), o3, Int.toNat_natCast, Nat.mod_eq_of_lt l3.1]
  · rw [e, hlen]; exact l3
  · rw [e, hlen]; exact hL
inductive Kind (k : Nat) : Prop
  | nan (h : 9218868437227405312 < k) (c4 : (cls k == 4) = true) (c3 : (cls k == 3) = false) (c0 : (cls k == 0) = false)
  | inf (h : k = 9218868437227405312) (c4 : (cls k == 4) = false) (c3 : (cls k == 3) = true) (c0 : (cls k == 0) = false)
  | zero (h : k = 0) (c4 : (cls k == 4) = false) (c3 : (cls k == 3) = false) (c0 : (cls k == 0) = true)
  | fin (h : k < 9218868437227405312) (h0 : k ≠ 0) (c4 : (cls k == 4) = false) (c3 : (cls k == 3) = false) (c0 : (cls k == 0) = false)
theorem kind (k : Nat) : Kind k := by
  rcases cls_cases k with ⟨h, g⟩ | ⟨h, g⟩ | ⟨h, g⟩ | ⟨h, g⟩ | ⟨h, g⟩
  · exact .inf g (bf (by omega)) (bt h) (bf (by omega))
  · exact .nan g (bt h) (bf (by omega)) (bf (by omega))
  · exact .zero g (bf (by omega)) (bf (by omega)) (bt h)
  · exact .fin (by omega) (by omega) (bf (by omega)) (bf (by omega)) (bf (by omega))
  · exact .fin (by omega) (by omega) (bf (by omega)) (bf (by omega)) (bf (by omega))
inductive MulV (s : Bool) (k : Nat) (t : Bool) (j : Nat) (mode : Int) (v : Int × Int) : Prop
  | nan (h : 9218868437227405312 < k ∨ 9218868437227405312 < j) (e : v = (9221120237041090560, 0))
  | bad (h : (k = 9218868437227405312 ∧ j = 0) ∨ (k = 0 ∧ j = 9218868437227405312)) (e : v = (9221120237041090560, 16))
  | inf (h : (k = 9218868437227405312 ∧ j ≤ 9218868437227405312 ∧ j ≠ 0) ∨ (j = 9218868437227405312 ∧ k ≤ 9218868437227405312 ∧ k ≠ 0)) (e : v = (fl (s != t) 9218868437227405312, 0))
  | zero (h : k < 9218868437227405312 ∧ j < 9218868437227405312 ∧ (k = 0 ∨ j = 0)) (e : v = (fl (s != t) 0, 0))
  | fin (h : k < 9218868437227405312 ∧ j < 9218868437227405312 ∧ k ≠ 0 ∧ j ≠ 0) (e : ExF (fv s k * fv t j) mode v)
end Go.Fb
namespace Go.Fb
open Go.Ev
theorem n2_lo (m : Nat) : n2 ⟨0, (m : Int)⟩ = m := by unfold n2; simp
end Go.Fb
namespace Go.Fb
open Go.Ev
/-- a root: of m times 2^sh, with s below and what is left -/
structure RtOk (m : Nat) (e : Int) (sh s : Nat) (f : Int) (rest : Bool) : Prop where
  par : 2 * f = e - sh
  lo : s * s ≤ m * 2 ^ sh
  hi : m * 2 ^ sh < (s + 1) * (s + 1)
  re : rest = decide (s * s < m * 2 ^ sh)
  big : 4611686018427387904 ≤ s
  rng : 72 ≤ sh ∧ sh ≤ 127
  len : ∃ L, LenIs m L ∧ (sh + L = 126 ∨ sh + L = 127)
end Go.Fb
namespace Go.Fb
open Go.Ev
/-- what a sum is rounded to -/
def AddW (s t : Bool) (x : Rat) (mode : Int) (v : Int × Int) : Prop :=
  (x = 0 ∧ v = if s = t then (fl s 0, 0) else (fl (mode == 2) 0, 0)) ∨ (x ≠ 0 ∧ ExF x mode v)
theorem mant_norm {k : Nat} (h : k < 9218868437227405312) (he : -1074 < expo k) (h0 : k ≠ 0) : 4503599627370496 ≤ mant k := by
  unfold expo at he
  unfold mant
  split at he
  · contradiction
  · split at he
    · omega
    · rw [if_neg (by assumption), if_pos h]; omega
end Go.Fb
namespace Go.Fb
open Go.Ev
inductive AddV (s : Bool) (k : Nat) (t : Bool) (j : Nat) (mode : Int) (v : Int × Int) : Prop
  | nan (h : 9218868437227405312 < k ∨ 9218868437227405312 < j) (e : v = (9221120237041090560, 0))
  | bad (h : k = 9218868437227405312 ∧ j = 9218868437227405312 ∧ s ≠ t) (e : v = (9221120237041090560, 16))
  | infa (h : k = 9218868437227405312 ∧ j ≤ 9218868437227405312 ∧ (j = 9218868437227405312 → s = t)) (e : v = (fl s 9218868437227405312, 0))
  | infb (h : k < 9218868437227405312 ∧ j = 9218868437227405312) (e : v = (fl t 9218868437227405312, 0))
  | fin (h : k < 9218868437227405312 ∧ j < 9218868437227405312) (w : AddW s t (fv s k + fv t j) mode v)
end Go.Fb
