/- Layer 7: plain laws of what the functions compute. Conditions: as each theorem states. -/
import Derived.Test.YtggmmkdfgjnjfaaSq
import Derived.Test.YtggmmkdfgjnjfaaCd
namespace Go.Fb
open Go.Ev
def TT : Nat := 1074
theorem tt_eq : TT = 1074 := rfl
theorem fvTT {s : Bool} {k : Nat} (h : k < 9218868437227405312) : fv s k = rq s (kvN k) (2 ^ TT) := by
  obtain ⟨T, hT, e⟩ := fvT
  have : T = TT := hT
  rw [e s k h, this]
/-- what lies ahead of the point, and behind it -/
def iP (k : Nat) : Nat := kvN k / 2 ^ TT
def fP (k : Nat) : Nat := kvN k % 2 ^ TT
def hP (k : Nat) : Bool := decide (kvN k / 2 ^ (TT - 1) % 2 = 1)
def mP (k : Nat) : Bool := decide (kvN k % 2 ^ (TT - 1) ≠ 0)
theorem kvN_pos {k : Nat} (h : k < 9218868437227405312) {E : Nat} (hE : (E : Int) = expo k) : kvN k = mant k * 2 ^ E * 2 ^ TT := by
  rw [kvN_mant h, show (expo k + 1074).toNat = E + TT by rw [tt_eq]; omega, Nat.pow_add, Nat.mul_assoc]
theorem kvN_neg {k : Nat} (h : k < 9218868437227405312) {n : Nat} (hn : expo k = -((n : Int) + 1)) : ∃ c, n + 1 + c = TT ∧ kvN k = mant k * 2 ^ c := by
  have e := @expo_rng k
  refine ⟨TT - (n + 1), by rw [tt_eq]; omega, ?_⟩
  rw [kvN_mant h]
  congr 2
  rw [tt_eq]
  omega
theorem parts_pos {k : Nat} (h : k < 9218868437227405312) (he : 0 ≤ expo k) : iP k = mant k * 2 ^ (expo k).toNat ∧ fP k = 0 ∧ hP k = false ∧ mP k = false := by
  have hv := kvN_pos h (E := (expo k).toNat) (by omega)
  have t1 : TT = (TT - 1) + 1 := by rw [tt_eq]
  have e2 : kvN k = mant k * 2 ^ (expo k).toNat * 2 * 2 ^ (TT - 1) := by
    rw [hv, Nat.mul_assoc _ 2, ← Nat.pow_succ', show (TT - 1).succ = TT from t1.symm]
  refine ⟨?_, ?_, ?_, ?_⟩
  · unfold iP; rw [hv, Nat.mul_div_cancel _ (Nat.two_pow_pos TT)]
  · unfold fP; rw [hv, Nat.mul_mod_left]
  · unfold hP; rw [e2, Nat.mul_div_cancel _ (Nat.two_pow_pos _), Nat.mul_mod_left]; rfl
  · unfold mP; rw [e2, Nat.mul_mod_left]; rfl
theorem parts_neg {k : Nat} (h : k < 9218868437227405312) {n : Nat} (hn : expo k = -((n : Int) + 1)) : iP k = mant k / 2 ^ (n + 1) ∧ hP k = decide (mant k / 2 ^ n % 2 = 1) ∧ mP k = decide (mant k % 2 ^ n ≠ 0) := by
  obtain ⟨c, hc, hv⟩ := kvN_neg h hn
  have pc := Nat.two_pow_pos c
  refine ⟨?_, ?_, ?_⟩
  · unfold iP
    rw [hv, ← hc, Nat.pow_add _ (n + 1) c, Nat.mul_div_mul_right _ _ pc]
  · unfold hP
    rw [hv, show TT - 1 = n + c by omega, Nat.pow_add, Nat.mul_div_mul_right _ _ pc]
  · unfold mP
    rw [hv, show TT - 1 = n + c by omega, Nat.pow_add, Nat.mul_mod_mul_right]
    apply decide_eq_decide.2
    constructor
    · intro g g2; rw [g2, Nat.zero_mul] at g; exact g rfl
    · intro g g2; rcases Nat.mul_eq_zero.1 g2 with g3 | g3
      · exact g g3
      · omega
theorem frac_iff (k : Nat) : fP k = 0 ↔ (hP k = false ∧ mP k = false) := by
  have t1 : TT = (TT - 1) + 1 := by rw [tt_eq]
  have h1 : fP k = 2 ^ (TT - 1) * (kvN k / 2 ^ (TT - 1) % 2) + kvN k % 2 ^ (TT - 1) := by
    unfold fP
    rw [t1, Nat.pow_succ, Nat.mod_mul, ← t1]; omega
  unfold hP mP
  have p := Nat.two_pow_pos (TT - 1)
  rw [h1]
  have b := Nat.mod_two_eq_zero_or_one (kvN k / 2 ^ (TT - 1))
  rcases b with b | b
  · rw [b]; simp
  · rw [b]; simp
theorem iP_small {k : Nat} (h : k < 9218868437227405312) (he : expo k < 0) : iP k < 9007199254740992 := by
  obtain ⟨n, hn⟩ : ∃ n : Nat, expo k = -((n : Int) + 1) := ⟨(-expo k - 1).toNat, by omega⟩
  rw [(parts_neg h hn).1]
  exact Nat.lt_of_le_of_lt (Nat.div_le_self _ _) (mant_lt k)
theorem u2_of {z : U2} (h : W2 z) (hl : n2 z < 18446744073709551616) : z = ⟨0, (n2 z : Int)⟩ := by
  obtain ⟨hi, lo⟩ := z
  obtain ⟨h1, h2⟩ := h
  unfold Wd at h1 h2
  unfold n2 at *
  dsimp only at *
  congr 1 <;> omega
theorem cut_spec {s : Bool} {k : Nat} (h : k < 9218868437227405312) : c_cut_s (fl s k) = true ∧
    (iP k < 18446744073709551616 → c_cut (fl s k) = (⟨0, (iP k : Int)⟩, hP k, mP k, true)) ∧ (18446744073709551616 ≤ iP k → ∃ z, c_cut (fl s k) = (z, false, false, false)) := by
  have m1 := mant_lt k
  have er := @expo_rng k
  have sp := split_spec (s := s) (k := k) (by omega)
  by_cases h1 : expo k > 64
  · have t : Tr.Is (c_cut_t (fl s k)) (⟨0, (mant k : Int)⟩, false, false, false) := by
      unfold c_cut_t c_cut_T
      rw [sp]
      exact Tr.is_br_t (dt h1) (Tr.is_leaf rfl)
    have e : c_cut (fl s k) = _ := t.1
    have hb : 18446744073709551616 ≤ iP k := by
      have k0 : k ≠ 0 := fun g => by rw [g] at h1; exact absurd h1 (by decide)
      have n1 := mant_norm h (by omega) k0
      rw [(parts_pos h (by omega)).1]
      have p := Nat.pow_le_pow_right (n := 2) (by decide) (show 64 ≤ (expo k).toNat by omega)
      rw [show (2 : Nat) ^ 64 = 18446744073709551616 from rfl] at p
      have := Nat.mul_le_mul n1 p
      omega
    exact ⟨t.2, fun g => by omega, fun _ => ⟨_, e⟩⟩
  · by_cases h2 : expo k ≥ 0
    · obtain ⟨E, hE⟩ := Int.eq_ofNat_of_zero_le h2
      obtain ⟨p1, p2, p3, p4⟩ := parts_pos h h2
      obtain ⟨s1, s2, s3⟩ := ushl_spec (a := ⟨0, (mant k : Int)⟩) (by unfold W2 Wd; dsimp only; omega) (n := E) (by omega)
      have pb : mant k * 2 ^ E < 340282366920938463463374607431768211456 := by
        have p := Nat.pow_le_pow_right (n := 2) (by decide) (show E ≤ 64 by omega)
        rw [show (2 : Nat) ^ 64 = 18446744073709551616 from rfl] at p
        have := Nat.mul_le_mul (Nat.le_of_lt m1) p
        omega
      rw [n2_lo, Nat.mod_eq_of_lt pb] at s3
      rw [hE, Int.toNat_natCast] at p1
      rw [← p1] at s3
      have t : Tr.Is (c_cut_t (fl s k)) (u2_Shl ⟨0, (mant k : Int)⟩ (E : Int), false, false, (u2_Shl ⟨0, (mant k : Int)⟩ (E : Int)).hi == 0) := by
        unfold c_cut_t c_cut_T
        rw [sp, hE]
        rw [hE] at h1 h2
        exact Tr.is_br_f (df h1) (Tr.is_br_t (dt h2) (Tr.is_ast s1 (Tr.is_leaf rfl)))
      have e : c_cut (fl s k) = _ := t.1
      refine ⟨t.2, fun g => ?_, fun g => ?_⟩
      · have ez := u2_of s2 (by rw [s3]; exact g)
        rw [e, ez, s3, p3, p4]; rfl
      · have : ((u2_Shl ⟨0, (mant k : Int)⟩ (E : Int)).hi == 0) = false := by
          refine bf fun g2 => ?_
          obtain ⟨q1, q2⟩ := s2
          unfold Wd at q1 q2
          unfold n2 at s3
          omega
        exact ⟨_, by rw [e, this]⟩
    · obtain ⟨n, hn⟩ : ∃ n : Nat, expo k = -((n : Int) + 1) := ⟨(-expo k - 1).toNat, by omega⟩
      obtain ⟨p1, p2, p3⟩ := parts_neg h hn
      have ew : IntKind.i64.wrap (IntKind.i64.wrap (0 - expo k) - 1) = (n : Int) := by rw [w64 (n := 0 - expo k) (by omega) (by omega), w64 (by omega) (by omega)]; omega
      obtain ⟨s1, s2, s3, s4⟩ := ushr_spec (a := ⟨0, (mant k : Int)⟩) (by unfold W2 Wd; dsimp only; omega) (n := n) (by omega)
      rw [n2_lo] at s3 s4
      obtain ⟨r1, r2, r3, r4⟩ := ushr_spec s2 (n := 1) (by omega)
      have r3' : n2 (u2_Shr (u2_Shr ⟨0, (mant k : Int)⟩ (n : Int)).1 1).1 = iP k := by
        rw [show (1 : Int) = ((1 : Nat) : Int) from rfl, r3, s3, p1, Nat.div_div_eq_div_mul, ← Nat.pow_add]
      have hs := iP_small h (by omega)
      have t : Tr.Is (c_cut_t (fl s k)) (⟨0, (iP k : Int)⟩, hP k, mP k, true) := by
        unfold c_cut_t c_cut_T
        rw [sp]
        dsimp only
        rw [ew]
        refine Tr.is_br_f (df h1) (Tr.is_br_f (df h2) (Tr.is_ast s1 (Tr.is_ast r1 (Tr.is_leaf ?_))))
        have ez := u2_of (show W2 (u2_Shr (u2_Shr ⟨0, (mant k : Int)⟩ (n : Int)).1 1).1 from r2) (by rw [r3']; omega)
        rw [r3'] at ez
        rw [ez, s4, lo_odd s2, s3, p2, p3]
      have e : c_cut (fl s k) = _ := t.1
      exact ⟨t.2, fun _ => e, fun g => by omega⟩
end Go.Fb
namespace Go.Fb
open Go.Ev
/-- a float as an integer of N bits -/
def toV (s : Bool) (k N : Nat) : Int × Int :=
  if 9218868437227405312 ≤ k then (0, 16) else if 2 ^ (N - 1) < iP k ∨ (iP k = 2 ^ (N - 1) ∧ s = false) then (0, 16) else (if s then -(iP k : Int) else iP k, if fP k = 0 then 0 else 1)
theorem wrap_neg {I : Nat} (h : I ≤ 9223372036854775808) : IntKind.i64.wrap (IntKind.u64.wrap (0 - (I : Int))) = -(I : Int) := by
  rw [u64w]
  simp only [IntKind.wrap, IntKind.bits, IntKind.signed]
  simp
  omega
theorem to_spec {s : Bool} {k : Nat} (hk : k < 9223372036854775808) {N : Nat} (h1 : 1 ≤ N) (h2 : N ≤ 64) : Tr.Is (c_to_t (fl s k) (N : Int)) (toV s k N) := by
  have cs := class_spec (s := s) hk
  have cc := cls_cases k
  have ws : IntKind.i64.wrap ((N : Int) - 1) = ((N - 1 : Nat) : Int) := by rw [w64 (by omega) (by omega)]; omega
  unfold c_to_t c_to_T toV
  rw [cs, ws, shr_sign hk]
  by_cases hf : k < 9218868437227405312
  · rw [if_neg (by omega)]
    have pw : 2 ^ (N - 1) ≤ 9223372036854775808 := by
      have := Nat.pow_le_pow_right (n := 2) (by decide) (show N - 1 ≤ 63 by omega)
      rwa [show (2 : Nat) ^ 63 = 9223372036854775808 from rfl] at this
    have sh : shlI IntKind.u64 1 ((N - 1 : Nat) : Int) = ((2 ^ (N - 1) : Nat) : Int) := by
      have := shl_nat 1 (N - 1) (by omega)
      rw [Nat.one_mul, Nat.mod_eq_of_lt (by omega)] at this
      exact this
    rw [sh]
    obtain ⟨u1, u2, u3⟩ := cut_spec (s := s) hf
    refine Tr.is_br_f (bf (by omega)) (Tr.is_br_f (bf (by omega)) (Tr.is_ast u1 (Tr.is_ast (dt (by omega)) ?_)))
    generalize 2 ^ (N - 1) = M at *
    by_cases hi : iP k < 18446744073709551616
    · rw [u2 hi]
      dsimp only
      refine Tr.is_br_f rfl ?_
      by_cases c1 : M < iP k
      · rw [if_pos (.inl c1)]
        exact Tr.is_br_t (dt (by omega)) (Tr.is_leaf rfl)
      · refine Tr.is_br_f (df (by omega)) ?_
        have fr := frac_iff k
        have rest : (iP k = M → s = true) → ∀ (b : Bool), b = s → Tr.Is (Tr.br (hP k) (Tr.br b (Tr.leaf (IntKind.i64.wrap (IntKind.u64.wrap (0 - (iP k : Int))), 1)) (Tr.leaf (IntKind.i64.wrap (iP k : Int), 1)))
            (Tr.br (mP k) (Tr.br b (Tr.leaf (IntKind.i64.wrap (IntKind.u64.wrap (0 - (iP k : Int))), 1)) (Tr.leaf (IntKind.i64.wrap (iP k : Int), 1)))
              (Tr.br b (Tr.leaf (IntKind.i64.wrap (IntKind.u64.wrap (0 - (iP k : Int))), 0)) (Tr.leaf (IntKind.i64.wrap (iP k : Int), 0))))) (if s then -(iP k : Int) else (iP k : Int), if fP k = 0 then (0 : Int) else 1) := by
          intro hs b hb
          subst hb
          rw [wrap_neg (by omega)]
          have ex : (if fP k = 0 then (0 : Int) else 1) = if (hP k || mP k) then 1 else 0 := by
            by_cases g : fP k = 0
            · rw [if_pos g, (fr.1 g).1, (fr.1 g).2]; rfl
            · rw [if_neg g]
              cases q1 : hP k with
              | true => rfl
              | false =>
                cases q2 : mP k with
                | true => rfl
                | false => exact absurd (fr.2 ⟨q1, q2⟩) g
          rw [ex]
          cases b with
          | true =>
            cases hP k
            · cases mP k <;> exact ⟨rfl, rfl⟩
            · exact ⟨rfl, rfl⟩
          | false =>
            have hlt : iP k < M := by
              rcases Nat.lt_or_ge (iP k) M with g | g
              · exact g
              · have := hs (by omega); contradiction
            rw [w64 (by omega) (by omega)]
            cases hP k
            · cases mP k <;> exact ⟨rfl, rfl⟩
            · exact ⟨rfl, rfl⟩
        by_cases c2 : iP k = M
        · refine Tr.is_br_t (bt (by omega)) ?_
          cases hs : s with
          | false =>
            rw [if_pos (.inr ⟨c2, rfl⟩)]
            exact Tr.is_br_t rfl (Tr.is_leaf rfl)
          | true =>
            rw [if_neg (by rintro (g | ⟨_, g⟩); omega; contradiction)]
            subst hs
            exact Tr.is_br_f rfl (rest (fun _ => rfl) true rfl)
        · rw [if_neg (by omega)]
          exact Tr.is_br_f (bf (by omega)) (rest (fun g => absurd g c2) s rfl)
    · obtain ⟨z, e⟩ := u3 (by omega)
      rw [e, if_pos (.inl (by omega))]
      exact Tr.is_br_t rfl (Tr.is_leaf rfl)
  · rw [if_pos (by omega)]
    by_cases c3 : cls k = 3
    · exact Tr.is_br_t (bt c3) (Tr.is_leaf rfl)
    · exact Tr.is_br_f (bf c3) (Tr.is_br_t (bt (by omega)) (Tr.is_leaf rfl))
end Go.Fb
