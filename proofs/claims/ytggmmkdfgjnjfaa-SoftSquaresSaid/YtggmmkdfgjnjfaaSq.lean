/- Layer 6: the laws hold, in plain Lean. Conditions: as each theorem states. -/
import Derived.Test.YtggmmkdfgjnjfaaPq
import Derived.Test.YtggmmkdfgjnjfaaSl
import Derived.Test.YtggmmkdfgjnjfaaSp
namespace Go.Fb
open Go.Ev
theorem works6 : l6_works = true ∧ l6_works_s = true := by decide +kernel
end Go.Fb
namespace Go.Fb
open Go.Ev
theorem pre6 {t : Tr Bool} (h : Tr.Is t true) : Tr.Is (.ast l6_works_s (.br (!l6_works) (.leaf false) t)) true :=
  Tr.is_ast works6.2 (Tr.is_br_f (by rw [works6.1]; rfl) h)
def IsF (x : Int) : Prop := ∃ s k, k ≤ 9218868437227405312 ∧ x = fl s k
theorem ExF.isF {x : Rat} {mode : Int} {v : Int × Int} (h : ExF x mode v) : IsF v.1 := by
  obtain ⟨K, a, b, _, rfl⟩ := h
  exact ⟨_, _, rans_le, rfl⟩
theorem IsF.wd {x : Int} (h : IsF x) : Wd x := by
  obtain ⟨s, k, hk, rfl⟩ := h
  exact fl_wd (by omega)
theorem AddV.wd {s t : Bool} {k j : Nat} {mode : Int} {v : Int × Int} (h : AddV s k t j mode v) : Wd v.1 := by
  cases h with
  | nan h e => rw [e]; unfold Wd; dsimp only; omega
  | bad h e => rw [e]; unfold Wd; dsimp only; omega
  | infa h e => rw [e]; exact fl_wd (by omega)
  | infb h e => rw [e]; exact fl_wd (by omega)
  | fin h w =>
    rcases w with ⟨_, e⟩ | ⟨_, e⟩
    · rw [e]; split <;> exact fl_wd (by omega)
    · exact e.isF.wd
end Go.Fb
namespace Go.Fb
open Go.Ev
theorem fvT : ∃ T, T = 1074 ∧ ∀ (s : Bool) (k : Nat), k < 9218868437227405312 → fv s k = rq s (kvN k) (2 ^ T) := ⟨1074, rfl, fun _ _ h => fv_eq h⟩
end Go.Fb
namespace Go.Fb
open Go.Ev
theorem AddW.unique {s t : Bool} {x : Rat} {mode : Int} {v w : Int × Int} (h : AddW s t x mode v) (g : AddW s t x mode w) : v = w := by
  rcases h with ⟨h1, h2⟩ | ⟨h1, h2⟩
  · rcases g with ⟨g1, g2⟩ | ⟨g1, g2⟩
    · rw [h2, g2]
    · exact absurd h1 g1
  · rcases g with ⟨g1, g2⟩ | ⟨g1, g2⟩
    · exact absurd g1 h1
    · exact h2.unique g2
theorem AddV.unique {s t : Bool} {k j : Nat} {mode : Int} {v w : Int × Int} (h : AddV s k t j mode v) (g : AddV s k t j mode w) : v = w := by
  cases h with
  | nan h e => cases g with
    | nan _ e' => rw [e, e']
    | bad g _ => omega
    | infa g _ => omega
    | infb g _ => omega
    | fin g _ => omega
  | bad h e => cases g with
    | nan g _ => omega
    | bad _ e' => rw [e, e']
    | infa g _ => exact absurd (g.2.2 h.2.1) h.2.2
    | infb g _ => omega
    | fin g _ => omega
  | infa h e => cases g with
    | nan g _ => omega
    | bad g _ => exact absurd (h.2.2 g.2.1) g.2.2
    | infa _ e' => rw [e, e']
    | infb g _ => omega
    | fin g _ => omega
  | infb h e => cases g with
    | nan g _ => omega
    | bad g _ => omega
    | infa g _ => omega
    | infb _ e' => rw [e, e']
    | fin g _ => omega
  | fin h w1 => cases g with
    | nan g _ => omega
    | bad g _ => omega
    | infa g _ => omega
    | infb g _ => omega
    | fin _ w2 => exact w1.unique w2
theorem AddW.symm {s t : Bool} {x : Rat} {mode : Int} {v : Int × Int} (h : AddW s t x mode v) : AddW t s x mode v := by
  rcases h with ⟨h1, h2⟩ | h
  · refine .inl ⟨h1, ?_⟩
    rw [h2]
    by_cases e : s = t
    · rw [if_pos e, if_pos e.symm, e]
    · rw [if_neg e, if_neg (fun g => e g.symm)]
  · exact .inr h
theorem AddV.symm {s t : Bool} {k j : Nat} {mode : Int} {v : Int × Int} (h : AddV s k t j mode v) : AddV t j s k mode v := by
  cases h with
  | nan h e => exact .nan (by omega) e
  | bad h e => exact .bad ⟨h.2.1, h.1, fun g => h.2.2 g.symm⟩ e
  | infa h e =>
    by_cases g : j = 9218868437227405312
    · exact .infa ⟨g, by omega, fun _ => (h.2.2 g).symm⟩ (by rw [e, h.2.2 g])
    · exact .infb ⟨by omega, h.1⟩ e
  | infb h e => exact .infa ⟨h.2, by omega, fun g => by omega⟩ e
  | fin h w => exact .fin ⟨h.2, h.1⟩ (by rw [Rat.add_comm]; exact w.symm)
theorem MulV.unique {s t : Bool} {k j : Nat} {mode : Int} {v w : Int × Int} (h : MulV s k t j mode v) (g : MulV s k t j mode w) : v = w := by
  cases h with
  | nan h e => cases g with
    | nan _ e' => rw [e, e']
    | bad g _ => omega
    | inf g _ => omega
    | zero g _ => omega
    | fin g _ => omega
  | bad h e => cases g with
    | nan g _ => omega
    | bad _ e' => rw [e, e']
    | inf g _ => omega
    | zero g _ => omega
    | fin g _ => omega
  | inf h e => cases g with
    | nan g _ => omega
    | bad g _ => omega
    | inf _ e' => rw [e, e']
    | zero g _ => omega
    | fin g _ => omega
  | zero h e => cases g with
    | nan g _ => omega
    | bad g _ => omega
    | inf g _ => omega
    | zero _ e' => rw [e, e']
    | fin g _ => omega
  | fin h e => cases g with
    | nan g _ => omega
    | bad g _ => omega
    | inf g _ => omega
    | zero g _ => omega
    | fin _ e' => exact e.unique e'
theorem bne_comm' (s t : Bool) : (s != t) = (t != s) := by cases s <;> cases t <;> rfl
theorem MulV.symm {s t : Bool} {k j : Nat} {mode : Int} {v : Int × Int} (h : MulV s k t j mode v) : MulV t j s k mode v := by
  cases h with
  | nan h e => exact .nan (by omega) e
  | bad h e => exact .bad (by omega) e
  | inf h e => exact .inf (by omega) (by rw [e, bne_comm'])
  | zero h e => exact .zero (by omega) (by rw [e, bne_comm'])
  | fin h e => exact .fin (by omega) (by rw [Rat.mul_comm]; exact e)
/-- the mode that turns up and down about -/
def otherM (mode : Int) : Int := if mode = 1 then 2 else if mode = 2 then 1 else mode
theorem way_other (neg : Bool) (mode : Int) : wayOf (!neg) (otherM mode) = wayOf neg mode := by
  unfold wayOf otherM
  by_cases h1 : mode = 1
  · subst h1; cases neg <;> rfl
  · by_cases h2 : mode = 2
    · subst h2; cases neg <;> rfl
    · simp [h1, h2]
theorem neg_lt {x : Rat} (h : x ≠ 0) : decide (-x < 0) = !decide (x < 0) := by
  by_cases g : x < 0
  · rw [dt g, df (show ¬ -x < 0 by grind)]; rfl
  · rw [df g, dt (show -x < 0 by grind)]; rfl
theorem xV_neg (S : Nat) (x : Rat) : xV S (-x) = xV S x := by
  unfold xV
  rw [Rat.neg_num, Rat.neg_den, Int.natAbs_neg]
theorem ExF.neg {x : Rat} {mode : Int} {v w : Int × Int} (h0 : x ≠ 0) (h : ExF x mode v) (g : ExF (-x) (otherM mode) w) : ∃ s k, k ≤ 9218868437227405312 ∧ v.1 = fl s k ∧ w.1 = fl (!s) k := by
  obtain ⟨K, a, b, s, rfl⟩ := h
  obtain ⟨J, c, d, t, rfl⟩ := g
  rw [xV_neg] at t ⊢
  obtain ⟨rfl, rfl, rfl⟩ := sit_inj s t
  refine ⟨_, _, rans_le, rfl, ?_⟩
  unfold rnd
  rw [neg_lt h0, way_other]
end Go.Fb
namespace Go.Fb
open Go.Ev
/-- a float that is no NaN, by its key with its sign -/
def RK (x z : Int) : Prop := ∃ q m, m ≤ 9218868437227405312 ∧ x = fl q m ∧ ky q m = z
theorem RK.rng {x z : Int} (h : RK x z) : -9218868437227405312 ≤ z ∧ z ≤ 9218868437227405312 := by
  obtain ⟨q, m, hm, _, rfl⟩ := h
  unfold ky; split <;> omega
theorem MulV.wd {s t : Bool} {k j : Nat} {mode : Int} {v : Int × Int} (h : MulV s k t j mode v) : Wd v.1 := by
  cases h with
  | nan h e => rw [e]; unfold Wd; dsimp only; omega
  | bad h e => rw [e]; unfold Wd; dsimp only; omega
  | inf h e => rw [e]; exact fl_wd (by omega)
  | zero h e => rw [e]; exact fl_wd (by omega)
  | fin h e => exact e.isF.wd
end Go.Fb
namespace Go.Fb
open Go.Ev
theorem RtOk.unique {m : Nat} {e : Int} {sh s sh' s' : Nat} {f f' : Int} {rest rest' : Bool} (a : RtOk m e sh s f rest) (b : RtOk m e sh' s' f' rest') : s = s' ∧ f = f' ∧ rest = rest' := by
  obtain ⟨L, l1, l2⟩ := a.len
  obtain ⟨L', l3, l4⟩ := b.len
  have := LenIs.unique l1 l3
  subst this
  have p1 := a.par
  have p2 := b.par
  have hsh : sh = sh' := by omega
  subst hsh
  have hs : s = s' := IsRt.unique ⟨a.lo, a.hi⟩ ⟨b.lo, b.hi⟩
  subst hs
  exact ⟨rfl, by omega, a.re.trans b.re.symm⟩
theorem kvN_mant {k : Nat} (h : k < 9218868437227405312) : kvN k = mant k * 2 ^ (expo k + 1074).toNat := by
  unfold kvN mant expo
  by_cases c : k < 4503599627370496
  · rw [if_pos c, if_pos c]
    by_cases k0 : k = 0
    · rw [if_pos k0, k0, Nat.zero_mul]
    · rw [if_neg k0, if_pos c]; simp
  · rw [if_neg c, if_neg c, if_pos h, if_neg (by omega), if_neg c, if_pos h]
    congr 2
    omega
/-- the key's place is c units, where it lies behind 2^62 units -/
theorem pos_mul {S g r J : Nat} (hr : 4611686018427387904 ≤ r) (h : r * 2 ^ g < pos S J) : ∃ c, pos S J = c * 2 ^ g ∧ r + 1 ≤ c := by
  have key : ∃ w n, kvN J = w * 2 ^ n ∧ w ≤ 9007199254740992 := by
    unfold kvN
    split
    · exact ⟨J, 0, by simp, by omega⟩
    · exact ⟨_, _, rfl, by omega⟩
  obtain ⟨w, n, h1, h2⟩ := key
  have e : pos S J = w * 2 ^ (n + S + 1) := by
    unfold pos
    rw [h1, Nat.pow_succ, Nat.pow_add]
    simp only [Nat.mul_comm, Nat.mul_left_comm]
  have hg : g ≤ n + S + 1 := by
    rcases Nat.lt_or_ge (n + S + 1) g with c | c
    · have h3 : w * 2 ^ (n + S + 1) ≤ r * 2 ^ g := Nat.mul_le_mul (by omega) (Nat.pow_le_pow_right (by decide) (by omega))
      omega
    · exact c
  refine ⟨w * 2 ^ (n + S + 1 - g), ?_, ?_⟩
  · rw [e, Nat.mul_assoc, ← Nat.pow_add]; congr 2; omega
  · rw [e, show n + S + 1 = (n + S + 1 - g) + g by omega, Nat.pow_add, ← Nat.mul_assoc] at h
    exact Nat.lt_of_mul_lt_mul_right h
theorem sq_scale {S a b T : Nat} (_hT : T = 1074) : (2 * a * 2 ^ S) * (2 * a * 2 ^ S) = a * a * 2 ^ (2 * S + 2) ∧ b * 2 ^ (2 * S + 2 + T) = b * 2 ^ T * 2 ^ (2 * S + 2) := by
  constructor
  · rw [show 2 * S + 2 = S + S + 2 by omega, Nat.pow_add, Nat.pow_add, show (2 : Nat) ^ 2 = 2 * 2 from rfl]
    simp only [Nat.mul_assoc, Nat.mul_comm, Nat.mul_left_comm]
  · rw [Nat.pow_add]
    simp only [Nat.mul_assoc, Nat.mul_comm]
theorem rt_exp {S k sh r : Nat} {f : Int} {rest : Bool} (hk : k < 9218868437227405312) (ok : RtOk (mant k) (expo k) sh r f rest) (hS : 3925 ≤ S) {T : Nat} (hT : T = 1074) {g : Nat} (hg : g = ((S : Int) + 1075 + f).toNat) :
    mant k * 2 ^ sh * 2 ^ (g + g) = kvN k * 2 ^ (2 * S + 2 + T) := by
  have e := @expo_rng k
  have p := ok.par
  have q := ok.rng
  rw [kvN_mant hk, Nat.mul_assoc, Nat.mul_assoc, ← Nat.pow_add, ← Nat.pow_add]
  congr 2
  omega
/-- a key that is not above a root: its square is not above the number -/
theorem root_sq {S k sh r J : Nat} {f : Int} {rest : Bool} (hk : k < 9218868437227405312) (ok : RtOk (mant k) (expo k) sh r f rest) (hS : 3925 ≤ S) {T : Nat} (hT : T = 1074) :
    (0 ≤ cut (xInt S r f rest) (pos S J) → kvN J * kvN J ≤ kvN k * 2 ^ T) ∧ (cut (xInt S r f rest) (pos S J) < 0 → kvN k * 2 ^ T < kvN J * kvN J) ∧ (cut (xInt S r f rest) (pos S J) = 0 → kvN J * kvN J = kvN k * 2 ^ T) := by
  obtain ⟨g, hg⟩ : ∃ g, g = ((S : Int) + 1075 + f).toNat := ⟨_, rfl⟩
  have hw := rt_exp hk ok hS hT hg
  obtain ⟨s1, s2⟩ := sq_scale (S := S) (a := kvN J) (b := kvN k) hT
  have p2 := Nat.two_pow_pos (2 * S + 2)
  have pg := Nat.two_pow_pos g
  rw [s2] at hw
  have epos : pos S J * pos S J = kvN J * kvN J * 2 ^ (2 * S + 2) := s1
  have er : r * 2 ^ g * (r * 2 ^ g) = r * r * 2 ^ (g + g) := by rw [Nat.pow_add]; simp only [Nat.mul_assoc, Nat.mul_comm, Nat.mul_left_comm]
  have low : pos S J ≤ r * 2 ^ g → kvN J * kvN J ≤ kvN k * 2 ^ T := fun h => by
    have h1 := Nat.mul_le_mul h h
    rw [epos, er] at h1
    have h2 := Nat.mul_le_mul_right (2 ^ (g + g)) ok.lo
    rw [hw] at h2
    exact Nat.le_of_mul_le_mul_right (Nat.le_trans h1 h2) p2
  have cuteq : cut (xInt S r f rest) (pos S J) = if r * 2 ^ g < pos S J then -1 else if pos S J < r * 2 ^ g then 1 else if rest then 1 else 0 := by
    unfold cut xInt
    dsimp only
    rw [Nat.one_mul, ← hg]
  rw [cuteq]
  refine ⟨fun h => ?_, fun h => ?_, fun h => ?_⟩
  · split at h
    · omega
    · exact low (by omega)
  · split at h
    · rename_i c
      obtain ⟨t, t1, t2⟩ := pos_mul ok.big c
      have h1 := Nat.mul_le_mul t2 t2
      have h2 : mant k * 2 ^ sh < t * t := Nat.lt_of_lt_of_le ok.hi h1
      have h3 := Nat.mul_lt_mul_of_pos_right h2 (Nat.two_pow_pos (g + g))
      have e3 : t * t * 2 ^ (g + g) = pos S J * pos S J := by rw [t1, Nat.pow_add]; simp only [Nat.mul_assoc, Nat.mul_comm, Nat.mul_left_comm]
      rw [e3, epos, hw] at h3
      exact Nat.lt_of_mul_lt_mul_right h3
    · split at h
      · omega
      · split at h <;> omega
  · split at h
    · omega
    · split at h
      · omega
      · split at h
        · omega
        · rename_i c1 c2 c3
          have e1 : pos S J = r * 2 ^ g := by omega
          have e2 := ok.re
          have e4 : ¬ r * r < mant k * 2 ^ sh := fun q => by rw [dt q] at e2; exact c3 e2
          have e5 : r * r = mant k * 2 ^ sh := by have := ok.lo; omega
          have e6 : pos S J * pos S J = mant k * 2 ^ sh * 2 ^ (g + g) := by rw [e1, er, e5]
          rw [epos, hw] at e6
          exact Nat.eq_of_mul_eq_mul_right p2 e6
theorem fv_sq {K k T : Nat} (hT : T = 1074) (hK : K < 9218868437227405312) (hk : k < 9218868437227405312) :
    (kvN K * kvN K ≤ kvN k * 2 ^ T → fv false K * fv false K ≤ fv false k) ∧ (kvN k * 2 ^ T < kvN K * kvN K → fv false k < fv false K * fv false K) := by
  obtain ⟨T', hT', e⟩ := fvT
  have : T' = T := by omega
  subst this
  have hx : fv false k = rq false (kvN k * 2 ^ T') (2 ^ T' * 2 ^ T') := by rw [e false k hk]; exact (rq_scale false (two_nz T')).symm
  have hy : fv false K * fv false K = rq false (kvN K * kvN K) (2 ^ T' * 2 ^ T') := by rw [e false K hK, rq_mul]; rfl
  have nz := Nat.mul_ne_zero (two_nz T') (two_nz T')
  rw [hx, hy]
  constructor
  · intro h
    refine Rat.not_lt.1 fun g => ?_
    rw [rq_lt nz] at g
    unfold sg at g
    simp only [Bool.false_eq_true, if_false] at g
    omega
  · intro h
    rw [rq_lt nz]
    unfold sg
    simp only [Bool.false_eq_true, if_false]
    omega
/-- a root lies far below the greatest float -/
theorem root_small {S k sh r J : Nat} {f : Int} {rest : Bool} (ok : RtOk (mant k) (expo k) sh r f rest) (hr : r < 18446744073709551616) (hS : 3925 ≤ S) (h : 0 ≤ cut (xInt S r f rest) (pos S J)) : J + 1 < 9218868437227405312 := by
  rcases Nat.lt_or_ge (J + 1) 9218868437227405312 with c | c
  · exact c
  · exfalso
    have e := @expo_rng k
    have p := ok.par
    have q := ok.rng
    have h2 : pos S J ≤ r * 2 ^ ((S : Int) + 1075 + f).toNat := by
      unfold cut xInt at h
      dsimp only at h
      rw [Nat.one_mul] at h
      split at h
      · omega
      · omega
    have h3 : 2 ^ (S + 1700) ≤ pos S J := by
      obtain ⟨N, hN⟩ : ∃ N, N = 1699 := ⟨_, rfl⟩
      have hj : 4503599627370496 * N + 4503599627370496 ≤ J := by omega
      have h4 := pos_mono (S := S) hj
      have h5 : pos S (4503599627370496 * N + 4503599627370496) = 2 ^ (1 + (52 + N) + S) := by
        unfold pos
        have hk := kv_of (n := N) (w := 4503599627370496) (by omega) (.inr (by omega))
        rw [hk, show (4503599627370496 : Nat) = 2 ^ 52 from rfl, Nat.pow_add, Nat.pow_add, Nat.pow_add, Nat.pow_one]
      rw [h5] at h4
      exact Nat.le_trans (Nat.pow_le_pow_right (by decide) (by omega)) h4
    have h6 : r * 2 ^ ((S : Int) + 1075 + f).toNat < 2 ^ 64 * 2 ^ ((S : Int) + 1075 + f).toNat := Nat.mul_lt_mul_of_pos_right hr (Nat.two_pow_pos _)
    rw [← Nat.pow_add] at h6
    have h7 : 2 ^ (64 + ((S : Int) + 1075 + f).toNat) ≤ 2 ^ (S + 1700) := Nat.pow_le_pow_right (by decide) (by omega)
    omega
end Go.Fb
namespace Go.Fb
open Go.Ev
theorem RtOk.lt {m : Nat} {e : Int} {sh s : Nat} {f : Int} {rest : Bool} (a : RtOk m e sh s f rest) : s < 18446744073709551616 := by
  obtain ⟨L, l1, l2⟩ := a.len
  have h1 := Nat.mul_lt_mul_of_pos_right l1.1 (Nat.two_pow_pos sh)
  rw [← Nat.pow_add] at h1
  have t := Nat.pow_le_pow_right (n := 2) (by decide) (show L + sh ≤ 127 by omega)
  rw [show (2 : Nat) ^ 127 = 170141183460469231731687303715884105728 from rfl] at t
  have h2 := a.lo
  rcases Nat.lt_or_ge s 18446744073709551616 with g | g
  · exact g
  · have := Nat.mul_le_mul g g
    omega
theorem rkey_rng (K : Nat) (h r : Bool) (way : Int) : K ≤ rkey K h r way ∧ rkey K h r way ≤ K + 1 := by
  rw [rkey_up]; split <;> omega
theorem rnd_fst {neg : Bool} {K : Nat} {h r sm : Bool} {mode : Int} (hK : K + 1 < 9218868437227405312) : (rnd neg K h r sm mode).1 = fl neg (rkey K h r (wayOf neg mode)) := by
  have := rkey_rng K h r (wayOf neg mode)
  unfold rnd rans
  rw [if_neg (by omega)]
/-- all three roots -/
theorem roots3 {k : Nat} (hk : k < 9218868437227405312) (k0 : k ≠ 0) : ∃ (sh r : Nat) (f : Int) (rest : Bool) (K : Nat) (a b : Bool), RtOk (mant k) (expo k) sh r f rest ∧ Sit 3925 (xInt 3925 r f rest) K a b ∧ K + 1 < 9218868437227405312 ∧
    ∀ mode, ∃ g, Tr.Is (s_Sqrt_t (fl false k) mode) (fl false (rkey K a b (wayOf false mode)), g) := by
  obtain ⟨v, p, _, w⟩ := sqrt_both (s := false) (k := k) (by omega) 2
  cases w with
  | nan h e => omega
  | zero h e => omega
  | bad h e => exact absurd h.2.2 (by decide)
  | inf h e => omega
  | fin h sh r f rest ok K a b st e =>
    have hK := root_small ok ok.lt (Nat.le_refl _) st.1
    refine ⟨sh, r, f, rest, K, a, b, ok, st, hK, fun mode => ?_⟩
    obtain ⟨v', p', _, w'⟩ := sqrt_both (s := false) (k := k) (by omega) mode
    cases w' with
    | nan h e => omega
    | zero h e => omega
    | bad h e => exact absurd h.2.2 (by decide)
    | inf h e => omega
    | fin h sh' r' f' rest' ok' K' a' b' st' e' =>
      obtain ⟨rfl, rfl, rfl⟩ := ok.unique ok'
      obtain ⟨rfl, rfl, rfl⟩ := sit_inj st st'
      refine ⟨v'.2, ?_⟩
      have : v' = (fl false (rkey K a b (wayOf false mode)), v'.2) := by
        have h1 := rnd_fst (neg := false) (h := a) (r := b) (sm := smOf 3925 (xInt 3925 r f rest)) (mode := mode) hK
        rw [← e'] at h1
        exact Prod.ext h1 rfl
      rw [← this]
      exact p'
theorem next_pos {K : Nat} (h : K < 9218868437227405312) : p_Next (fl false K) = fl false (K + 1) := by
  rw [next_spec (by omega)]
  unfold nextF
  rw [if_neg (by omega), if_neg (by simp; omega)]
  split
  · rename_i g; rw [g]
  · rfl
theorem cmpQ_le0 {x y : Rat} (h : x ≤ y) : decide (cmpQ x y ≤ 0) = true := by
  unfold cmpQ
  by_cases h1 : x < y
  · rw [if_pos h1]; rfl
  · rw [if_neg h1, if_pos (by grind)]; rfl
theorem cmpQ_ge0 {x y : Rat} (h : y ≤ x) : decide (cmpQ x y ≥ 0) = true := by
  unfold cmpQ
  rw [if_neg (Rat.not_lt.2 h)]
  split <;> rfl
theorem cmpQ_gt0 {x y : Rat} (h : y < x) : decide (cmpQ x y > 0) = true := by rw [cmpQ_gt h]; rfl
theorem SoftSquares_both {a : Int} (ha : Wd a) : l_SoftSquares a = true ∧ l_SoftSquares_s a = true := by
  obtain ⟨s, k, hk, rfl⟩ := fl_of ha
  suffices h : Tr.Is (l_SoftSquares_t (fl s k)) true from h
  refine pre6 ?_
  by_cases hf : k < 9218868437227405312
  case neg =>
    obtain ⟨v1, v2⟩ := value_none (s := s) hk (by omega)
    exact Tr.is_ast v1 (Tr.is_br_t (by rw [v2]; rfl) (Tr.is_leaf works6.1))
  obtain ⟨v1, x, v2, v3⟩ := value_spec (s := s) hf
  obtain ⟨g1, g2⟩ := qsign_spec v3.RW (by omega) (by omega)
  rw [v3.val] at g2
  by_cases hp : fv s k ≤ 0
  · exact Tr.is_ast v1 (Tr.is_br_f (by rw [v2]; rfl) (Tr.is_ast (by rw [v2]; exact g1) (Tr.is_br_t (by rw [v2]; show decide (q_Sign x ≤ 0) = true; rw [g2]; exact cmpQ_le0 hp) (Tr.is_leaf works6.1))))
  have k0 : k ≠ 0 := fun g => hp (by rw [g, fv_zero]; exact Rat.le_refl)
  have hs : s = false := by
    have := (fv_nz (s := s) hf k0).2.2.1
    rw [df (fun g => hp (Rat.le_of_lt g))] at this
    exact this.symm
  subst hs
  have hpos : decide (q_Sign x ≤ 0) = false := by
    rw [g2, cmpQ_gt (Rat.not_le.1 hp)]; rfl
  obtain ⟨sh, r, f, rest, K, h, q, ok, st, hK, roots⟩ := roots3 hf k0
  obtain ⟨gd, pd⟩ := roots 2
  obtain ⟨gu, pu⟩ := roots 1
  obtain ⟨gn, pn⟩ := roots 0
  have ed : rkey K h q (wayOf false 2) = K := rfl
  rw [ed] at pd
  obtain ⟨U, hU⟩ : ∃ U, U = rkey K h q (wayOf false 1) := ⟨_, rfl⟩
  obtain ⟨N, hN⟩ : ∃ N, N = rkey K h q (wayOf false 0) := ⟨_, rfl⟩
  rw [← hU] at pu
  rw [← hN] at pn
  have rU := rkey_rng K h q (wayOf false 1)
  rw [← hU] at rU
  have eU : U = if h || q then K + 1 else K := hU
  have eN : N = if h && (q || decide (K % 2 = 1)) then K + 1 else K := hN
  have hNU : N = K ∨ N = U := by
    rw [eN, eU]
    cases h <;> cases q <;> simp <;> omega
  have e2 : s_Sqrt (fl false k) 2 = (fl false K, gd) := pd.1
  have e1 : s_Sqrt (fl false k) 1 = (fl false U, gu) := pu.1
  have e0 : s_Sqrt (fl false k) 0 = (fl false N, gn) := pn.1
  have rs := fun J => root_sq (S := 3925) (J := J) hf ok (Nat.le_refl _) (T := 1074) rfl
  have sqd := (fv_sq (T := 1074) rfl (show K < 9218868437227405312 by omega) hf).1 ((rs K).1 st.1)
  have sqn := (fv_sq (T := 1074) rfl (show K + 1 < 9218868437227405312 by omega) hf).2 ((rs (K + 1)).2.1 st.2.1)
  have squ : fv false k ≤ fv false U * fv false U := by
    cases hh : h || q with
    | true => rw [hh, if_pos rfl] at eU; rw [eU]; exact Rat.le_of_lt sqn
    | false =>
      rw [hh, if_neg (by decide)] at eU
      have ex := sit_exact st (show 0 < (xInt 3925 r f rest).Q from Nat.one_pos)
      rw [hh] at ex
      have z : cut (xInt 3925 r f rest) (pos 3925 K) = 0 := by simpa using ex
      have e3 := (rs K).2.2 z
      refine Rat.not_lt.1 fun g => ?_
      obtain ⟨T', hT', e⟩ := fvT
      rw [eU, e false K (by omega), e false k hf, rq_mul, ← rq_scale false (two_nz T') (n := kvN k)] at g
      rw [show (false != false) = false from rfl, rq_lt (Nat.mul_ne_zero (two_nz _) (two_nz _))] at g
      unfold sg at g
      simp only [Bool.false_eq_true, if_false] at g
      rw [← hT'] at e3
      omega
  obtain ⟨a1, y, a2, a3⟩ := value_spec (s := false) (show K < 9218868437227405312 by omega)
  obtain ⟨b1, z, b2, b3⟩ := value_spec (s := false) (show U < 9218868437227405312 by omega)
  obtain ⟨c1, w, c2, c3⟩ := value_spec (s := false) hK
  have en := next_pos (K := K) (by omega)
  obtain ⟨m1, m2⟩ := qmul_spec a3.RW a3.RW (by omega) (by omega)
  obtain ⟨m3, m4⟩ := qmul_spec b3.RW b3.RW (by omega) (by omega)
  obtain ⟨m5, m6⟩ := qmul_spec c3.RW c3.RW (by omega) (by omega)
  rw [a3.val] at m2
  rw [b3.val] at m4
  rw [c3.val] at m6
  have vx := (v3.le (show 300 ≤ 2 * 300 by omega))
  obtain ⟨d1, d2⟩ := qcmp_spec m2.RW vx.RW (by omega) (by omega)
  obtain ⟨d3, d4⟩ := qcmp_spec m4.RW vx.RW (by omega) (by omega)
  obtain ⟨d5, d6⟩ := qcmp_spec m6.RW vx.RW (by omega) (by omega)
  rw [m2.val, vx.val] at d2
  rw [m4.val, vx.val] at d4
  rw [m6.val, vx.val] at d6
  refine Tr.is_ast v1 (Tr.is_br_f (by rw [v2]; rfl) (Tr.is_ast (by rw [v2]; exact g1) (Tr.is_br_f (by rw [v2]; exact hpos) (Tr.is_ast pd.2 (Tr.is_ast pu.2 (Tr.is_ast pn.2 ?_))))))
  rw [e2, e1, e0, v2]
  dsimp only
  rw [en, a2, b2, c2]
  dsimp only
  refine Tr.is_ast a1 (Tr.is_ast b1 (Tr.is_ast c1 (Tr.is_br_t works6.1 (Tr.is_ast m1 (Tr.is_ast d1 (Tr.is_br_t (by rw [d2]; exact cmpQ_le0 sqd) (Tr.is_ast m3 (Tr.is_ast d3 (Tr.is_br_t (by rw [d4]; exact cmpQ_ge0 squ) (Tr.is_ast m5 (Tr.is_ast d5 (Tr.is_br_t (by rw [d6]; exact cmpQ_gt0 sqn) ?_))))))))))))
  have last : Tr.Is (Tr.br (fl false K == fl false U) (Tr.leaf true) (Tr.leaf (fl false (K + 1) == fl false U))) true := by
    by_cases c : K = U
    · exact Tr.is_br_t (bt (by rw [c])) (Tr.is_leaf rfl)
    · have : U = K + 1 := by omega
      refine Tr.is_br_f ?_ (Tr.is_leaf (bt (by rw [this])))
      rw [fl_eq (by omega) (by omega), df c, Bool.and_false]
  by_cases c : N = K
  · exact Tr.is_br_t (bt (by rw [c])) last
  · have : N = U := by omega
    exact Tr.is_br_f (by rw [fl_eq (by omega) (by omega), df c, Bool.and_false]) (Tr.is_br_t (bt (by rw [this])) last)
end Go.Fb
