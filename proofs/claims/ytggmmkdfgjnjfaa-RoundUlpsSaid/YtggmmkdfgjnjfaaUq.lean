/- Layer 5: the laws hold, in plain Lean. Conditions: as each theorem states. -/
import Derived.Test.YtggmmkdfgjnjfaaUl
import Derived.Test.YtggmmkdfgjnjfaaUp
namespace Go.Fb
open Go.Ev
theorem works5 : l5_works = true ∧ l5_works_s = true := by decide +kernel
end Go.Fb
namespace Go.Fb
open Go.Ev
theorem pre5 {t : Tr Bool} (h : Tr.Is t true) : Tr.Is (.ast l5_works_s (.br (!l5_works) (.leaf false) t)) true :=
  Tr.is_ast works5.2 (Tr.is_br_f (by rw [works5.1]; rfl) h)
theorem RoundRounds_both {neg : Bool} {m : U2} (hm : W2 m) {e : Int} {rest : Bool} {mode : Int} : l_RoundRounds neg m e rest mode = true ∧ l_RoundRounds_s neg m e rest mode = true := by
  suffices h : Tr.Is (l_RoundRounds_t neg m e rest mode) true from h
  obtain ⟨o1, o2, o3⟩ := of2_spec hm.2 hm.1
  have hv : bv (r1_Of2 (m.lo, m.hi)) = n2 m := by
    rw [o3]; unfold n2
    have h1 := hm.1
    have h2 := hm.2
    unfold Wd at h1 h2
    omega
  obtain ⟨a1, a2, a3⟩ := round_both hm (by omega) hv neg e rest mode
  refine pre5 (Tr.is_ast a1 (Tr.is_ast o1 (Tr.is_ast a2 (Tr.is_br_t works5.1 ?_))))
  rw [a3]
  exact Tr.is_br_t (bt rfl) (Tr.is_leaf (bt rfl))
def xV (S : Nat) (x : Rat) : Xn := xQ S x.num.natAbs x.den
theorem xV_rq {s : Bool} {N D : Nat} (hN : N ≠ 0) (hD : D ≠ 0) (S y : Nat) : cut (xV S (rq s N D)) y = cut (xQ S N D) y := by
  unfold xV
  rw [rq_num hD, rq_den hD]
  have hg : 0 < Nat.gcd N D := Nat.gcd_pos_of_pos_left _ (by omega)
  have e1 := Nat.div_mul_cancel (Nat.gcd_dvd_left N D)
  have e2 := Nat.div_mul_cancel (Nat.gcd_dvd_right N D)
  have := xQ_scale (S := S) (N := N / Nat.gcd N D) (D := D / Nat.gcd N D) hg y
  rw [e1, e2] at this
  exact this.symm
theorem smOf_congr {S : Nat} {X Y : Xn} (h : ∀ y, cut X y = cut Y y) : smOf S X = smOf S Y := by unfold smOf; rw [h]
theorem val_nz {r : RR} (h : val r ≠ 0) : wv r.num ≠ 0 ∧ wv r.den ≠ 0 := by
  unfold val at h
  constructor
  · intro g; rw [g, rq_zero_num] at h; exact h rfl
  · intro g; rw [g, rq_zero_den] at h; exact h rfl
theorem val_z {r : RR} (h : val r = 0) : wv r.num = 0 ∨ wv r.den = 0 := by
  rcases Nat.eq_zero_or_pos (wv r.den) with g | g
  · exact .inr g
  · left
    unfold val rq at h
    have := (Rat.mkRat_eq_zero (by omega)).1 h
    unfold sg at this
    split at this <;> omega
theorem exact_zero {r : RR} {k : Nat} (h : RW r k) (hk : k ≤ 1000) (h0 : val r = 0) (mode : Int) : Tr.Is (n_Frac_t r.neg r.num r.den mode) (0, 0) :=
  frac_zero h.1 h.2.1 (Nat.le_trans h.2.2.1 hk) (Nat.le_trans h.2.2.2 hk) (val_z h0) _ _
theorem exact_val {r : RR} {k : Nat} (h : RW r k) (hk : k ≤ 1000) (h0 : val r ≠ 0) {E : Nat} (hE : E ≤ 4900) (hn : wv r.num < 2 ^ E) (hd : wv r.den < 2 ^ E) (mode : Int) {S : Nat} (hS : 3925 ≤ S) :
    ∃ K a b, Sit S (xV S (val r)) K a b ∧ Tr.Is (n_Frac_t r.neg r.num r.den mode) (rnd (decide (val r < 0)) K a b (smOf S (xV S (val r))) mode) := by
  obtain ⟨z1, z2⟩ := val_nz h0
  obtain ⟨K, a, b, s, t⟩ := frac_is h.1 h.2.1 (Nat.le_trans h.2.2.1 hk) (Nat.le_trans h.2.2.2 hk) z1 z2 hE hn hd r.neg mode hS
  have c : ∀ y, cut (xQ S (wv r.num) (wv r.den)) y = cut (xV S (val r)) y := fun y => (xV_rq z1 z2 S y).symm
  refine ⟨K, a, b, sit_congr c s, ?_⟩
  have en : r.neg = decide (val r < 0) := rq_neg z1 z2
  rw [smOf_congr c] at t
  rw [← en]
  exact t
theorem rexact_zero {q : RQ} {x : Rat} {k : Nat} (h : QIs q x k) (hk : k ≤ 20000) (h0 : x = 0) (mode : Int) : Tr.Is (r5_Exact_t q mode) (0, 0) := by
  obtain ⟨s1, s2⟩ := rsign_spec h (by omega)
  rw [cmpQ_eq h0] at s2
  exact Tr.is_ast s1 (Tr.is_br_t (by rw [s2]; rfl) (Tr.is_leaf rfl))
theorem rexact_is {q : RQ} {x : Rat} {k : Nat} (h : QIs q x k) (hk : k ≤ 20000) (h0 : x ≠ 0) (mode : Int) {S : Nat} (hS : 3925 ≤ S) {K : Nat} {a b : Bool} (hs : Sit S (xV S x) K a b) :
    Tr.Is (r5_Exact_t q mode) (rnd (decide (x < 0)) K a b (smOf S (xV S x)) mode) := by
  obtain ⟨s1, s2⟩ := rsign_spec h (by omega)
  obtain ⟨h1, h2, h3, h4, h5, h6, h7⟩ := h
  have eX : xOf S ⟨q.num, q.den, 0, false⟩ = xV S x := by
    unfold xOf xV xQ
    dsimp only
    rw [h1, h3, show ((S : Int) + 1075 + 0).toNat = S + 1075 by omega]
  have m := signed_is (x := ⟨q.num, q.den, 0, false⟩) (A := x.num.natAbs) (B := x.den) ⟨h1, h3, Nat.le_trans h6 hk, Nat.le_trans h7 hk, (by decide : (-5000 : Int) ≤ 0), (by decide : (0 : Int) ≤ 5000)⟩ (Nat.pos_of_ne_zero x.den_nz) hS (by rw [eX]; exact hs) q.neg mode
  rw [eX, h5] at m
  have hne : (r3_Sign q == 0) = false := by
    rw [s2]
    unfold cmpQ
    split <;> rfl
  refine Tr.is_ast s1 (Tr.is_br_f hne ?_)
  rw [h5]
  exact Tr.is_ast m.2 (Tr.is_leaf m.1)
theorem guard6 {l : List Int} {t : Tr Bool} (h : l.length ≤ 6 → Tr.Is t true) : Tr.Is (.br (decide ((l.length : Int) > 6)) (.leaf l5_works) t) true := by
  by_cases c : (l.length : Int) > 6
  · exact Tr.is_br_t (dt c) (Tr.is_leaf works5.1)
  · exact Tr.is_br_f (df c) (h (by omega))
theorem exact_tree {r : RR} {mode : Int} {v : Int × Int} (h : Tr.Is (n_Frac_t r.neg r.num r.den mode) v) : Tr.Is (n_Exact_t r mode) v := Tr.is_ast h.2 (Tr.is_leaf h.1)
theorem RoundExacts_both {r : RR} (hn : Wds r.num) (hd : Wds r.den) {mode : Int} : l_RoundExacts r mode = true ∧ l_RoundExacts_s r mode = true := by
  suffices h : Tr.Is (l_RoundExacts_t r mode) true from h
  refine pre5 (guard6 fun ln => guard6 fun ld => ?_)
  have hw : RW r 6 := ⟨hn, hd, ln, ld⟩
  obtain ⟨o1, o2⟩ := of_spec3 hw (by omega) (by omega)
  have o1 : l5_of_s r = true := o1
  have o2 : QIs (l5_of r) (val r) (32 * 6) := o2
  have key : ∃ v, Tr.Is (n_Frac_t r.neg r.num r.den mode) v ∧ Tr.Is (r5_Exact_t (l5_of r) mode) v := by
    by_cases h0 : val r = 0
    · exact ⟨_, exact_zero hw (by omega) h0 mode, rexact_zero o2 (by omega) h0 mode⟩
    · obtain ⟨K, a, b, s, t⟩ := exact_val hw (by omega) h0 (E := 32 * 6) (by omega) (wv_lt2 hn ln) (wv_lt2 hd ld) mode (S := 3925) (Nat.le_refl _)
      exact ⟨_, t, rexact_is o2 (by omega) h0 mode (Nat.le_refl _) s⟩
  obtain ⟨v, t1, t2⟩ := key
  have t3 := exact_tree t1
  have e1 : n_Exact r mode = v := t3.1
  have e2 : r5_Exact (l5_of r) mode = v := t2.1
  have e3 : n_Frac r.neg r.num r.den mode = v := t1.1
  refine Tr.is_ast t3.2 (Tr.is_ast o1 (Tr.is_ast t2.2 (Tr.is_ast t1.2 (Tr.is_br_t works5.1 ?_))))
  rw [e1, e2, e3]
  exact Tr.is_br_t (bt rfl) (Tr.is_br_t (bt rfl) (Tr.is_br_t (bt rfl) (Tr.is_leaf (bt rfl))))
theorem sit_self {S : Nat} {X : Xn} {k : Nat} (hq : 0 < X.Q) (hp : X.P = X.Q * pos S k) (hr : X.rho = false) : Sit S X k false false := by
  have lt : ∀ y, pos S k < y → cut X y < 0 := fun y hy => by
    have := Nat.mul_lt_mul_of_pos_left hy hq
    unfold cut
    rw [if_pos (by omega)]
    decide
  have e0 : cut X (pos S k) = 0 := by
    unfold cut
    rw [if_neg (by omega), if_neg (by omega), hr]
    rfl
  have p0 : 0 < 2 ^ S := Nat.two_pow_pos S
  refine ⟨by omega, lt _ ?_, ?_, ?_⟩
  · unfold pos
    have := kvN_step k
    exact Nat.mul_lt_mul_of_pos_right (by omega) p0
  · have := lt _ (pos_lt_mid S k)
    exact (decide_eq_false (by omega)).symm
  · rw [e0]; rfl
theorem rnd_self {neg : Bool} {k : Nat} (hk : k < 9218868437227405312) (sm : Bool) (mode : Int) : rnd neg k false false sm mode = (fl neg k, 0) := by
  unfold rnd
  have hu : upOf (decide (k % 2 = 1)) false false (wayOf neg mode) = false := by unfold upOf; split; rfl; split <;> rfl
  rw [rans_under (J := k) (by rw [hu]; rfl) hk]
  rfl
theorem pos_xQ {S T k : Nat} (hT : T = 1074) : (xQ S (kvN k) (2 ^ T)).P = (xQ S (kvN k) (2 ^ T)).Q * pos S k := by
  unfold xQ pos
  dsimp only
  rw [show S + 1075 = T + S + 1 by omega, Nat.pow_succ, Nat.pow_add]
  simp only [Nat.mul_assoc, Nat.mul_comm, Nat.mul_left_comm]
theorem xQ_pos (S N T : Nat) : 0 < (xQ S N (2 ^ T)).Q := Nat.two_pow_pos T
theorem fv_nz {s : Bool} {k : Nat} (h : k < 9218868437227405312) (h0 : k ≠ 0) : kvN k ≠ 0 ∧ fv s k ≠ 0 ∧ decide (fv s k < 0) = s ∧ ∀ S, Sit S (xV S (fv s k)) k false false := by
  have hk : kvN k ≠ 0 := by have := kvN_mono (show 0 < k by omega); omega
  have hp : (2 : Nat) ^ 1074 ≠ 0 := Nat.ne_of_gt (Nat.two_pow_pos 1074)
  refine ⟨hk, ?_, ?_, ?_⟩
  · rw [fv_eq h]
    intro g
    unfold rq at g
    have := (Rat.mkRat_eq_zero hp).1 g
    unfold sg at this
    split at this <;> omega
  · rw [fv_eq h]
    exact (rq_neg hk hp).symm
  · intro S
    rw [fv_eq h]
    exact sit_congr (fun y => (xV_rq hk hp S y).symm) (sit_self (xQ_pos S (kvN k) 1074) (pos_xQ (T := 1074) rfl) rfl)
end Go.Fb
namespace Go.Fb
open Go.Ev
theorem pow_key {n : Nat} (hn : n ≤ 2045) : ∃ k, k ≠ 0 ∧ k < 9218868437227405312 ∧ kvN k = 2 ^ n := by
  by_cases c : n ≤ 52
  · have h1 := Nat.pow_le_pow_right (n := 2) (by decide) c
    rw [show (2 : Nat) ^ 52 = 4503599627370496 from rfl] at h1
    have h0 := Nat.two_pow_pos n
    refine ⟨2 ^ n, by omega, by omega, ?_⟩
    have := kv_of (n := 0) (w := 2 ^ n) (by omega) (.inl rfl)
    rw [Nat.mul_zero, Nat.zero_add, Nat.pow_zero, Nat.mul_one] at this
    exact this
  · refine ⟨4503599627370496 * (n - 52) + 4503599627370496, by omega, by omega, ?_⟩
    rw [kv_of (by omega) (.inr (by omega)), show (4503599627370496 : Nat) = 2 ^ 52 from rfl, ← Nat.pow_add]
    congr 1; omega
theorem round_one {e : Int} (h1 : -1074 ≤ e) (h2 : e ≤ 971) : ∃ k, k ≠ 0 ∧ k < 9218868437227405312 ∧ kvN k = 2 ^ (e + 1074).toNat ∧ ∀ mode, Tr.Is (n_Round_t false ⟨0, 1⟩ e false mode) (fl false k, 0) := by
  obtain ⟨k, k0, k1, k2⟩ := pow_key (n := (e + 1074).toNat) (by omega)
  refine ⟨k, k0, k1, k2, fun mode => ?_⟩
  have hm : W2 ⟨0, 1⟩ := by unfold W2 Wd; dsimp only; omega
  have hn : n2 ⟨0, 1⟩ = 1 := rfl
  have hin := xInt_in 3925 1 (clampE e) (false && decide (9007199254740992 ≤ 1))
  obtain ⟨K, a, b, s, t⟩ := nround_is hm (by rw [hn]; decide) false e false mode (S := 3925) (X := xInt 3925 1 (clampE e) (false && decide (9007199254740992 ≤ 1))) (Nat.le_refl _) hin
  have s2 : Sit 3925 (xInt 3925 1 (clampE e) (false && decide (9007199254740992 ≤ 1))) k false false := by
    refine sit_self Nat.one_pos ?_ rfl
    generalize (3925 : Nat) = S
    unfold xInt pos
    dsimp only
    rw [clamp_in (by omega) (by omega), k2, show ((S : Int) + 1075 + e).toNat = (e + 1074).toNat + S + 1 by omega, Nat.pow_succ, Nat.pow_add]
    simp only [Nat.one_mul, Nat.mul_comm, Nat.mul_left_comm]
  obtain ⟨i1, i2, i3⟩ := sit_inj s s2
  subst i1; subst i2; subst i3
  rw [rnd_self k1] at t
  exact t
theorem ulp_spec {s : Bool} {k : Nat} (hk : k < 9223372036854775808) :
    (9218868437227405312 ≤ k → Tr.Is (n_Ulp_t (fl s k)) p_Quiet) ∧ (k = 0 → Tr.Is (n_Ulp_t (fl s k)) (fl false 1)) ∧
    (k ≠ 0 → k < 9218868437227405312 → ∃ j, j ≠ 0 ∧ j < 9218868437227405312 ∧ kvN j = 2 ^ (expo k + 1074).toNat ∧ Tr.Is (n_Ulp_t (fl s k)) (fl false j)) := by
  have c := class_spec (s := s) hk
  have sp := split_spec (s := s) hk
  have cc := cls_cases k
  refine ⟨fun h => ?_, fun h => ?_, fun h0 h => ?_⟩
  · unfold n_Ulp_t n_Ulp_T
    rw [c]
    exact Tr.is_br_f (bf (by omega)) (Tr.is_br_f (bf (by omega)) (Tr.is_br_f (bf (by omega)) (Tr.is_leaf rfl)))
  · obtain ⟨j, j0, j1, j2, j3⟩ := round_one (e := -1074) (by omega) (by omega)
    have : j = 1 := kvN_inj (j2.trans rfl)
    subst this
    unfold n_Ulp_t n_Ulp_T
    rw [c]
    exact Tr.is_br_t (bt (by omega)) (Tr.is_ast (j3 0).2 (Tr.is_leaf (congrArg Prod.fst (j3 0).1)))
  · obtain ⟨j, j0, j1, j2, j3⟩ := round_one (e := expo k) (@expo_rng k).1 (@expo_rng k).2
    refine ⟨j, j0, j1, j2, ?_⟩
    unfold n_Ulp_t n_Ulp_T
    rw [c, sp]
    refine Tr.is_br_f (bf (by omega)) ?_
    by_cases h1 : cls k = 1
    · exact Tr.is_br_t (bt h1) (Tr.is_ast (j3 0).2 (Tr.is_leaf (congrArg Prod.fst (j3 0).1)))
    · exact Tr.is_br_f (bf h1) (Tr.is_br_t (bt (by omega)) (Tr.is_ast (j3 0).2 (Tr.is_leaf (congrArg Prod.fst (j3 0).1))))
theorem mant_zero {k : Nat} (h : k < 9218868437227405312) : (mant k = 0) ↔ k = 0 := by unfold mant; split <;> (try split) <;> omega
theorem RoundUlps_both {f : Int} (hf : Wd f) : l_RoundUlps f = true ∧ l_RoundUlps_s f = true := by
  obtain ⟨s, k, hk, rfl⟩ := fl_of hf
  suffices h : Tr.Is (l_RoundUlps_t (fl s k)) true from h
  obtain ⟨u1, u2, u3⟩ := ulp_spec (s := s) hk
  have sp := rsplit_spec (s := s) hk
  have fi := finite_spec (s := s) hk
  by_cases h : k < 9218868437227405312
  · rw [dt h] at fi
    by_cases h0 : k = 0
    · have u := u2 h0
      have e : n_Ulp (fl s k) = fl false 1 := u.1
      refine pre5 (Tr.is_ast u.2 (Tr.is_br_f (by rw [fi]; rfl) (Tr.is_br_t (by rw [sp]; exact bt (by have := (mant_zero h).2 h0; omega)) (Tr.is_br_t works5.1 (Tr.is_leaf ?_)))))
      rw [e]; rfl
    · obtain ⟨j, j0, j1, j2, u⟩ := u3 h0 h
      have e : n_Ulp (fl s k) = fl false j := u.1
      obtain ⟨v1, r, v2, v3⟩ := value_spec (s := false) j1
      have er := @expo_rng k
      obtain ⟨d1, q, d2, d3⟩ := dyad_spec (neg := false) (m := 1) (by omega) (e := expo k) (by omega) (by omega)
      obtain ⟨c1, c2⟩ := qcmp_spec v3.RW d3.RW (by omega) (by omega)
      rw [v3.val, d3.val, cmpQ_eq (by rw [fv_eq j1, dy_scaled false 1 er.1, j2, Nat.one_mul])] at c2
      refine pre5 (Tr.is_ast u.2 (Tr.is_br_f (by rw [fi]; rfl) (Tr.is_br_f (by rw [sp]; exact bf (fun g => h0 ((mant_zero h).1 (by dsimp only at g; omega)))) (Tr.is_ast (by rw [e]; exact v1) (Tr.is_ast (by rw [sp]; exact d1) (Tr.is_br_t works5.1 (Tr.is_ast ?_ (Tr.is_leaf ?_))))))))
      · rw [e, sp, v2]; show q_Cmp_s r (q_Dyad false 1 (expo k)).fst = true; rw [show (1 : Int) = ((1 : Nat) : Int) from rfl, d2]; exact c1
      · rw [e, sp, v2]; show (q_Cmp r (q_Dyad false 1 (expo k)).fst == 0) = true; rw [show (1 : Int) = ((1 : Nat) : Int) from rfl, d2]; show (q_Cmp r q == 0) = true; rw [c2]; rfl
  · rw [df h] at fi
    have u := u1 (by omega)
    have e : n_Ulp (fl s k) = p_Quiet := u.1
    refine pre5 (Tr.is_ast u.2 (Tr.is_br_t (by rw [fi]; rfl) (Tr.is_br_t works5.1 (Tr.is_leaf ?_))))
    rw [e]; exact bt rfl
theorem kvN_lt2 {k E : Nat} (h : k < 9218868437227405312) (hE : 2099 ≤ E) : kvN k < 2 ^ E := by
  obtain ⟨T, hT⟩ : ∃ T, T = 2046 := ⟨_, rfl⟩
  have : kvN k < 9007199254740992 * 2 ^ T := by
    unfold kvN
    have p := Nat.two_pow_pos T
    split
    · omega
    · refine Nat.lt_of_lt_of_le (Nat.mul_lt_mul_of_pos_right (show 4503599627370496 + k % 4503599627370496 < 9007199254740992 by omega) (Nat.two_pow_pos _)) (Nat.mul_le_mul_left _ (Nat.pow_le_pow_right (by decide) (by omega)))
  refine Nat.lt_of_lt_of_le this ?_
  rw [show (9007199254740992 : Nat) = 2 ^ 53 from rfl, ← Nat.pow_add]
  exact Nat.pow_le_pow_right (by decide) (by omega)
theorem rq_num_le (s : Bool) (N : Nat) {D : Nat} (hD : D ≠ 0) : (rq s N D).num.natAbs ≤ N ∧ (rq s N D).den ≤ D := by
  rw [rq_num hD, rq_den hD]
  exact ⟨Nat.div_le_self _ _, Nat.div_le_self _ _⟩
theorem pow_lt_of {T E : Nat} (h : T < E) : 2 ^ T < 2 ^ E := Nat.pow_lt_pow_right (by decide) h
theorem value_lens {r : RR} {s : Bool} {k : Nat} (h : k < 9218868437227405312) (hr : RIs r (fv s k) 300) {E : Nat} (hE : 2099 ≤ E) : wv r.num < 2 ^ E ∧ wv r.den < 2 ^ E := by
  rw [hr.1.2.2.1, hr.2.1.2.2.1, fv_eq h]
  have hp : (2 : Nat) ^ 1074 ≠ 0 := Nat.ne_of_gt (Nat.two_pow_pos 1074)
  obtain ⟨h1, h2⟩ := rq_num_le s (kvN k) hp
  exact ⟨Nat.lt_of_le_of_lt h1 (kvN_lt2 h hE), Nat.lt_of_le_of_lt h2 (pow_lt_of (T := 1074) (Nat.lt_of_lt_of_le (by decide) hE))⟩
theorem fv_zero (s : Bool) : fv s 0 = 0 := by
  rw [fv_eq (by omega), kvN_zero, rq_zero_num]
theorem exact_fv {r : RR} {s : Bool} {k : Nat} (h : k < 9218868437227405312) (h0 : k ≠ 0) (hr : RIs r (fv s k) 300) (mode : Int) : Tr.Is (n_Exact_t r mode) (fl s k, 0) := by
  obtain ⟨l1, l2⟩ := value_lens h hr (E := 4900) (by omega)
  obtain ⟨f1, f2, f3, f4⟩ := fv_nz (s := s) h h0
  obtain ⟨K, a, b, s1, t⟩ := exact_val hr.RW (by omega) (by rw [hr.val]; exact f2) (Nat.le_refl _) l1 l2 mode (S := 3925) (Nat.le_refl _)
  rw [hr.val] at s1 t
  obtain ⟨i1, i2, i3⟩ := sit_inj s1 (f4 _)
  subst i1; subst i2; subst i3
  rw [rnd_self h, f3] at t
  exact exact_tree t
theorem cmpZ_self (a : Int) : cmpZ a a = 0 := by unfold cmpZ; rw [if_neg (by omega), if_neg (by omega)]
theorem RoundStays_both {f : Int} (hf : Wd f) {mode : Int} : l_RoundStays f mode = true ∧ l_RoundStays_s f mode = true := by
  obtain ⟨s, k, hk, rfl⟩ := fl_of hf
  suffices h : Tr.Is (l_RoundStays_t (fl s k) mode) true from h
  by_cases h : k < 9218868437227405312
  · obtain ⟨v1, r, v2, v3⟩ := value_spec (s := s) h
    obtain ⟨g1, g2⟩ := qsign_spec v3.RW (by omega) (by omega)
    rw [v3.val] at g2
    refine pre5 (Tr.is_ast v1 (Tr.is_br_f (by rw [v2]; rfl) ?_))
    rw [v2]
    dsimp only
    by_cases h0 : k = 0
    · subst h0
      rw [fv_zero] at v3 g2
      have t := exact_tree (exact_zero v3.RW (by omega) v3.val mode)
      have e : n_Exact r mode = (0, 0) := t.1
      have c := fcmp_spec (s := false) (k := 0) (t := s) (j := 0) (by omega) (by omega)
      have c2 : p_Cmp 0 (fl s 0) = (0, true) := by
        rw [show (0 : Int) = fl false 0 from rfl, c]
        unfold fcmp
        rw [if_neg (by omega)]
        cases s <;> rfl
      rw [e]
      dsimp only
      rw [c2]
      exact Tr.is_ast t.2 (Tr.is_br_t works5.1 (Tr.is_br_t rfl (Tr.is_br_t rfl (Tr.is_br_t rfl (Tr.is_ast g1 (Tr.is_br_t (by rw [g2]; decide +kernel) (Tr.is_leaf rfl)))))))
    · have t := exact_fv h h0 v3 mode
      have e : n_Exact r mode = (fl s k, 0) := t.1
      have c := fcmp_spec (s := s) (k := k) (t := s) (j := k) hk hk
      have c2 : p_Cmp (fl s k) (fl s k) = (0, true) := by
        rw [c]
        unfold fcmp
        rw [if_neg (by omega), cmpZ_self]
      obtain ⟨f1, f2, f3, f4⟩ := fv_nz (s := s) h h0
      have g3 : (q_Sign r == 0) = false := by
        rw [g2]
        unfold cmpQ
        split <;> rfl
      rw [e]
      dsimp only
      rw [c2]
      exact Tr.is_ast t.2 (Tr.is_br_t works5.1 (Tr.is_br_t rfl (Tr.is_br_t rfl (Tr.is_br_t rfl (Tr.is_ast g1 (Tr.is_br_f g3 (Tr.is_leaf (bt rfl))))))))
  · obtain ⟨v1, v2⟩ := value_none (s := s) hk (by omega)
    exact pre5 (Tr.is_ast v1 (Tr.is_br_t (by rw [v2]; rfl) (Tr.is_leaf works5.1)))
end Go.Fb
namespace Go.Fb
open Go.Ev
/-- one number is not above another -/
def XLe (X Y : Xn) : Prop := ∀ t, (0 ≤ cut X t → 0 ≤ cut Y t) ∧ (0 < cut X t → 0 < cut Y t)
/-- the key alone -/
def rk (K : Nat) (h r : Bool) (way : Int) : Nat := (rans K h r false way).1
theorem rk_eq {K : Nat} {h r sm : Bool} {way : Int} : (rans K h r sm way).1 = rk K h r way := by
  unfold rk rans
  split <;> rfl
theorem rkey_mono {S : Nat} {X Y : Xn} {K J : Nat} {h r h' r' : Bool} (a : Sit S X K h r) (b : Sit S Y J h' r') (hX : 0 < X.Q) (hY : 0 < Y.Q) (le : XLe X Y) (way : Int) : rkey K h r way ≤ rkey J h' r' way := by
  have e1 := sit_exact a hX
  have e2 := sit_exact b hY
  rw [rkey_up, rkey_up]
  have hKJ : K ≤ J := by
    rcases Nat.lt_or_ge J K with g | g
    · have := cut_mono (pos_mono (S := S) (show J + 1 ≤ K by omega)) a.1
      have := (le _).1 this
      have := b.2.1; omega
    · exact g
  rcases Nat.lt_or_ge K J with g | g
  · split <;> split <;> omega
  · have : K = J := by omega
    subst this
    have m1 : (h || r) = true → (h' || r') = true := fun g => by
      rw [g] at e1
      have : cut X (pos S K) ≠ 0 := by simpa using e1
      have := a.1
      have := (le (pos S K)).2 (by omega)
      cases g2 : (h' || r') with
      | true => rfl
      | false => rw [g2] at e2; have : cut Y (pos S K) = 0 := by simpa using e2
                 omega
    have m2 : h = true → h' = true := fun g => by
      rw [a.2.2.1] at g
      rw [b.2.2.1]
      exact decide_eq_true ((le _).1 (of_decide_eq_true g))
    have m3 : h = true → r = true → r' = true := fun g g2 => by
      have g' := m2 g
      have a4 := a.2.2.2
      have b4 := b.2.2.2
      rw [g, g2, if_pos rfl] at a4
      rw [g', if_pos rfl] at b4
      rw [b4]
      exact decide_eq_true ((le _).2 (of_decide_eq_true a4.symm))
    have : upOf (decide (K % 2 = 1)) h r way = true → upOf (decide (K % 2 = 1)) h' r' way = true := by
      unfold upOf
      by_cases w1 : way = 1
      · rw [if_pos w1, if_pos w1]; exact m1
      · rw [if_neg w1, if_neg w1]
        by_cases w2 : way = 2
        · rw [if_pos w2, if_pos w2]; exact id
        · rw [if_neg w2, if_neg w2]
          intro g
          cases h with
          | false => contradiction
          | true =>
            rw [m2 rfl]
            cases r with
            | true => rw [m3 rfl rfl]; rfl
            | false =>
              have : decide (K % 2 = 1) = true := g
              rw [this]; cases r' <;> rfl
    cases g1 : upOf (decide (K % 2 = 1)) h r way with
    | true => rw [this g1]; exact Nat.le_refl _
    | false => rw [if_neg (by decide)]; split <;> omega
theorem rk_of (K : Nat) (h r : Bool) (way : Int) : rk K h r way = if 9218868437227405312 ≤ rkey K h r way then (if way = 2 then 9218868437227405311 else 9218868437227405312) else rkey K h r way := by
  unfold rk rans
  split <;> rfl
theorem rk_mono {S : Nat} {X Y : Xn} {K J : Nat} {h r h' r' : Bool} (a : Sit S X K h r) (b : Sit S Y J h' r') (hX : 0 < X.Q) (hY : 0 < Y.Q) (le : XLe X Y) (way : Int) : rk K h r way ≤ rk J h' r' way := by
  have := rkey_mono a b hX hY le way
  rw [rk_of, rk_of]
  split <;> split <;> (try split) <;> omega
theorem rk_down (K : Nat) (h r : Bool) (way : Int) : rk K h r 2 ≤ rk K h r way ∧ rk K h r way ≤ rk K h r 1 := by
  have e2 : rkey K h r 2 = K := rfl
  have b1 : K ≤ rkey K h r way ∧ rkey K h r way ≤ rkey K h r 1 := by
    have u : upOf (decide (K % 2 = 1)) h r way = true → upOf (decide (K % 2 = 1)) h r 1 = true := by
      unfold upOf
      rw [if_pos (show (1 : Int) = 1 from rfl)]
      split
      · exact id
      · split
        · exact fun g => absurd g (by decide)
        · cases h <;> simp
    rw [rkey_up, rkey_up]
    cases g : upOf (decide (K % 2 = 1)) h r way with
    | true => rw [u g]; simp
    | false => rw [if_neg (by decide)]; split <;> omega
  rw [rk_of, rk_of, rk_of, e2]
  have n1 : ¬ (1 : Int) = 2 := by decide
  rw [if_neg n1, if_pos (show (2 : Int) = 2 from rfl)]
  constructor
  · split <;> split <;> (try split) <;> omega
  · split <;> split <;> (try split) <;> omega
def ExK (x : Rat) (mode : Int) (z : Int) : Prop := (x = 0 ∧ z = 0) ∨ (x ≠ 0 ∧ ∃ K a b, Sit 3925 (xV 3925 x) K a b ∧ z = ky (decide (x < 0)) (rk K a b (wayOf (decide (x < 0)) mode)))
theorem exact_key {r : RR} {k : Nat} (h : RW r k) (hk : k ≤ 1000) {E : Nat} (hE : E ≤ 4900) (hn : wv r.num < 2 ^ E) (hd : wv r.den < 2 ^ E) (mode : Int) :
    n_Exact_s r mode = true ∧ ∃ t j g, n_Exact r mode = (fl t j, g) ∧ j ≤ 9218868437227405312 ∧ ExK (val r) mode (ky t j) := by
  by_cases h0 : val r = 0
  · have t := exact_tree (exact_zero h hk h0 mode)
    exact ⟨t.2, false, 0, 0, t.1, by omega, .inl ⟨h0, rfl⟩⟩
  · obtain ⟨K, a, b, s, t⟩ := exact_val h hk h0 hE hn hd mode (S := 3925) (Nat.le_refl _)
    have t := exact_tree t
    refine ⟨t.2, _, _, _, t.1, rans_le, .inr ⟨h0, K, a, b, s, ?_⟩⟩
    rw [rk_eq]
theorem xV_q (S : Nat) (x : Rat) : 0 < (xV S x).Q := Nat.pos_of_ne_zero x.den_nz
theorem xle_of {N1 D1 N2 D2 : Nat} (h1 : 0 < D1) (h2 : 0 < D2) (h : N1 * D2 ≤ N2 * D1) (S : Nat) : XLe (xQ S N1 D1) (xQ S N2 D2) := by
  intro t
  have p := Nat.two_pow_pos (S + 1075)
  have e : ∀ (N D : Nat) , (0 ≤ cut (xQ S N D) t ↔ D * t ≤ N * 2 ^ (S + 1075)) ∧ (0 < cut (xQ S N D) t ↔ D * t < N * 2 ^ (S + 1075)) := fun N D => by
    unfold cut xQ
    dsimp only
    simp only [Bool.false_eq_true, if_false]
    constructor
    · split
      · exact ⟨fun g => absurd g (by decide), fun g => by omega⟩
      · exact ⟨fun _ => by omega, fun _ => by split <;> decide⟩
    · split
      · exact ⟨fun g => absurd g (by decide), fun g => by omega⟩
      · split
        · exact ⟨fun _ => by omega, fun _ => by decide⟩
        · exact ⟨fun g => absurd g (by decide), fun g => by omega⟩
  have key : N1 * 2 ^ (S + 1075) * D2 ≤ N2 * 2 ^ (S + 1075) * D1 := by
    have := Nat.mul_le_mul_right (2 ^ (S + 1075)) h
    rw [Nat.mul_right_comm N1, Nat.mul_right_comm N2]
    exact this
  rw [(e N1 D1).1, (e N2 D2).1, (e N1 D1).2, (e N2 D2).2]
  clear e
  generalize N1 * 2 ^ (S + 1075) = P1 at *
  generalize N2 * 2 ^ (S + 1075) = P2 at *
  have c : D2 * t * D1 = D1 * t * D2 := by simp only [Nat.mul_comm, Nat.mul_left_comm]
  constructor
  · intro g
    refine Nat.le_of_mul_le_mul_right (c := D1) ?_ h1
    rw [c]
    exact Nat.le_trans (Nat.mul_le_mul_right D2 g) key
  · intro g
    refine Nat.lt_of_mul_lt_mul_right (a := D1) ?_
    rw [c]
    exact Nat.lt_of_lt_of_le (Nat.mul_lt_mul_of_pos_right g h2) key
/-- of two magnitudes -/
theorem xV_le {x y : Rat} (h : x.num.natAbs * y.den ≤ y.num.natAbs * x.den) (S : Nat) : XLe (xV S x) (xV S y) :=
  xle_of (Nat.pos_of_ne_zero x.den_nz) (Nat.pos_of_ne_zero y.den_nz) h S
theorem abs_le {x y : Rat} (h : x ≤ y) : (0 ≤ x → x.num.natAbs * y.den ≤ y.num.natAbs * x.den) ∧ (y ≤ 0 → y.num.natAbs * x.den ≤ x.num.natAbs * y.den) := by
  have l := (Rat.le_iff x y).1 h
  constructor
  · intro hx
    have h1 : 0 ≤ x.num := Rat.num_nonneg.2 hx
    have h2 : 0 ≤ y.num := Rat.num_nonneg.2 (Rat.le_trans hx h)
    obtain ⟨n, hn⟩ := Int.eq_ofNat_of_zero_le h1
    obtain ⟨m, hm⟩ := Int.eq_ofNat_of_zero_le h2
    rw [hn, hm] at l ⊢
    simp only [Int.natAbs_natCast]
    exact_mod_cast l
  · intro hy
    have h2 : 0 ≤ (-y).num := Rat.num_nonneg.2 (by grind)
    have h1 : 0 ≤ (-x).num := Rat.num_nonneg.2 (by grind)
    rw [Rat.neg_num] at h1 h2
    obtain ⟨n, hn⟩ := Int.eq_ofNat_of_zero_le h1
    obtain ⟨m, hm⟩ := Int.eq_ofNat_of_zero_le h2
    have e1 : x.num = -(n : Int) := by omega
    have e2 : y.num = -(m : Int) := by omega
    rw [e1, e2] at l ⊢
    simp only [Int.natAbs_neg, Int.natAbs_natCast]
    rw [Int.neg_mul, Int.neg_mul] at l
    have l := Int.neg_le_neg_iff.1 l
    exact_mod_cast l
theorem exk_mono {x y : Rat} (h : x ≤ y) {mode z w : Int} (a : ExK x mode z) (b : ExK y mode w) : z ≤ w := by
  have ab := abs_le h
  rcases a with ⟨a1, a2⟩ | ⟨a1, K, a2, a3, a4, a5⟩
  · rcases b with ⟨b1, b2⟩ | ⟨b1, J, b2, b3, b4, b5⟩
    · omega
    · have : ¬ y < 0 := by rw [a1] at h; exact Rat.not_lt.2 h
      rw [df this] at b5
      rw [a2, b5]
      unfold ky; simp
  · rcases b with ⟨b1, b2⟩ | ⟨b1, J, b2, b3, b4, b5⟩
    · have : x < 0 := by rw [b1] at h; exact Rat.lt_of_le_of_ne h a1
      rw [dt this] at a5
      rw [b2, a5]
      unfold ky; simp <;> omega
    · by_cases hx : x < 0
      · rw [dt hx] at a5
        by_cases hy : y < 0
        · rw [dt hy] at b5
          have := rk_mono b4 a4 (xV_q _ _) (xV_q _ _) (xV_le (ab.2 (Rat.le_of_lt hy)) _) (wayOf true mode)
          rw [a5, b5]; unfold ky; simp <;> omega
        · rw [df hy] at b5
          rw [a5, b5]; unfold ky; simp <;> omega
      · have hy : ¬ y < 0 := fun g => hx (by grind)
        rw [df hx] at a5
        rw [df hy] at b5
        have := rk_mono a4 b4 (xV_q _ _) (xV_q _ _) (xV_le (ab.1 (Rat.not_lt.1 hx)) _) (wayOf false mode)
        rw [a5, b5]; unfold ky; simp <;> omega
theorem exk_order {x : Rat} {mode d z u : Int} (a : ExK x 2 d) (b : ExK x mode z) (c : ExK x 1 u) : d ≤ z ∧ z ≤ u := by
  rcases a with ⟨a1, a2⟩ | ⟨a1, K, a2, a3, a4, a5⟩
  · rcases b with ⟨b1, b2⟩ | ⟨b1, _⟩
    · rcases c with ⟨c1, c2⟩ | ⟨c1, _⟩
      · omega
      · exact absurd a1 c1
    · exact absurd a1 b1
  · rcases b with ⟨b1, b2⟩ | ⟨b1, J, b2, b3, b4, b5⟩
    · exact absurd b1 a1
    · rcases c with ⟨c1, c2⟩ | ⟨c1, L, c2, c3, c4, c5⟩
      · exact absurd c1 a1
      · obtain ⟨i1, i2, i3⟩ := sit_inj a4 b4
        subst i1; subst i2; subst i3
        obtain ⟨i1, i2, i3⟩ := sit_inj a4 c4
        subst i1; subst i2; subst i3
        have r := rk_down K a2 a3
        rw [a5, b5, c5]
        by_cases hx : x < 0
        · rw [dt hx]
          have e1 : wayOf true 2 = 1 := rfl
          have e2 : wayOf true 1 = 2 := rfl
          rw [e1, e2]
          have := r (wayOf true mode)
          unfold ky; simp <;> omega
        · rw [df hx]
          have e1 : wayOf false 2 = 2 := rfl
          have e2 : wayOf false 1 = 1 := rfl
          rw [e1, e2]
          have := r (wayOf false mode)
          unfold ky; simp <;> omega
theorem RoundRises_both {a b : RR} (h1 : Wds a.num) (h2 : Wds a.den) (h3 : Wds b.num) (h4 : Wds b.den) {mode : Int} : l_RoundRises a b mode = true ∧ l_RoundRises_s a b mode = true := by
  suffices h : Tr.Is (l_RoundRises_t a b mode) true from h
  refine pre5 (guard6 fun l1 => guard6 fun l2 => guard6 fun l3 => guard6 fun l4 => ?_)
  have wa : RW a 6 := ⟨h1, h2, l1, l2⟩
  have wb : RW b 6 := ⟨h3, h4, l3, l4⟩
  have ea := fun m => exact_key wa (by omega) (E := 32 * 6) (by omega) (wv_lt2 h1 l1) (wv_lt2 h2 l2) m
  have eb := fun m => exact_key wb (by omega) (E := 32 * 6) (by omega) (wv_lt2 h3 l3) (wv_lt2 h4 l4) m
  obtain ⟨x1, xs, xk, xg, x2, x3, x4⟩ := ea mode
  obtain ⟨y1, ys, yk, yg, y2, y3, y4⟩ := eb mode
  obtain ⟨d1, ds, dk, dg, d2, d3, d4⟩ := ea 2
  obtain ⟨n1, ns, nk, ng, n2, n3, n4⟩ := ea 0
  obtain ⟨u1, us, uk, ug, u2, u3, u4⟩ := ea 1
  obtain ⟨c1, c2⟩ := qcmp_spec wa wb (by omega) (by omega)
  have o := exk_order d4 n4 u4
  have pc : p_Cmp (fl xs xk) (fl ys yk) = (cmpZ (ky xs xk) (ky ys yk), true) := by
    rw [fcmp_spec (by omega) (by omega)]; unfold fcmp; rw [if_neg (by omega)]
  have p1 : p_Less (fl ns nk) (fl ds dk) = false := by
    rw [less_spec (by omega) (by omega)]; unfold fless; exact df (by omega)
  have p2 : p_Less (fl us uk) (fl ns nk) = false := by
    rw [less_spec (by omega) (by omega)]; unfold fless; exact df (by omega)
  have g1 : val a ≤ val b → decide (cmpZ (ky xs xk) (ky ys yk) ≤ 0) = true := fun h => by
    have := exk_mono h x4 y4
    unfold cmpZ
    exact dt (by split; omega; split <;> omega)
  have g2 : val b ≤ val a → decide (cmpZ (ky xs xk) (ky ys yk) ≥ 0) = true := fun h => by
    have := exk_mono h y4 x4
    unfold cmpZ
    exact dt (by split; omega; split <;> omega)
  refine Tr.is_ast x1 (Tr.is_ast y1 (Tr.is_ast d1 (Tr.is_ast n1 (Tr.is_ast u1 (Tr.is_ast c1 (Tr.is_br_t works5.1 ?_))))))
  rw [x2, y2, d2, n2, u2]
  dsimp only
  rw [pc, p1, p2, c2]
  dsimp only
  have fin : Tr.Is (Tr.br (!false) (Tr.leaf !false) (Tr.leaf false)) true := ⟨rfl, rfl⟩
  refine Tr.is_br_t rfl ?_
  unfold cmpQ
  by_cases t1 : val a < val b
  · rw [if_pos t1]
    exact Tr.is_br_f (by decide) (Tr.is_br_t (g1 (Rat.le_of_lt t1)) (Tr.is_br_t (by decide) fin))
  · by_cases t2 : val a = val b
    · rw [if_neg t1, if_pos t2]
      exact Tr.is_br_f (by decide) (Tr.is_br_t (g1 (by rw [t2]; exact Rat.le_refl)) (Tr.is_br_f (by decide) (Tr.is_br_t (g2 (by rw [t2]; exact Rat.le_refl)) fin)))
    · rw [if_neg t1, if_neg t2]
      exact Tr.is_br_t (by decide) (Tr.is_br_f (by decide) (Tr.is_br_t (g2 (Rat.not_lt.1 t1)) fin))
end Go.Fb
