/- Layer 2: the laws hold, in plain Lean. Conditions: as each theorem states. -/
import Derived.Test.YtggmmkdfgjnjfaaNl
import Derived.Test.YtggmmkdfgjnjfaaNp
namespace Go.Fb
open Go.Ev
set_option maxRecDepth 100000 in
theorem works2 : l2_works = true ∧ l2_works_s = true := by decide +kernel
theorem t1 : n_Text [1000] = [49,48,48,48] ∧ n_Text_s [1000] = true := by decide +kernel
end Go.Fb
namespace Go.Fb
open Go.Ev
theorem cmpEq {x y : List Int} (hx : Wds x) (hy : Wds y) (lx : x.length ≤ 1000000) (ly : y.length ≤ 1000000) (h : wv x = wv y) : (n_Cmp x y == 0) = true ∧ n_Cmp_s x y = true := by
  obtain ⟨h1, h2⟩ := ncmp_spec hx hy lx ly
  rw [h1, cmp0, h, decide_eq_true rfl]
  exact ⟨rfl, h2⟩
theorem cmpLt {x y : List Int} (hx : Wds x) (hy : Wds y) (lx : x.length ≤ 1000000) (ly : y.length ≤ 1000000) (h : wv x < wv y) : decide (n_Cmp x y < 0) = true ∧ n_Cmp_s x y = true := by
  obtain ⟨h1, h2⟩ := ncmp_spec hx hy lx ly
  rw [h1]; unfold cmpN; rw [if_pos h]
  exact ⟨rfl, h2⟩
theorem isT {a : List Int} {b : List Bool} {v n : Nat} (h : NumIs a v n) (hn : n ≤ 1000000) (hb : b.length ≤ 1000000) (e : bv b = v) : r2_Is a b = true ∧ r2_Is_s a b = true := by
  obtain ⟨h1, h2, h3, h4⟩ := h
  obtain ⟨i1, i2⟩ := is_iff (a := a) (b := b) (by omega) hb h1 h2
  rw [i1, h3, e, decide_eq_true rfl]
  exact ⟨rfl, i2⟩
theorem nlen0 {a : List Int} (hw : Wds a) (hn : a.length ≤ 1000000) : (n_Len a == 0) = decide (wv a = 0) ∧ n_Len_s a = true := by
  obtain ⟨h1, l, h2, h3⟩ := nlen_spec hw hn
  refine ⟨?_, h1⟩
  rw [h2]
  have := lenIs_nought h3
  by_cases h : wv a = 0
  · rw [decide_eq_true h, bt (by rw [this.2 h]; rfl)]
  · rw [decide_eq_false h, bf (by omega)]
theorem nlen1 {a : List Int} (hw : Wds a) (hn : a.length ≤ 1000000) (h : wv a = 1) : (n_Len a == 1) = true ∧ n_Len_s a = true := by
  obtain ⟨h1, l, h2, h3⟩ := nlen_spec hw hn
  refine ⟨?_, h1⟩
  have : l = 1 := h3.unique (by rw [h]; exact ⟨by decide, .inr (by decide)⟩)
  rw [h2, this]; rfl
theorem bits0 {a : List Int} (hw : Wds a) (hn : a.length ≤ 30000) : (((r2_Bits a).length : Int) == 0) = decide (wv a = 0) := by
  obtain ⟨h1, h2, h3⟩ := bits2_spec hw hn
  have := lenIs_nought h3
  by_cases h : wv a = 0
  · rw [decide_eq_true h, bt (by omega)]
  · rw [decide_eq_false h, bf (by omega)]
theorem wv_lt2 {a : List Int} (ha : Wds a) {n : Nat} (h : a.length ≤ n) : wv a < 2 ^ (32 * n) := by
  rw [Nat.pow_mul]
  exact Nat.lt_of_lt_of_le (wv_lt ha) (Nat.pow_le_pow_right (by decide) h)
theorem bits_len {a : List Int} (hw : Wds a) (hn : a.length ≤ 24) : (r2_Bits a).length ≤ 768 := by
  obtain ⟨h1, h2, h3⟩ := bits2_spec hw (by omega)
  have := lenIs_le h3 (m := 32 * 24) (wv_lt2 hw hn)
  omega
theorem NatDivides_both {a b : List Int} (ha : Wds a) (hb : Wds b) : l_NatDivides a b = true ∧ l_NatDivides_s a b = true := by
  obtain ⟨s1, s2⟩ := small2 (a := a) (b := b)
  cases hs : (decide ((a.length : Int) ≤ 24) && decide ((b.length : Int) ≤ 24)) with
  | false =>
    rw [hs] at s1
    simp only [l_NatDivides, l_NatDivides_s, l_NatDivides_t, l_NatDivides_T, works2.1, works2.2, s1, s2, Tr.val, Tr.safe, cond_true, cond_false, Bool.not_true, Bool.not_false, Bool.true_and, and_self]
  | true =>
    rw [hs] at s1
    simp only [Bool.and_eq_true, decide_eq_true_eq] at hs
    have hla : a.length ≤ 24 := by omega
    have hlb : b.length ≤ 24 := by omega
    obtain ⟨x1, x2, x3⟩ := bits2_spec ha (by omega)
    obtain ⟨y1, y2, y3⟩ := bits2_spec hb (by omega)
    have lx := bits_len ha hla
    have ly := bits_len hb hlb
    obtain ⟨g1, g2⟩ := ngcd_spec ha hb (n := 24) hla hlb (by omega)
    obtain ⟨k1, k2, k3, k4⟩ := rgcd_spec (a := r2_Bits a) (b := r2_Bits b) (n := 800) (by omega) (by omega) (by omega) (by rw [x2]; exact x3) (by rw [y2]; exact y3)
    rw [x2, y2] at k2
    obtain ⟨i1, i2⟩ := isT g2 (by omega) (by omega) k2
    have z0 := bits0 hb (by omega)
    rcases Nat.eq_zero_or_pos (wv b) with h0 | h0
    · obtain ⟨d1, d2⟩ := ndiv_zero (a := a) (b := b) (by omega) (by omega) h0 hb
      rw [decide_eq_true h0] at z0
      cases hc : decide (IntKind.i64.wrap ((a.length : Int) + (b.length : Int)) > 6) <;>
        simp only [l_NatDivides, l_NatDivides_s, l_NatDivides_t, l_NatDivides_T, works2.1, works2.2, s1, s2, x1, y1, hc, g1, k1, i1, i2, d1, d2, z0, Tr.val, Tr.safe, cond_true, cond_false, Bool.not_true, Bool.true_and, List.length_nil] <;>
        exact ⟨rfl, rfl⟩
    · obtain ⟨d1, q, r, d2, d3, d4⟩ := ndiv_spec ha hb (by omega) (by omega) h0
      rw [decide_eq_false (by omega)] at z0
      obtain ⟨e1, e2, e3, e4, e5, e6⟩ := rdiv_spec (a := r2_Bits a) (b := r2_Bits b) (by omega) (by omega) (by rw [y2]; exact h0)
      rw [x2, y2] at e3 e5
      obtain ⟨j1, j2⟩ := isT d3 (by omega) (by omega) e3
      obtain ⟨m1, m2⟩ := isT d4 (by omega) (by omega) e5
      cases hc : decide (IntKind.i64.wrap ((a.length : Int) + (b.length : Int)) > 6) <;>
        simp only [l_NatDivides, l_NatDivides_s, l_NatDivides_t, l_NatDivides_T, works2.1, works2.2, s1, s2, x1, y1, hc, g1, k1, i1, i2, d1, d2, z0, e1, j1, j2, m1, m2, Tr.val, Tr.safe, cond_true, cond_false, Bool.not_true, Bool.true_and, beq_self_eq_true, and_self]
theorem NatCommon_both {a b : List Int} (ha : Wds a) (hb : Wds b) : l_NatCommon a b = true ∧ l_NatCommon_s a b = true := by
  obtain ⟨s1, s2⟩ := small2 (a := a) (b := b)
  cases hs : (decide ((a.length : Int) ≤ 24) && decide ((b.length : Int) ≤ 24)) with
  | false =>
    rw [hs] at s1
    simp only [l_NatCommon, l_NatCommon_s, l_NatCommon_t, l_NatCommon_T, works2.1, works2.2, s1, s2, Tr.val, Tr.safe, cond_true, cond_false, Bool.not_true, Bool.not_false, Bool.true_and, and_self]
  | true =>
    rw [hs] at s1
    simp only [Bool.and_eq_true, decide_eq_true_eq] at hs
    have hla : a.length ≤ 24 := by omega
    have hlb : b.length ≤ 24 := by omega
    obtain ⟨g1, g2⟩ := ngcd_spec ha hb (n := 24) hla hlb (by omega)
    obtain ⟨h1, h2⟩ := ngcd_spec hb ha (n := 24) hlb hla (by omega)
    have g2' := g2
    obtain ⟨gw, gz, gv, gl⟩ := g2
    obtain ⟨hw, hz, hv, hl⟩ := h2
    obtain ⟨l1, l2⟩ := nlen0 gw (by omega)
    obtain ⟨la1, la2⟩ := nlen0 ha (by omega)
    obtain ⟨lb1, lb2⟩ := nlen0 hb (by omega)
    rw [gv] at l1
    rcases Nat.eq_zero_or_pos (Nat.gcd (wv a) (wv b)) with h0 | h0
    · obtain ⟨za, zb⟩ := Nat.gcd_eq_zero_iff.1 h0
      rw [decide_eq_true h0] at l1
      rw [decide_eq_true za] at la1
      rw [decide_eq_true zb] at lb1
      simp only [l_NatCommon, l_NatCommon_s, l_NatCommon_t, l_NatCommon_T, works2.1, works2.2, s1, s2, g1, l1, l2, la1, la2, lb1, lb2, Tr.val, Tr.safe, cond_true, cond_false, Bool.not_true, Bool.true_and, and_self]
    · rw [decide_eq_false (by omega)] at l1
      obtain ⟨p1, p, r, p2, p3, p4⟩ := ndiv_spec ha gw (by omega) (by omega) (by rw [gv]; exact h0)
      obtain ⟨q1, q, s, q2, q3, q4⟩ := ndiv_spec hb gw (by omega) (by omega) (by rw [gv]; exact h0)
      rw [gv] at p3 p4 q3 q4
      rw [Nat.mod_eq_zero_of_dvd (Nat.gcd_dvd_left _ _)] at p4
      rw [Nat.mod_eq_zero_of_dvd (Nat.gcd_dvd_right _ _)] at q4
      obtain ⟨o1, o2⟩ := ngcd_spec p3.1 q3.1 (n := 24) (by have := p3.2.2.2; omega) (by have := q3.2.2.2; omega) (by omega)
      rw [p3.2.2.1, q3.2.2.1, Nat.gcd_div (Nat.gcd_dvd_left _ _) (Nat.gcd_dvd_right _ _), Nat.div_self h0] at o2
      obtain ⟨u1, u2⟩ := nlen1 o2.1 (by have := o2.2.2.2; omega) o2.2.2.1
      obtain ⟨v1, v2⟩ := nlen0 p4.1 (by have := p4.2.2.2; omega)
      obtain ⟨w1, w2⟩ := nlen0 q4.1 (by have := q4.2.2.2; omega)
      rw [p4.2.2.1, decide_eq_true rfl] at v1
      rw [q4.2.2.1, decide_eq_true rfl] at w1
      obtain ⟨c1, c2⟩ := cmpEq hw gw (by omega) (by omega) (by rw [hv, gv, Nat.gcd_comm])
      simp only [l_NatCommon, l_NatCommon_s, l_NatCommon_t, l_NatCommon_T, works2.1, works2.2, s1, s2, g1, l1, l2, h1, p1, p2, q1, q2, o1, u1, u2, v1, v2, w1, w2, c1, c2, Tr.val, Tr.safe, cond_true, cond_false, Bool.not_true, Bool.true_and, beq_self_eq_true, and_self]
theorem small3 {a b c : List Int} : l2_small (id [[Cv.l a], [Cv.l b], [Cv.l c]]) = (decide ((a.length : Int) ≤ 24) && (decide ((b.length : Int) ≤ 24) && decide ((c.length : Int) ≤ 24))) ∧ l2_small_s (id [[Cv.l a], [Cv.l b], [Cv.l c]]) = true := by
  obtain ⟨h1, h2⟩ := small_spec (l := id [[Cv.l a], [Cv.l b], [Cv.l c]]) (by simp)
  refine ⟨?_, h2⟩
  rw [h1]
  simp [shortRow, Cv.ints]
set_option maxHeartbeats 2000000 in
theorem NatLaws_both {a b c : List Int} (ha : Wds a) (hb : Wds b) (hc : Wds c) : l_NatLaws a b c = true ∧ l_NatLaws_s a b c = true := by
  obtain ⟨s1, s2⟩ := small3 (a := a) (b := b) (c := c)
  cases hs : (decide ((a.length : Int) ≤ 24) && (decide ((b.length : Int) ≤ 24) && decide ((c.length : Int) ≤ 24))) with
  | false =>
    rw [hs] at s1
    simp only [l_NatLaws, l_NatLaws_s, l_NatLaws_t, l_NatLaws_T, works2.1, works2.2, s1, s2, Tr.val, Tr.safe, cond_true, cond_false, Bool.not_true, Bool.not_false, Bool.true_and, and_self]
  | true =>
    rw [hs] at s1
    simp only [Bool.and_eq_true, decide_eq_true_eq] at hs
    have hla : a.length ≤ 24 := by omega
    have hlb : b.length ≤ 24 := by omega
    have hlc : c.length ≤ 24 := by omega
    obtain ⟨A1, A1w, A1z, A1v, A1l⟩ := nadd_spec ha hb (by omega) (by omega)
    obtain ⟨A2, A2w, A2z, A2v, A2l⟩ := nadd_spec hb ha (by omega) (by omega)
    obtain ⟨M1, M1w, M1z, M1v, M1l⟩ := nmul_spec ha hb (by omega)
    obtain ⟨M2, M2w, M2z, M2v, M2l⟩ := nmul_spec hb ha (by omega)
    obtain ⟨B1, B1w, B1z, B1v, B1l⟩ := nadd_spec A1w hc (by omega) (by omega)
    obtain ⟨B2, B2w, B2z, B2v, B2l⟩ := nadd_spec hb hc (by omega) (by omega)
    obtain ⟨B3, B3w, B3z, B3v, B3l⟩ := nadd_spec ha B2w (by omega) (by omega)
    obtain ⟨N1, N1w, N1z, N1v, N1l⟩ := nmul_spec M1w hc (by omega)
    obtain ⟨N2, N2w, N2z, N2v, N2l⟩ := nmul_spec hb hc (by omega)
    obtain ⟨N3, N3w, N3z, N3v, N3l⟩ := nmul_spec ha N2w (by omega)
    obtain ⟨D1, D1w, D1z, D1v, D1l⟩ := nmul_spec ha B2w (by omega)
    obtain ⟨D2, D2w, D2z, D2v, D2l⟩ := nmul_spec ha hc (by omega)
    obtain ⟨D3, D3w, D3z, D3v, D3l⟩ := nadd_spec M1w D2w (by omega) (by omega)
    obtain ⟨E1, E2, E3⟩ := nsub_spec A1w hb (by omega) (by omega)
    obtain ⟨E4, E4w, E4z, E4v, E4l⟩ := E3 (by rw [A1v]; exact Nat.le_add_left _ _)
    obtain ⟨F1, F1w, F1z, F1v, F1l⟩ := nadd_spec M1w hc (by omega) (by omega)
    obtain ⟨z1, z2⟩ := nlen0 hb (by omega)
    obtain ⟨c1, c1'⟩ := cmpEq A1w A2w (by omega) (by omega) (by rw [A1v, A2v, Nat.add_comm])
    obtain ⟨c2, c2'⟩ := cmpEq M1w M2w (by omega) (by omega) (by rw [M1v, M2v, Nat.mul_comm])
    obtain ⟨c3, c3'⟩ := cmpEq B1w B3w (by omega) (by omega) (by rw [B1v, A1v, B3v, B2v, Nat.add_assoc])
    obtain ⟨c4, c4'⟩ := cmpEq N1w N3w (by omega) (by omega) (by rw [N1v, N3v, M1v, N2v, Nat.mul_assoc])
    obtain ⟨c5, c5'⟩ := cmpEq D1w D3w (by omega) (by omega) (by rw [D1v, D3v, M1v, D2v, B2v, Nat.mul_add])
    obtain ⟨c6, c6'⟩ := cmpEq E4w ha (by omega) (by omega) (by rw [E4v, A1v, Nat.add_sub_cancel])
    rcases Nat.eq_zero_or_pos (wv b) with h0 | h0
    · obtain ⟨d1, d2⟩ := ndiv_zero (a := n_Add (n_Mul a b) c) (b := b) (by omega) (by omega) h0 hb
      rw [decide_eq_true h0] at z1
      simp only [l_NatLaws, l_NatLaws_s, l_NatLaws_t, l_NatLaws_T, works2.1, works2.2, s1, s2, A1, A2, M1, M2, B1, B2, B3, N1, N2, N3, D1, D2, D3, E1, E4, F1, z1, z2, c1, c2, c3, c4, c5, c6, c1', c2', c3', c4', c5', c6', d1, d2, Tr.val, Tr.safe, cond_true, cond_false, Bool.not_true, Bool.true_and, beq_self_eq_true, and_self]
    · rw [decide_eq_false (by omega)] at z1
      obtain ⟨d1, q, r, d2, ⟨qw, qz, qv, ql⟩, ⟨rw', rz, rv, rl⟩⟩ := ndiv_spec F1w hb (by omega) (by omega) h0
      obtain ⟨G1, G1w, G1z, G1v, G1l⟩ := nmul_spec qw hb (by omega)
      obtain ⟨G2, G2w, G2z, G2v, G2l⟩ := nadd_spec G1w rw' (by omega) (by omega)
      obtain ⟨c7, c7'⟩ := cmpLt rw' hb (by omega) (by omega) (by rw [rv]; exact Nat.mod_lt _ h0)
      obtain ⟨c8, c8'⟩ := cmpEq G2w F1w (by omega) (by omega) (by rw [G2v, G1v, qv, rv, Nat.mul_comm, Nat.div_add_mod])
      simp only [l_NatLaws, l_NatLaws_s, l_NatLaws_t, l_NatLaws_T, works2.1, works2.2, s1, s2, A1, A2, M1, M2, B1, B2, B3, N1, N2, N3, D1, D2, D3, E1, E4, F1, G1, G2, z1, z2, c1, c2, c3, c4, c5, c6, c7, c8, c1', c2', c3', c4', c5', c6', c7', c8', d1, d2, Tr.val, Tr.safe, cond_true, cond_false, Bool.not_true, Bool.true_and, beq_self_eq_true, and_self]
end Go.Fb
namespace Go.Fb
open Go.Ev
theorem NatAdds_both {a b : List Int} (ha : Wds a) (hb : Wds b) : l_NatAdds a b = true ∧ l_NatAdds_s a b = true := NatAdds_both_of works2 ha hb
end Go.Fb
namespace Go.Fb
open Go.Ev
theorem tdiv64 {i : Nat} (h : i < 64) : IntKind.i64.wrap ((i : Int).tdiv 64) = 0 := by
  have e : (i : Int).tdiv 64 = ((i / 64 : Nat) : Int) := by
    rw [show (64 : Int) = ((64 : Nat) : Int) from rfl, Int.natCast_tdiv_eq_ediv]; rfl
  rw [e, Nat.div_eq_of_lt h]; rfl
theorem tmod64 {i : Nat} (h : i < 64) : IntKind.u64.wrap ((i : Int).tmod 64) = (i : Int) := by
  have e : (i : Int).tmod 64 = ((i % 64 : Nat) : Int) := by
    exact (ndm (T := i) (d := 64)).2
  rw [e, Nat.mod_eq_of_lt h, u64i (by omega) (by omega)]
theorem words1_run {b : List Bool} (hb : b.length ≤ 1000000) : ∀ (m i : Nat), i + m = min b.length 64 →
    runL (r1_Words_L0_step (b, 1)) (m + 1) ((i : Int), [((bv b % 2 ^ i : Nat) : Int)]) = some (((min b.length 64 : Nat) : Int), [((bv b % 2 ^ (min b.length 64) : Nat) : Int)])
  | 0, i, hi => by
    have hi' : min b.length 64 = i := by omega
    rw [hi']
    by_cases h : i < b.length
    · exact runL_out (Tr.is_br_t (dt (by first | omega | (dsimp only; omega))) (Tr.is_br_f (df (by dsimp only; rw [show IntKind.i64.wrap (64 * 1) = 64 from rfl]; omega)) (Tr.is_leaf rfl)))
    · exact runL_out (Tr.is_br_f (df (by first | omega | (dsimp only; omega))) (Tr.is_leaf rfl))
  | m + 1, i, hi => by
    have e4 : IntKind.i64.wrap ((i : Int) + 1) = ((i + 1 : Nat) : Int) := wnext (by omega)
    have hms := mod_step (bv b) i
    have hbit := getD_bit b i
    have hlt : bv b % 2 ^ i < 2 ^ i := Nat.mod_lt _ (Nat.two_pow_pos i)
    have h64 : 2 ^ (i + 1) ≤ 18446744073709551616 := Nat.pow_le_pow_right (n := 2) (by decide) (by omega : i + 1 ≤ 64)
    have hp : 2 ^ (i + 1) = 2 * 2 ^ i := by rw [Nat.pow_succ, Nat.mul_comm]
    have c0 : decide (((i : Int)) < ((b.length : Nat) : Int)) = true := dt (by omega)
    have c1 : decide ((i : Int) < IntKind.i64.wrap (64 * 1)) = true := dt (by rw [show IntKind.i64.wrap (64 * 1) = 64 from rfl]; omega)
    rw [← words1_run hb m (i + 1) (by omega)]
    refine runL_next (Tr.is_br_t c0 (Tr.is_br_t c1 (Tr.is_ast (by simp; omega) ?_)))
    have ei : ((i : Int)).toNat = i := rfl
    dsimp only
    rw [ei]
    cases hc : b.getD i false with
    | false =>
      rw [hc] at hbit
      refine Tr.is_br_f rfl (Tr.is_leaf ?_)
      rw [e4, hms, ← hbit]; simp
    | true =>
      rw [hc] at hbit
      refine Tr.is_br_t rfl (Tr.is_ast ?_ (Tr.is_ast ?_ (Tr.is_ast ?_ (Tr.is_leaf ?_))))
      · rw [tdiv64 (by omega)]; rfl
      · rw [tmod64 (by omega)]; exact dt (by omega)
      · rw [tdiv64 (by omega)]; rfl
      · rw [e4, tdiv64 (by omega), tmod64 (by omega)]
        have e5 : shlI IntKind.u64 1 (i : Int) = ((2 ^ i : Nat) : Int) := by
          have := shl_nat 1 i (by omega)
          rw [Nat.one_mul, Nat.mod_eq_of_lt (by omega)] at this
          exact this
        have e6 : ([((bv b % 2 ^ i : Nat) : Int)].getD (0 : Int).toNat 0) = ((bv b % 2 ^ i : Nat) : Int) := rfl
        have e7 : bv b % 2 ^ i ||| 2 ^ i = bv b % 2 ^ i + 2 ^ i := by
          have := or_add (a := 1) hlt
          rw [Nat.mul_one] at this
          rw [Nat.or_comm, this, Nat.add_comm]
        rw [e5, e6, bits_or (by omega) (by omega), e7, hms, ← hbit]
        simp
theorem words1_spec {b : List Bool} (hb : b.length ≤ 1000000) : r1_Words b 1 = [((bv b % 18446744073709551616 : Nat) : Int)] ∧ r1_Words_s b 1 = true := by
  have h := words1_run hb (min b.length 64) 0 (by omega)
  rw [Nat.pow_zero, Nat.mod_one] at h
  have hm : bv b % 2 ^ (min b.length 64) = bv b % 18446744073709551616 := by
    rcases Nat.le_total b.length 64 with h1 | h1
    · rw [Nat.min_eq_left h1]
      have h2 := bv_lt b
      have h3 : 2 ^ b.length ≤ 18446744073709551616 := Nat.pow_le_pow_right (n := 2) (by decide) h1
      rw [Nat.mod_eq_of_lt h2, Nat.mod_eq_of_lt (by omega)]
    · rw [Nat.min_eq_right h1]
  rw [hm] at h
  have hr : r1_Words_L0_r (b, 1) (0, [0]) = some (((min b.length 64 : Nat) : Int), [((bv b % 18446744073709551616 : Nat) : Int)]) := runB_of h (by omega)
  have : Tr.Is (r1_Words_t b 1) [((bv b % 18446744073709551616 : Nat) : Int)] := by
    refine Tr.is_ast (by decide) (Tr.is_ast ?_ (Tr.is_leaf ?_))
    · show r1_Words_L0_ok (b, 1) (0, [0]) = true
      unfold r1_Words_L0_ok; rw [hr]; rfl
    · show (r1_Words_L0_v (b, 1) (0, [0])).2 = _
      unfold r1_Words_L0_v; rw [hr]; rfl
  exact this
theorem small1 {a : List Int} : l2_small (id [[Cv.l a]]) = decide ((a.length : Int) ≤ 24) ∧ l2_small_s (id [[Cv.l a]]) = true := by
  obtain ⟨h1, h2⟩ := small_spec (l := id [[Cv.l a]]) (by simp)
  refine ⟨?_, h2⟩
  rw [h1]
  simp [shortRow, Cv.ints]
theorem lenIs_le_iff {v l m : Nat} (h : LenIs v l) : l ≤ m ↔ v < 2 ^ m := by
  constructor
  · intro hl; exact Nat.lt_of_lt_of_le h.1 (Nat.pow_le_pow_right (by decide) hl)
  · intro hv; exact lenIs_le h hv
set_option maxHeartbeats 4000000 in
theorem NatShifts_both {a : List Int} {n i : Int} (ha : Wds a) (hn : -9223372036854775808 ≤ n ∧ n ≤ 9223372036854775807) (hi : -9223372036854775808 ≤ i ∧ i ≤ 9223372036854775807) : l_NatShifts a n i = true ∧ l_NatShifts_s a n i = true := by
  obtain ⟨s1, s2⟩ := small1 (a := a)
  cases hs : decide ((a.length : Int) ≤ 24) with
  | false =>
    rw [hs] at s1
    simp only [l_NatShifts, l_NatShifts_s, l_NatShifts_t, l_NatShifts_T, works2.1, works2.2, s1, s2, Tr.val, Tr.safe, cond_true, cond_false, Bool.not_true, Bool.not_false, Bool.true_and, and_self]
  | true =>
    rw [hs] at s1
    have hla : a.length ≤ 24 := by have := of_decide_eq_true hs; omega
    obtain ⟨x1, x2, x3⟩ := bits2_spec ha (by omega)
    have lx := bits_len ha hla
    obtain ⟨N, hN, hN2⟩ : ∃ N : Nat, imax n 0 = (N : Int) ∧ N < 9223372036854775808 := ⟨(imax n 0).toNat, by unfold imax; split <;> omega, by unfold imax; split <;> omega⟩
    have hNn : n ≤ N ∧ (n < 0 → N = 0) ∧ (0 ≤ n → n = N) := by unfold imax at hN; split at hN <;> omega
    obtain ⟨h1, h2⟩ := nshr_spec ha (by omega) hN hN2
    obtain ⟨u1, u2⟩ := nuint_spec ha (by omega)
    obtain ⟨b1, b2⟩ := nbit_spec ha (by omega) (i := i) (w64 hi.1 hi.2)
    obtain ⟨l1, l, l2, l3⟩ := nlen_spec ha (by omega)
    obtain ⟨w1, w2⟩ := words1_spec (b := r2_Bits a) (by omega)
    have hl : l = (r2_Bits a).length := l3.unique x3
    have hbig := big_shift (N := wv a) (L := (r2_Bits a).length) (n := N) x3.1
    rw [hl] at l2 l3
    obtain ⟨sh1, sh2, sh3, sh4⟩ := nshl_spec ha (by omega) hN hN2 l3
    rw [x2] at w1
    have hlen0 := lenIs_nought x3
    have hfit := lenIs_le_iff (m := 64) x3
    have hgb := fun k => getD_bit (r2_Bits a) k
    rw [x2] at hgb
    have hdrop := bv_drop (r2_Bits a) (min N (r2_Bits a).length)
    rw [x2, hbig.1] at hdrop
    obtain ⟨i1, i2⟩ := isT h2 (b := (r2_Bits a).drop (min N (r2_Bits a).length)) (by omega) (by simp; omega) hdrop
    have hshl : ∀ {k : Nat}, k ≤ 1000000 → _ := fun {k} hk => shl_spec (a := r2_Bits a) (n := k) (by omega) hk
    have hbshl : ∀ {k : Nat}, k ≤ 1000000 → _ := fun {k} hk => bv_shl (a := r2_Bits a) (n := k) (by omega) hk
    rw [x2] at hbshl
    generalize hX : r2_Bits a = X at *
    generalize hL : X.length = L at *
    have hk : imin (N : Int) (L : Int) = ((min N L : Nat) : Int) := by unfold imin; split <;> omega
    have e10 : (decide ((0 : Int) ≤ (some ((min N L : Nat) : Int)).getD 0) && (decide ((some ((min N L : Nat) : Int)).getD 0 ≤ (none : Option Int).getD (L : Int)) && decide ((none : Option Int).getD (L : Int) ≤ (L : Int)))) = true := by
      simp only [Option.getD_some, Option.getD_none, Bool.and_eq_true, decide_eq_true_eq]; omega
    have e15 : List.take (((none : Option Int).getD (L : Int)).toNat - ((some ((min N L : Nat) : Int)).getD 0).toNat) (List.drop ((some ((min N L : Nat) : Int)).getD 0).toNat X) = X.drop (min N L) := by
      simp only [Option.getD_some, Option.getD_none, Int.toNat_natCast]
      exact List.take_of_length_le (by rw [List.length_drop, hL]; exact Nat.le_refl _)
    have e7 : IntKind.i64.wrap (65536 - (L : Int)) = 65536 - (L : Int) := w64 (by omega) (by omega)
    have el : (((L : Nat) : Int) != (L : Int)) = false := bne_self_eq_false _
    -- the bit
    have hB : (decide (i ≥ 0) = true ∧ decide (i < (L : Int)) = true ∧ X.getD i.toNat false = true ∧ (n_Bit a i != 1) = false) ∨ (decide (i ≥ 0) = true ∧ decide (i < (L : Int)) = true ∧ X.getD i.toNat false = false ∧ (n_Bit a i != 0) = false) ∨
        (decide (i ≥ 0) = true ∧ decide (i < (L : Int)) = false ∧ (n_Bit a i != 0) = false) ∨ (decide (i ≥ 0) = false ∧ (n_Bit a i != 0) = false) := by
      rw [b2]
      by_cases h0 : i < 0
      · rw [if_pos h0]; exact .inr (.inr (.inr ⟨decide_eq_false (by omega), rfl⟩))
      · rw [if_neg h0, decide_eq_true (by omega : i ≥ 0)]
        have := hgb i.toNat
        by_cases h1 : i < (L : Int)
        · rw [decide_eq_true h1]
          cases hc : X.getD i.toNat false with
          | true => rw [hc] at this; rw [← this]; exact .inl ⟨rfl, rfl, rfl, rfl⟩
          | false => rw [hc] at this; rw [← this]; exact .inr (.inl ⟨rfl, rfl, rfl, rfl⟩)
        · rw [decide_eq_false h1]
          refine .inr (.inr (.inl ⟨rfl, rfl, ?_⟩))
          rw [← this, getD_none (by omega)]; rfl
    -- the word
    have hU : (decide ((L : Int) ≤ 64) = true ∧ (n_Uint a).2 = true ∧ ((n_Uint a).1 != [((wv a % 18446744073709551616 : Nat) : Int)].getD (Int.toNat 0) 0) = false) ∨
        (decide ((L : Int) ≤ 64) = false ∧ (n_Uint a).2 = false ∧ ((n_Uint a).1 != 0) = false) := by
      rw [u2]
      by_cases h : wv a < 18446744073709551616
      · rw [if_pos h]
        have : L ≤ 64 := hfit.2 h
        refine .inl ⟨decide_eq_true (by omega), rfl, ?_⟩
        rw [Nat.mod_eq_of_lt h]
        exact bne_self_eq_false _
      · rw [if_neg h]
        have : ¬ L ≤ 64 := fun h' => h (hfit.1 h')
        exact .inr ⟨decide_eq_false (by omega), rfl, rfl⟩
    -- what is shifted up
    have hS : (decide ((L : Int) > 0) = true ∧ decide (n > 65536 - (L : Int)) = true ∧ (((n_Shl a n).1.length : Int) == 0) = true ∧ ((n_Shl a n).2 == 20) = true) ∨
        (decide ((L : Int) > 0) = false ∧ ((L : Int) == 0) = true ∧ (((n_Shl a n).1.length : Int) == 0) = true ∧ ((n_Shl a n).2 == 0) = true) ∨
        (decide ((L : Int) > 0) = true ∧ decide (n > 65536 - (L : Int)) = false ∧ ((L : Int) == 0) = false ∧ r1_Shl_s X (N : Int) = true ∧ r2_Is_s (n_Shl a n).1 (r1_Shl X (N : Int)) = true ∧ r2_Is (n_Shl a n).1 (r1_Shl X (N : Int)) = true ∧ ((n_Shl a n).2 == 0) = true) := by
      rcases Nat.eq_zero_or_pos L with h0 | h0
      · rw [sh2 (hlen0.1 h0)]
        exact .inr (.inl ⟨decide_eq_false (by omega), bt (by omega), rfl, rfl⟩)
      · have hv : wv a ≠ 0 := fun h => by have := hlen0.2 h; omega
        rw [decide_eq_true (by omega : (L : Int) > 0)]
        by_cases h1 : n > 65536 - (L : Int)
        · rw [sh3 hv (by omega)]
          exact .inl ⟨rfl, decide_eq_true h1, rfl, rfl⟩
        · obtain ⟨k1, k2⟩ := sh4 hv (by omega)
          obtain ⟨k3, k4⟩ := hshl (k := N) (by omega)
          have k5 := hbshl (k := N) (by omega)
          have hlen : (r1_Shl X (N : Int)).length ≤ 1000000 := by rw [k3]; simp; omega
          obtain ⟨k6, k7⟩ := isT k2 (b := r1_Shl X (N : Int)) (by omega) hlen k5
          exact .inr (.inr ⟨rfl, decide_eq_false h1, bf (by omega), k4, k7, k6, by rw [k1]; rfl⟩)
    clear hgb hshl hbshl hfit hlen0 sh2 sh3 sh4 hbig u2 b2 h2 x2 x3 l3 hl hdrop lx hs hNn hn
    rcases hB with ⟨B1, B2, B3, B4⟩ | ⟨B1, B2, B3, B4⟩ | ⟨B1, B2, B4⟩ | ⟨B1, B4⟩ <;> rcases hU with ⟨U1, U2, U3⟩ | ⟨U1, U2, U3⟩ <;> rcases hS with ⟨S1, S2, S3, S4⟩ | ⟨S1, S2, S3, S4⟩ | ⟨S1, S2, S3, S4, S5, S6, S7⟩ <;>
      (have B5 : (i < 0) ∨ decide ((0 : Int) ≤ i) = true := (Int.lt_or_le i 0).imp id decide_eq_true
       rcases B5 with B5 | B5
       · first
         | (exfalso; simp at B1; omega)
         | simp only [l_NatShifts, l_NatShifts_s, l_NatShifts_t, l_NatShifts_T, works2.1, works2.2, *, Tr.val, Tr.safe, cond_true, cond_false, Bool.not_true, Bool.not_false, Bool.true_and, beq_self_eq_true, and_self, List.length_singleton, show decide ((0 : Int) < ((1 : Nat) : Int)) = true from rfl, Bool.and_true]
       · first
         | (exfalso; simp at B1; simp at B5; omega)
         | simp only [l_NatShifts, l_NatShifts_s, l_NatShifts_t, l_NatShifts_T, works2.1, works2.2, *, Tr.val, Tr.safe, cond_true, cond_false, Bool.not_true, Bool.not_false, Bool.true_and, beq_self_eq_true, and_self, List.length_singleton, show decide ((0 : Int) < ((1 : Nat) : Int)) = true from rfl, Bool.and_true])
end Go.Fb
namespace Go.Fb
open Go.Ev
theorem shr63 {n j : Nat} (hj : j ≤ 64) : shrI .i64 (n : Int) (j : Int) = ((n / 2 ^ j : Nat) : Int) := by
  unfold shrI
  rw [Int.toNat_natCast, show IntKind.i64.bits = 64 from rfl, Nat.min_eq_left hj, Int.fdiv_eq_ediv_of_nonneg _ (by exact Int.natCast_nonneg (2 ^ j))]
  rw [Int.natCast_ediv]; simp
theorem and1_63 {m : Nat} (h : m < 9223372036854775808) : bitsI .and .i64 (m : Int) 1 = ((m % 2 : Nat) : Int) := by
  unfold bitsI
  have e1 : (BitVec.ofInt IntKind.i64.bits (m : Int)).toNat = m := by
    rw [BitVec.toNat_ofInt]
    show ((m : Int) % ((2 ^ 64 : Nat) : Int)).toNat = m
    rw [show (2 ^ 64 : Nat) = 18446744073709551616 from rfl]; omega
  have e2 : (BitVec.ofInt IntKind.i64.bits (1 : Int)).toNat = 1 := rfl
  simp only [BitVec.toNat_and, e1, e2, Nat.and_one_is_mod]
  exact w64 (by omega) (by omega)
theorem pow32k (k : Nat) : (4294967296 : Nat) ^ k = 2 ^ (32 * k) := by rw [Nat.pow_mul]
theorem len32k {l : List Int} {v n k E : Nat} (h : NumIs l v n) (hE : E = 32 * k) (hv : v < 2 ^ E) : NumIs l v k := h.len (by rw [pow32k, ← hE]; exact hv)
theorem pow_run {E : Nat} (hE : E = 32 * 2048) {x n : Nat} {by' : List Int} (hb : NumIs by' x 2) (hn : n < 9223372036854775808) (z1 : Int) (z2 z3 z4 : Bool) : ∀ (j : Nat) (out : List Int), j ≤ 64 → NumIs out (x ^ (n / 2 ^ j)) 2048 →
    (∃ out', runL (n_Pow_L0_step ((n : Int), z1, by', z2, z3, z4)) (j + 1) (out, (j : Int) - 1) = some (.inl (out', -1)) ∧ NumIs out' (x ^ n) 2048) ∨
    (∃ t, runL (n_Pow_L0_step ((n : Int), z1, by', z2, z3, z4)) (j + 1) (out, (j : Int) - 1) = some (.inr 20) ∧ ¬ x ^ (n / 2 ^ t) < 2 ^ E)
  | 0, out, _, ho => by
    refine .inl ⟨out, runL_out (Tr.is_br_f (df (by first | omega | (dsimp only; omega))) (Tr.is_leaf rfl)), ?_⟩
    rwa [Nat.pow_zero, Nat.div_one] at ho
  | j + 1, out, hj, ho => by
    have e0 : ((j + 1 : Nat) : Int) - 1 = (j : Int) := by omega
    have e4 : IntKind.i64.wrap ((j : Int) - 1) = (j : Int) - 1 := w64 (by omega) (by omega)
    have hdm := div_step n j
    obtain ⟨ow, oz, ov, ol⟩ := ho
    obtain ⟨bw, bz, bv', bl⟩ := hb
    obtain ⟨m1, mw, mz, mv, ml⟩ := nmul_spec ow ow (by omega)
    rw [ov, ← Nat.pow_add, ← Nat.two_mul] at mv
    have hbit : bitsI BinOp.and IntKind.i64 (shrI IntKind.i64 (n : Int) (j : Int)) 1 = ((n / 2 ^ j % 2 : Nat) : Int) := by
      rw [shr63 (by omega), and1_63 (Nat.lt_of_le_of_lt (Nat.div_le_self _ _) hn)]
    have c0 : decide ((j : Int) ≥ 0) = true := dt (by omega)
    have c1 : decide ((0 : Int) ≤ (j : Int)) = true := dt (by omega)
    -- on with a number of that value
    have go : ∀ (o : List Int) (k : Nat), NumIs o (x ^ (n / 2 ^ j)) k → k ≤ 10000 → (∀ v, Tr.Is (.ast (n_Len_s o) (.br (decide (n_Len o > 65536)) (.leaf (.inr (.inr 20))) (.leaf (.inl (o, IntKind.i64.wrap ((j : Int) - 1)))))) v → Tr.Is (n_Pow_L0_step ((n : Int), z1, by', z2, z3, z4) (out, (j : Int))) v) →
        (∃ out', runL (n_Pow_L0_step ((n : Int), z1, by', z2, z3, z4)) (j + 1 + 1) (out, (j : Int)) = some (.inl (out', -1)) ∧ NumIs out' (x ^ n) 2048) ∨
        (∃ t, runL (n_Pow_L0_step ((n : Int), z1, by', z2, z3, z4)) (j + 1 + 1) (out, (j : Int)) = some (.inr 20) ∧ ¬ x ^ (n / 2 ^ t) < 2 ^ E) := by
      intro o k hok hk2 htree
      obtain ⟨q1, q2, q3, q4⟩ := hok
      obtain ⟨l1, l, l2, l3⟩ := nlen_spec q1 (by omega)
      rw [q3] at l3
      have hfit := lenIs_le_iff (m := E) l3
      by_cases hl : l ≤ E
      · have hv := hfit.1 hl
        have hnx : NumIs o (x ^ (n / 2 ^ j)) 2048 := len32k ⟨q1, q2, q3, q4⟩ hE hv
        have hstep := htree (.inl (o, (j : Int) - 1)) (Tr.is_ast l1 (Tr.is_br_f (df (by rw [l2]; omega)) (Tr.is_leaf (by rw [e4]))))
        rw [runL_next hstep]
        exact pow_run hE ⟨bw, bz, bv', bl⟩ hn z1 z2 z3 z4 j o (by omega) hnx
      · have hstep := htree (.inr (.inr 20)) (Tr.is_ast l1 (Tr.is_br_t (dt (by rw [l2]; omega)) (Tr.is_leaf rfl)))
        exact .inr ⟨j, runL_out hstep, fun h => hl (hfit.2 h)⟩
    rw [e0]
    rcases Nat.mod_two_eq_zero_or_one (n / 2 ^ j) with h2 | h2
    · refine go (n_Mul out out) (out.length + out.length) ⟨mw, mz, ?_, ml⟩ (by omega) fun v hv => ?_
      · rw [mv, hdm, h2]; rfl
      · refine Tr.is_br_t c0 (Tr.is_ast m1 (Tr.is_ast c1 (Tr.is_br_f ?_ hv)))
        show (bitsI BinOp.and IntKind.i64 (shrI IntKind.i64 (n : Int) (j : Int)) 1 == 1) = false
        rw [hbit, h2]; rfl
    · obtain ⟨p1, pw, pz, pv, pl⟩ := nmul_spec mw bw (by omega)
      refine go (n_Mul (n_Mul out out) by') _ ⟨pw, pz, ?_, Nat.le_refl _⟩ (by omega) fun v hv => ?_
      · rw [pv, mv, bv', ← Nat.pow_succ, hdm, h2]
      · refine Tr.is_br_t c0 (Tr.is_ast m1 (Tr.is_ast c1 (Tr.is_br_t ?_ (Tr.is_ast p1 hv))))
        show (bitsI BinOp.and IntKind.i64 (shrI IntKind.i64 (n : Int) (j : Int)) 1 == 1) = true
        rw [hbit, h2]; rfl
/-- a power, or 'too long' -/
theorem npow_spec {x : Nat} (hx : x < 18446744073709551616) {n : Int} (hn : -9223372036854775808 ≤ n ∧ n ≤ 9223372036854775807) : n_Pow_s (x : Int) n = true ∧
    ((∃ l, n_Pow (x : Int) n = (l, 0) ∧ NumIs l (x ^ n.toNat) 2048) ∨ (n_Pow (x : Int) n = ([], 20) ∧ 1 < x ∧ 120 < n)) := by
  suffices h : ∃ v, Tr.Is (n_Pow_t (x : Int) n) v ∧ ((∃ l, v = (l, 0) ∧ NumIs l (x ^ n.toNat) 2048) ∨ (v = ([], 20) ∧ 1 < x ∧ 120 < n)) by
    obtain ⟨v, ⟨h1, h2⟩, h3⟩ := h
    refine ⟨h2, ?_⟩
    have e : n_Pow (x : Int) n = v := h1
    rw [e]; exact h3
  obtain ⟨o1, o2⟩ := nnew_spec (x := 1) ⟨by omega, by omega⟩
  obtain ⟨x1, x2⟩ := nnew_spec (x := (x : Int)) ⟨by omega, by omega⟩
  rw [Int.toNat_natCast] at x2
  have big : ∀ {l v k}, NumIs l v k → k ≤ 2048 → NumIs l v 2048 := fun h hk => ⟨h.1, h.2.1, h.2.2.1, Nat.le_trans h.2.2.2 hk⟩
  by_cases h0 : n ≤ 0
  · refine ⟨_, Tr.is_ast o1 (Tr.is_ast x1 (Tr.is_br_t (dt h0) (Tr.is_leaf rfl))), .inl ⟨_, rfl, ?_⟩⟩
    rw [show n.toNat = 0 by omega, Nat.pow_zero]
    exact big o2 (by omega)
  obtain ⟨k, rfl⟩ : ∃ k : Nat, n = (k : Int) := ⟨n.toNat, by omega⟩
  rw [Int.toNat_natCast]
  by_cases h2 : x < 2
  · refine ⟨_, Tr.is_ast o1 (Tr.is_ast x1 (Tr.is_br_f (df h0) (Tr.is_br_t (dt (by omega)) (Tr.is_leaf rfl)))), .inl ⟨_, rfl, ?_⟩⟩
    have : x ^ k = x := by
      obtain ⟨k, rfl⟩ : ∃ m, k = m + 1 := ⟨k - 1, by omega⟩
      rcases (by omega : x = 0 ∨ x = 1) with rfl | rfl
      · simp
      · simp
    rw [this]; exact big x2 (by omega)
  by_cases h3 : (k : Int) > 65536
  · exact ⟨_, Tr.is_ast o1 (Tr.is_ast x1 (Tr.is_br_f (df h0) (Tr.is_br_f (df (by omega)) (Tr.is_br_t (dt h3) (Tr.is_leaf rfl))))), .inr ⟨rfl, by omega, by omega⟩⟩
  obtain ⟨l1, l, l2, l3⟩ := nlen_spec x2.1 (by have := x2.2.2.2; omega)
  rw [x2.2.2.1] at l3
  have hl64 : l ≤ 64 := lenIs_le l3 hx
  have hl1 : 1 ≤ l := by
    rcases Nat.eq_zero_or_pos l with h | h
    · have := (lenIs_nought l3).1 h; omega
    · exact h
  have hprod : (l - 1) * k ≤ 63 * 65536 := Nat.mul_le_mul (by omega) (by omega)
  have ew : IntKind.i64.wrap (IntKind.i64.wrap (n_Len (n_New (x : Int)) - 1) * (k : Int)) = (((l - 1) * k : Nat) : Int) := by
    rw [l2, w64 (n := (l : Int) - 1) (by omega) (by omega), show (l : Int) - 1 = ((l - 1 : Nat) : Int) by omega, ← Int.natCast_mul, w64 (by omega) (by omega)]
  by_cases h4 : (((l - 1) * k : Nat) : Int) ≥ 65536
  · refine ⟨_, Tr.is_ast o1 (Tr.is_ast x1 (Tr.is_br_f (df h0) (Tr.is_br_f (df (by omega)) (Tr.is_br_f (df h3) (Tr.is_ast l1 (Tr.is_br_t (dt (by rw [ew]; exact h4)) (Tr.is_leaf rfl))))))), .inr ⟨rfl, by omega, ?_⟩⟩
    rcases Nat.lt_or_ge 120 k with h | h
    · omega
    · have : (l - 1) * k ≤ 63 * 120 := Nat.mul_le_mul (by omega) h
      omega
  obtain ⟨q, hq, hql, hq64⟩ := len64_spec (k := k) (by omega)
  have eq0 : IntKind.i64.wrap (bits_Len (IntKind.u64.wrap (k : Int)) - 1) = (q : Int) - 1 := by
    rw [u64i (n := (k : Int)) (by omega) (by omega)]
    have : bits_Len (k : Int) = bits_Len64 (k : Int) := rfl
    rw [this, hq, w64 (by omega) (by omega)]
  have hstart : NumIs (n_New 1) (x ^ (k / 2 ^ q)) 2048 := by
    rw [Nat.div_eq_of_lt hql.1, Nat.pow_zero]
    exact big o2 (by omega)
  have base : ∀ v, Tr.Is (.ast (n_Pow_L0_ok ((k : Int), 0, n_New (x : Int), false, false, false) (n_New 1, (q : Int) - 1))
      (.br (n_Pow_L0_rt ((k : Int), 0, n_New (x : Int), false, false, false) (n_New 1, (q : Int) - 1))
        (.leaf ([], n_Pow_L0_rv ((k : Int), 0, n_New (x : Int), false, false, false) (n_New 1, (q : Int) - 1)))
        (.leaf ((n_Pow_L0_v ((k : Int), 0, n_New (x : Int), false, false, false) (n_New 1, (q : Int) - 1)).1, 0)))) v → Tr.Is (n_Pow_t (x : Int) (k : Int)) v := by
    intro v hv
    refine Tr.is_ast o1 (Tr.is_ast x1 (Tr.is_br_f (df h0) (Tr.is_br_f (df (by omega)) (Tr.is_br_f (df h3) (Tr.is_ast l1 (Tr.is_br_f (df (by rw [ew]; exact h4)) ?_))))))
    rw [eq0]; exact hv
  obtain ⟨E, hE⟩ : ∃ E : Nat, E = 32 * 2048 := ⟨_, rfl⟩
  rcases pow_run hE x2 (n := k) (by omega) 0 false false false q (n_New 1) hq64 hstart with ⟨out, hr, hout⟩ | ⟨t, hr, hbig⟩
  · have hr : n_Pow_L0_r ((k : Int), 0, n_New (x : Int), false, false, false) (n_New 1, (q : Int) - 1) = some (.inl (out, -1)) := runB_of hr (by omega)
    refine ⟨_, base _ (Tr.is_ast ?_ (Tr.is_br_f ?_ (Tr.is_leaf rfl))), .inl ⟨out, ?_, hout⟩⟩
    · unfold n_Pow_L0_ok; rw [hr]; rfl
    · unfold n_Pow_L0_rt; rw [hr]; rfl
    · unfold n_Pow_L0_v; rw [hr]; rfl
  · have hr : n_Pow_L0_r ((k : Int), 0, n_New (x : Int), false, false, false) (n_New 1, (q : Int) - 1) = some (.inr 20) := runB_of hr (by omega)
    refine ⟨_, base _ (Tr.is_ast ?_ (Tr.is_br_t ?_ (Tr.is_leaf rfl))), .inr ⟨?_, by omega, ?_⟩⟩
    · unfold n_Pow_L0_ok; rw [hr]; rfl
    · unfold n_Pow_L0_rt; rw [hr]; rfl
    · unfold n_Pow_L0_rv; rw [hr]; rfl
    · rcases Nat.lt_or_ge 120 k with h | h
      · omega
      · refine absurd ?_ hbig
        have h5 : x ^ (k / 2 ^ t) ≤ (2 ^ 64) ^ (k / 2 ^ t) := Nat.pow_le_pow_left (by rw [show 2 ^ 64 = 18446744073709551616 from rfl]; omega) _
        rw [← Nat.pow_mul] at h5
        refine Nat.lt_of_le_of_lt h5 (Nat.pow_lt_pow_right (by decide) ?_)
        have := Nat.div_le_self k (2 ^ t)
        omega
theorem rpow_run {X : List Bool} {x n : Nat} (hX : bv X = x) (hXl : X.length ≤ 64) (hn : n ≤ 120) (z0 : Int) (z1 z2 : Bool) (z3 : List Int) (z4 : Int) (z5 z6 : Bool) : ∀ (m i : Nat) (out : List Bool), i + m = n → bv out = x ^ i → out.length ≤ 64 * i + 64 →
    ∃ out', runL (l_NatPowers_L0_step (z0, (n : Int), z1, z2, z3, z4, X, z5, z6)) (m + 1) (out, (i : Int)) = some (out', (n : Int)) ∧ bv out' = x ^ n ∧ out'.length ≤ 64 * n + 64
  | 0, i, out, hi, hv, hl => by
    have : i = n := by omega
    subst this
    exact ⟨out, runL_out (Tr.is_br_f (df (by first | omega | (dsimp only; omega))) (Tr.is_leaf rfl)), hv, hl⟩
  | m + 1, i, out, hi, hv, hl => by
    have e4 : IntKind.i64.wrap ((i : Int) + 1) = ((i + 1 : Nat) : Int) := wnext (by omega)
    obtain ⟨m1, m2, m3⟩ := mul_spec (a := out) (b := X) (by omega)
    obtain ⟨l, t1, t2, t3, t4, t5, t6⟩ := trim_spec (a := r1_Mul out X) (by omega)
    rw [m2, hv, hX, ← Nat.pow_succ] at t4
    obtain ⟨out', h1, h2, h3⟩ := rpow_run hX hXl hn z0 z1 z2 z3 z4 z5 z6 m (i + 1) ((r1_Mul out X).take l) (by omega) t4 (by omega)
    refine ⟨out', ?_, h2, h3⟩
    rw [← h1]
    refine runL_next (Tr.is_br_t (dt (by first | omega | (dsimp only; omega))) (Tr.is_ast m1 (Tr.is_ast t1 (Tr.is_ast ?_ (Tr.is_leaf ?_)))))
    · dsimp only; rw [t2]; simp; exact t3
    · dsimp only; rw [t2, e4]; simp
theorem NatPowers_both {x n : Int} (hx : Wd x) (hn : -9223372036854775808 ≤ n ∧ n ≤ 9223372036854775807) : l_NatPowers x n = true ∧ l_NatPowers_s x n = true := by
  unfold Wd at hx
  obtain ⟨k, rfl⟩ : ∃ k : Nat, x = (k : Int) := ⟨x.toNat, by omega⟩
  obtain ⟨p1, p2⟩ := npow_spec (x := k) (by omega) hn
  suffices h : Tr.Is (l_NatPowers_t (k : Int) n) true from h
  refine Tr.is_ast works2.2 (Tr.is_br_f (by rw [works2.1]; rfl) (Tr.is_ast p1 ?_))
  by_cases h120 : n > 120
  · refine Tr.is_br_t (dt h120) (Tr.is_br_t works2.1 ?_)
    rcases p2 with ⟨l, hl, _⟩ | ⟨hl, hx1, _⟩
    · by_cases hx1 : (k : Int) > 1
      · exact Tr.is_br_t (dt hx1) (Tr.is_br_t (by rw [hl]; rfl) (Tr.is_leaf rfl))
      · exact Tr.is_br_f (df hx1) (Tr.is_br_t (by rw [hl]; rfl) (Tr.is_br_t (by rw [hl]; rfl) (Tr.is_leaf rfl)))
    · exact Tr.is_br_t (dt (by omega)) (Tr.is_br_f (by rw [hl]; rfl) (Tr.is_br_t (by rw [hl]; rfl) (Tr.is_leaf (by rw [hl]; rfl))))
  · rcases p2 with ⟨l, hl, hlv⟩ | ⟨_, _, h⟩
    · obtain ⟨o1, o2, o3⟩ := of1_spec (x := 1) ⟨by omega, by omega⟩
      obtain ⟨x1, x2⟩ := nnew_spec (x := (k : Int)) ⟨by omega, by omega⟩
      rw [Int.toNat_natCast] at x2
      obtain ⟨b1, b2, b3⟩ := bits2_spec x2.1 (by have := x2.2.2.2; omega)
      rw [x2.2.2.1] at b2 b3
      have hbl : (r2_Bits (n_New (k : Int))).length ≤ 64 := (lenIs_le_iff b3).2 (by rw [show 2 ^ 64 = 18446744073709551616 from rfl]; omega)
      have hloop : ∃ out' j, l_NatPowers_L0_r ((k : Int), n, false, l2_works, (n_Pow (k : Int) n).1, (n_Pow (k : Int) n).2, r2_Bits (n_New (k : Int)), false, false) (r1_Of1 1, 0) = some (out', j) ∧ bv out' = k ^ n.toNat ∧ out'.length ≤ 100000 := by
        by_cases h0 : n ≤ 0
        · refine ⟨r1_Of1 1, 0, runB_of (n := 1) (runL_out (Tr.is_br_f (df (by first | omega | (dsimp only; omega))) (Tr.is_leaf rfl))) (by omega), ?_, by omega⟩
          rw [o3, show n.toNat = 0 by omega]; rfl
        · obtain ⟨m, rfl⟩ : ∃ m : Nat, n = (m : Int) := ⟨n.toNat, by omega⟩
          obtain ⟨out', r1, r2, r3⟩ := rpow_run (x := k) b2 hbl (n := m) (by omega) (k : Int) false l2_works (n_Pow (k : Int) (m : Int)).1 (n_Pow (k : Int) (m : Int)).2 false false m 0 (r1_Of1 1) (by omega) (by rw [o3]; rfl) (by omega)
          exact ⟨out', _, runB_of r1 (by omega), by rw [Int.toNat_natCast]; exact r2, by omega⟩
      obtain ⟨out', j, hr, hv, hlen⟩ := hloop
      obtain ⟨i1, i2⟩ := isT (b := out') hlv (by omega) (by omega) hv
      obtain ⟨i3, i4⟩ := isT (b := r2_Bits (n_New (k : Int))) x2 (by omega) (by omega) b2
      have q0 : l_NatPowers_L0_ok ((k : Int), n, false, l2_works, (n_Pow (k : Int) n).1, (n_Pow (k : Int) n).2, r2_Bits (n_New (k : Int)), false, false) (r1_Of1 1, 0) = true := by unfold l_NatPowers_L0_ok; rw [hr]; rfl
      have q1 : (l_NatPowers_L0_v ((k : Int), n, false, l2_works, (n_Pow (k : Int) n).1, (n_Pow (k : Int) n).2, r2_Bits (n_New (k : Int)), false, false) (r1_Of1 1, 0)).1 = out' := by unfold l_NatPowers_L0_v; rw [hr]; rfl
      have q2 : (n_Pow (k : Int) n).1 = l := by rw [hl]
      refine Tr.is_br_f (df h120) (Tr.is_ast o1 (Tr.is_ast x1 (Tr.is_ast b1 (Tr.is_ast q0 (Tr.is_ast ?_ (Tr.is_br_t works2.1 (Tr.is_br_t ?_ (Tr.is_br_t (by rw [hl]; rfl) (Tr.is_ast x1 (Tr.is_ast i4 (Tr.is_leaf i3)))))))))))
      · rw [q1, q2]; exact i2
      · rw [q1, q2]; exact i1
    · omega
end Go.Fb
namespace Go.Fb
open Go.Ev
def lv : List Nat → Nat
  | [] => 0
  | d :: l => d + 10 * lv l
def Dg (l : List Nat) : Prop := ∀ d ∈ l, d < 10
def Nzd (l : List Nat) : Prop := ∀ a x, l = a ++ [x] → x ≠ 0
def chI (d : Nat) : Int := ((48 + d : Nat) : Int)
def chU (d : Nat) : UInt8 := UInt8.ofNat (48 + d)
theorem lv_snoc : ∀ (a : List Nat) (x : Nat), lv (a ++ [x]) = lv a + 10 ^ a.length * x
  | [], x => by simp [lv]
  | d :: a, x => by
    simp only [List.cons_append, lv, lv_snoc a x, List.length_cons, Nat.pow_succ]
    rw [Nat.mul_add, ← Nat.mul_assoc, Nat.mul_comm 10 (10 ^ a.length)]
    omega
theorem lv_inj : ∀ {a b : List Nat}, Dg a → Dg b → Nzd a → Nzd b → lv a = lv b → a = b := by
  have key : ∀ {a : List Nat}, Nzd a → lv a = 0 → a = [] := by
    intro a
    induction a with
    | nil => intros; rfl
    | cons x l ih =>
      intro hn h
      simp only [lv] at h
      have hl := ih (fun b y hy => hn (x :: b) y (by rw [hy]; rfl)) (by omega)
      subst hl
      have := hn [] x rfl
      omega
  intro a
  induction a with
  | nil => intro b _ _ _ hnb h; exact (key hnb h.symm).symm
  | cons x l ih =>
    intro b ha hb hna hnb h
    cases b with
    | nil => exact key hna h
    | cons y m =>
      simp only [lv] at h
      have hx := ha x (by simp)
      have hy := hb y (by simp)
      have e : x = y := by omega
      subst e
      have : lv l = lv m := by omega
      rw [ih (fun d hd => ha d (by simp [hd])) (fun d hd => hb d (by simp [hd])) (fun b z hz => hna (x :: b) z (by rw [hz]; rfl)) (fun b z hz => hnb (x :: b) z (by rw [hz]; rfl)) this]
/-- the digits of a number -/
def TextIs (s : List UInt8) (v : Nat) : Prop := ∃ l : List Nat, Dg l ∧ Nzd l ∧ lv l = v ∧ s = if l.isEmpty then [48] else (l.map chU).reverse
theorem TextIs.unique {s t : List UInt8} {v : Nat} (h : TextIs s v) (k : TextIs t v) : s = t := by
  obtain ⟨l, h1, h2, h3, rfl⟩ := h
  obtain ⟨m, k1, k2, k3, rfl⟩ := k
  rw [lv_inj h1 k1 h2 k2 (by omega)]
theorem nzd_len {l : List Nat} (h : Nzd l) {v k : Nat} (hv : lv l = v) (hk : v < 10 ^ k) : l.length ≤ k := by
  rcases List.eq_nil_or_concat l with rfl | ⟨a, x, hx⟩
  · exact Nat.zero_le _
  · have hx' : l = a ++ [x] := by simpa using hx
    have h0 := h a x hx'
    rw [hx', lv_snoc] at hv
    have h1 : 10 ^ a.length < 10 ^ k := by
      refine Nat.lt_of_le_of_lt ?_ hk
      rw [← hv]
      exact Nat.le_trans (Nat.le_mul_of_pos_right _ (by omega)) (Nat.le_add_left _ _)
    have := (Nat.pow_lt_pow_iff_right (by decide : 1 < 10)).1 h1
    rw [hx']; simp; omega
theorem chI_wrap {d : Nat} (h : d < 10) : IntKind.u8.wrap (IntKind.u64.wrap (48 + (d : Int))) = chI d := by
  rw [u64i (by omega) (by omega), show (48 : Int) + (d : Int) = ((48 + d : Nat) : Int) by omega, u8i (by omega)]
  rfl
theorem chI_to (d : Nat) : UInt8.ofNat (chI d).toNat = chU d := by unfold chI chU; rw [Int.toNat_natCast]
theorem text_inner {V Q : Nat} (z0 : List Int) (z1 : List UInt8) (z2 z3 : List Int) (z4 : Int) (z5 : Bool) (z6 z7 z8 z9 : List Int) (z10 : Int) : ∀ (m i x : Nat) (l : List Nat), i + m = 9 → x < 10 ^ m → l.length ≤ 1000000 + i → Dg l → lv l + 10 ^ l.length * (x + 10 ^ m * Q) = V →
    ∃ l' : List Nat, runL (n_Text_L1_step (z0, z1, z2, z3, z4, z5, z6, z7, z8, z9, z10)) (m + 1) ((x : Int), (i : Int), l.map chI) = some (0, 9, l'.map chI) ∧ Dg l' ∧ l'.length = l.length + m ∧ lv l' + 10 ^ l'.length * Q = V
  | 0, i, x, l, hi, hx, hl, hd, hv => by
    have h9 : i = 9 := by omega
    have h0 : x = 0 := by simpa using hx
    subst h9; subst h0
    refine ⟨l, runL_out (Tr.is_br_f (df (by first | omega | (dsimp only; omega))) (Tr.is_leaf rfl)), hd, rfl, ?_⟩
    simpa using hv
  | m + 1, i, x, l, hi, hx, hl, hd, hv => by
    have e4 : IntKind.i64.wrap ((i : Int) + 1) = ((i + 1 : Nat) : Int) := wnext (by omega)
    have hx9 : x < 1000000000 := Nat.lt_of_lt_of_le hx (Nat.pow_le_pow_right (n := 10) (by decide) (by omega : m + 1 ≤ 9))
    have hm10 : x % 10 < 10 := Nat.mod_lt _ (by decide)
    have ed := (ndm (T := x) (d := 10)).1
    have em := (ndm (T := x) (d := 10)).2
    have hdm := Nat.div_add_mod x 10
    have hdig : Dg (l ++ [x % 10]) := fun d hd' => by
      rcases List.mem_append.1 hd' with h | h
      · exact hd d h
      · simp at h; omega
    obtain ⟨l', h1, h2, h3, h4⟩ := text_inner (V := V) (Q := Q) z0 z1 z2 z3 z4 z5 z6 z7 z8 z9 z10 m (i + 1) (x / 10) (l ++ [x % 10]) (by omega) (by rw [Nat.pow_succ] at hx; omega) (by simp; omega) hdig (by
      rw [Nat.pow_succ] at hv
      rw [lv_snoc, List.length_append, List.length_singleton, Nat.pow_succ, ← hv]
      have e1 : 10 ^ l.length * (x + 10 ^ m * 10 * Q) = 10 ^ l.length * (x % 10) + 10 ^ l.length * 10 * (x / 10 + 10 ^ m * Q) := by
        rw [Nat.mul_assoc (10 ^ l.length) 10, ← Nat.mul_add]
        congr 1
        rw [Nat.mul_add, Nat.mul_comm (10 ^ m) 10, Nat.mul_assoc 10]
        omega
      rw [e1]; omega)
    refine ⟨l', ?_, h2, by rw [h3]; simp; omega, h4⟩
    rw [← h1]
    refine runL_next (Tr.is_br_t (dt (by first | omega | (dsimp only; omega))) (Tr.is_ast ?_ (Tr.is_leaf ?_)))
    · apply dt; simp; omega
    · dsimp only
      have e5 : IntKind.u8.wrap (IntKind.u64.wrap (48 + (x : Int).tmod 10)) = chI (x % 10) := by
        rw [show (10 : Int) = ((10 : Nat) : Int) from rfl, em]; exact chI_wrap hm10
      have e6 : IntKind.u64.wrap ((x : Int).tdiv 10) = ((x / 10 : Nat) : Int) := by
        rw [show (10 : Int) = ((10 : Nat) : Int) from rfl, ed, u64i (by omega) (by omega)]
      rw [e4, e5, e6, List.map_append]; rfl
theorem text_outer {V n : Nat} (z : List UInt8) (hn : n ≤ 20000) : ∀ (k : Nat) (a : List Int) (x : Nat) (l : List Nat), x < 2 ^ k → NumIs a x n → k ≤ 100000 → l.length + 9 * k ≤ 1000000 → Dg l → lv l + 10 ^ l.length * x = V →
    ∃ a' l', runL (n_Text_L0_step z) (k + 1) (a, l.map chI) = some (a', l'.map chI) ∧ Dg l' ∧ lv l' = V ∧ l'.length ≤ 1000000 := by
  have fin : ∀ (k : Nat) (a : List Int) (l : List Nat), NumIs a 0 n → runL (n_Text_L0_step z) (k + 1) (a, l.map chI) = some (a, l.map chI) := fun k a l ha =>
    runL_out (Tr.is_br_f (by have := len_nz ha; exact this) (Tr.is_leaf rfl))
  intro k
  induction k with
  | zero =>
    intro a x l hx ha hk hl hd hv
    have : x = 0 := by simpa using hx
    subst this
    exact ⟨a, l, fin 0 a l ha, hd, by simpa using hv, by omega⟩
  | succ k ih =>
    intro a x l hx ha hk hl hd hv
    rcases Nat.eq_zero_or_pos x with h0 | h0
    · subst h0
      exact ⟨a, l, fin (k + 1) a l ha, hd, by simpa using hv, by omega⟩
    · have hnz := len_nz ha
      rw [dt h0] at hnz
      obtain ⟨aw, az, rfl, al⟩ := ha
      obtain ⟨s1, s2, s3⟩ : n_short_s a 1000000000 = true ∧ NumIs (n_short a 1000000000).1 (wv a / 1000000000) a.length ∧ NumIs (n_short a 1000000000).2 (wv a % 1000000000) 2 := nshort_spec aw (by omega) (b := 1000000000) (by decide) (by decide)
      obtain ⟨t1, t2⟩ := at_spec s3.1 (i := 0)
      obtain ⟨l', h1, h2, h3, h4⟩ := text_inner (V := V) (Q := wv a / 1000000000) (n_short a 1000000000).1 z (n_short a 1000000000).2 a (a.length : Int) true a (n_short a 1000000000).1 (n_short a 1000000000).2 (n_short a 1000000000).2 (n_at (n_short a 1000000000).2 0) 9 0 (wv a % 1000000000) l (by omega)
        (Nat.mod_lt _ (by decide)) (by omega) hd (by rw [Nat.add_comm (wv a % _), show 10 ^ 9 = 1000000000 from rfl, Nat.div_add_mod]; exact hv)
      obtain ⟨a', l2, k1, k2, k3, k4⟩ := ih (n_short a 1000000000).1 (wv a / 1000000000) l' (by rw [Nat.pow_succ] at hx; omega) ⟨s2.1, s2.2.1, s2.2.2.1, Nat.le_trans s2.2.2.2 al⟩ (by omega) (by omega) h2 h4
      refine ⟨a', l2, ?_, k2, k3, k4⟩
      have hw0 := wv_word s3.1 0
      have hd0 := s3.1.getD 0
      unfold W32 at hd0
      rw [s3.2.2.1, Nat.pow_zero, Nat.div_one, Nat.mod_eq_of_lt (by omega)] at hw0
      have ex : n_at (n_short a 1000000000).2 0 = ((wv a % 1000000000 : Nat) : Int) := by
        have t1' : n_at (n_short a 1000000000).2 0 = (n_short a 1000000000).2.getD 0 0 := t1
        rw [t1', ← hw0]; omega
      have hr : n_Text_L1_r ((n_short a 1000000000).1, z, (n_short a 1000000000).2, a, (a.length : Int), true, a, (n_short a 1000000000).1, (n_short a 1000000000).2, (n_short a 1000000000).2, n_at (n_short a 1000000000).2 0) (n_at (n_short a 1000000000).2 0, 0, l.map chI) = some (0, 9, l'.map chI) := by
        rw [ex]
        rw [ex] at h1
        exact runB_of h1 (by omega)
      rw [← k1]
      refine runL_next (Tr.is_br_t hnz (Tr.is_ast s1 (Tr.is_ast t2 (Tr.is_ast ?_ (Tr.is_leaf ?_)))))
      · show n_Text_L1_ok _ _ = true
        unfold n_Text_L1_ok; rw [hr]; rfl
      · dsimp only
        unfold n_Text_L1_v; rw [hr]; rfl
theorem getD_map_chI {l : List Nat} {i : Nat} (h : i < l.length) : (l.map chI).getD i 0 = chI (l.getD i 0) := by
  simp [List.getD, h]
theorem take_snoc {α : Type} {l : List α} {n : Nat} (d : α) (h : n < l.length) : l.take (n + 1) = l.take n ++ [l.getD n d] := by
  rw [List.take_add_one]; simp [List.getD, h]
theorem text_trim (z : List UInt8) (l : List Nat) (hl : l.length ≤ 1000000) : ∀ n : Nat, n ≤ l.length → lv (l.take n) = lv l →
    ∃ n', runL (n_Text_L2_step (z, l.map chI)) (n + 1) (0, n) = some (0, n') ∧ n' ≤ l.length ∧ lv (l.take n') = lv l ∧ Nzd (l.take n')
  | 0, _, hv => ⟨0, runL_out (Tr.is_br_f (df (by first | omega | (dsimp only; omega))) (Tr.is_leaf rfl)), Nat.zero_le _, hv, by
      intro a x h; simp at h⟩
  | n + 1, hn, hv => by
    have e4 : IntKind.i64.wrap (((n + 1 : Nat) : Int) - 1) = (n : Int) := by rw [w64 (by omega) (by omega)]; omega
    have hsn := take_snoc (l := l) (n := n) 0 (by omega)
    have ht : ∀ v, Tr.Is (.br (chI (l.getD n 0) == 48) (.leaf (.inl (0, n))) (.leaf (.inr (0, n + 1)))) v → Tr.Is (n_Text_L2_step (z, l.map chI) (0, n + 1)) v := by
      intro v hv
      refine Tr.is_br_t (dt (by first | omega | (dsimp only; omega))) (Tr.is_ast ?_ ?_)
      · dsimp only; rw [e4]; simp; omega
      · dsimp only
        have e5 : 0 + ((n : Int)).toNat = n := by simp
        rw [e4, e5, getD_map_chI (by omega)]
        by_cases hc : (chI (l.getD n 0) == 48) = true
        · rw [hc] at hv ⊢
          refine Tr.is_br_t rfl (Tr.is_ast (by simp; omega) ?_)
          exact hv
        · have hc : (chI (l.getD n 0) == 48) = false := by simpa using hc
          rw [hc] at hv ⊢
          exact hv
    by_cases h0 : l.getD n 0 = 0
    · have hc : (chI (l.getD n 0) == 48) = true := by rw [h0]; rfl
      obtain ⟨n', k1, k2, k3, k4⟩ := text_trim z l hl n (by omega) (by rw [hsn, lv_snoc, h0] at hv; simpa using hv)
      refine ⟨n', ?_, k2, k3, k4⟩
      rw [runL_next (ht (.inl (0, n)) (Tr.is_br_t hc (Tr.is_leaf rfl)))]
      exact k1
    · have hc : (chI (l.getD n 0) == 48) = false := bf (by unfold chI; omega)
      refine ⟨n + 1, runL_out (ht (.inr (0, n + 1)) (Tr.is_br_f hc (Tr.is_leaf rfl))), hn, hv, ?_⟩
      intro a x hx
      rw [hsn] at hx
      have := List.append_inj' hx rfl
      simp at this
      rw [← this.2]; exact h0
/-- what slices.Reverse has done after i rounds -/
theorem rev_run {h0 : List Int} {n : Nat} (hn : n ≤ h0.length) (hl : h0.length ≤ 1000000) : ∀ (m i : Nat) (h : List Int), 2 * i + m = n + 1 → i ≤ n → h.length = h0.length → (∀ t, t < n → h.getD t 0 = if t < i ∨ n ≤ t + i then h0.getD (n - 1 - t) 0 else h0.getD t 0) →
    ∃ h' a b, runL (s_Rev_L0_step (0, n)) (m + 1) ((i : Int), (n : Int) - 1 - (i : Int), h) = some (a, b, h') ∧ h'.length = h0.length ∧ ∀ t, t < n → h'.getD t 0 = h0.getD (n - 1 - t) 0 := by
  intro m
  induction m using Nat.strongRecOn with
  | _ m ih =>
    intro i h hm hi hlen hg
    by_cases hc : 2 * i + 1 < n
    · obtain ⟨m, rfl⟩ : ∃ k, m = k + 2 := ⟨m - 2, by omega⟩
      have e4 : IntKind.i64.wrap ((i : Int) + 1) = ((i + 1 : Nat) : Int) := wnext (by omega)
      have e5 : IntKind.i64.wrap ((n : Int) - 1 - (i : Int) - 1) = (n : Int) - 1 - ((i + 1 : Nat) : Int) := by rw [w64 (by omega) (by omega)]; omega
      have ej : ((n : Int) - 1 - (i : Int)).toNat = n - 1 - i := by omega
      have hstep : Tr.Is (s_Rev_L0_step (0, n) ((i : Int), (n : Int) - 1 - (i : Int), h)) (.inl (((i + 1 : Nat) : Int), (n : Int) - 1 - ((i + 1 : Nat) : Int), (h.set i (h.getD (n - 1 - i) 0)).set (n - 1 - i) (h.getD i 0))) := by
        refine Tr.is_br_t (dt (by first | omega | (dsimp only; omega))) (Tr.is_ast ?_ (Tr.is_ast ?_ (Tr.is_ast ?_ (Tr.is_ast ?_ (Tr.is_leaf ?_)))))
        · simp; omega
        · simp; omega
        · simp; omega
        · simp; omega
        · dsimp only
          rw [e4, e5, ej]; simp
      obtain ⟨h', a, b, k1, k2, k3⟩ := ih m (by omega) (i + 1) ((h.set i (h.getD (n - 1 - i) 0)).set (n - 1 - i) (h.getD i 0)) (by omega) (by omega) (by simp [hlen]) (by
        intro t ht
        have gi := hg i (by omega)
        have gj := hg (n - 1 - i) (by omega)
        rw [if_neg (by omega)] at gi gj
        by_cases h1 : t = n - 1 - i
        · subst h1
          rw [if_pos (by omega)]
          have e1 : ((h.set i (h.getD (n - 1 - i) 0)).set (n - 1 - i) (h.getD i 0)).getD (n - 1 - i) 0 = h.getD i 0 := by
            have h6 : n - 1 - i < h.length := by omega
            simp [List.getD, h6]
          rw [e1, gi, show n - 1 - (n - 1 - i) = i by omega]
        · rw [getD_set_ne (fun e => h1 e.symm)]
          by_cases h2 : t = i
          · subst h2
            rw [if_pos (by omega)]
            have e1 : (h.set t (h.getD (n - 1 - t) 0)).getD t 0 = h.getD (n - 1 - t) 0 := by
              have h6 : t < h.length := by omega
              simp [List.getD, h6]
            rw [e1, gj]
          · rw [getD_set_ne (fun e => h2 e.symm), hg t ht]
            by_cases h3 : t < i ∨ n ≤ t + i
            · rw [if_pos h3, if_pos (by omega)]
            · rw [if_neg h3, if_neg (by omega)])
      refine ⟨h', a, b, ?_, k2, k3⟩
      have : runL (s_Rev_L0_step (0, n)) (m + 2 + 1) ((i : Int), (n : Int) - 1 - (i : Int), h) = runL (s_Rev_L0_step (0, n)) (m + 1 + 1) (((i + 1 : Nat) : Int), (n : Int) - 1 - ((i + 1 : Nat) : Int), (h.set i (h.getD (n - 1 - i) 0)).set (n - 1 - i) (h.getD i 0)) := runL_next hstep
      rw [this]
      exact runL_more k1 _ (by omega)
    · refine ⟨h, (i : Int), (n : Int) - 1 - (i : Int), runL_out (Tr.is_br_f (df (by first | omega | (dsimp only; omega))) (Tr.is_leaf rfl)), hlen, fun t ht => ?_⟩
      rw [hg t ht]
      by_cases h3 : t < i ∨ n ≤ t + i
      · rw [if_pos h3]
      · rw [if_neg h3, show n - 1 - t = t by omega]
theorem rev_spec {h : List Int} {n : Nat} (hn : n ≤ h.length) (hl : h.length ≤ 1000000) : s_Rev_s h 0 n = true ∧ ((s_Rev h 0 n).2.drop 0).take n = (h.take n).reverse := by
  obtain ⟨h', a, b, h1, h2, h3⟩ := rev_run hn hl (n + 1) 0 h (by omega) (by omega) rfl (fun t ht => by rw [if_neg (by omega)])
  have e : IntKind.i64.wrap ((n : Int) - 1) = (n : Int) - 1 - ((0 : Nat) : Int) := by rw [w64 (by omega) (by omega)]; omega
  have hr : s_Rev_L0_r (0, n) (0, IntKind.i64.wrap ((n : Int) - 1), h) = some (a, b, h') := by
    rw [e]; exact runB_of h1 (by omega)
  have : Tr.Is (s_Rev_t h 0 n) ((), h') := by
    refine Tr.is_ast ?_ (Tr.is_leaf ?_)
    · unfold s_Rev_L0_ok; rw [hr]; rfl
    · unfold s_Rev_L0_v; rw [hr]; rfl
  refine ⟨this.2, ?_⟩
  have e2 : s_Rev h 0 n = ((), h') := this.1
  rw [e2, List.drop_zero]
  refine List.ext_getElem (by simp; omega) fun t ht1 ht2 => ?_
  have ht : t < n := by simp at ht1; omega
  have := h3 t ht
  have l1 : t < h'.length := by omega
  have l2 : n - 1 - t < h.length := by omega
  simp only [List.getD, List.getElem?_eq_getElem l1, List.getElem?_eq_getElem l2, Option.getD_some] at this
  simp only [List.getElem_take, List.getElem_reverse, List.length_take, this]
  congr 1
  omega
theorem ntext_spec {a : List Int} (ha : Wds a) (hl : a.length ≤ 1000) : n_Text_s a = true ∧ TextIs (n_Text a) (wv a) := by
  obtain ⟨t1, t2⟩ := numIs_trim (n := a.length) ha (Nat.le_refl _) (by omega)
  have hlt : wv a < 2 ^ (32 * a.length) := by rw [Nat.pow_mul]; exact wv_lt ha
  obtain ⟨a', l, h1, h2, h3, h4⟩ := text_outer (V := wv a) [] (n := a.length) (by omega) (32 * a.length) (n_trim a) (wv a) [] hlt t1 (by omega) (by simp; omega) (fun d hd => by cases hd) (by simp [lv])
  obtain ⟨n, k1, k2, k3, k4⟩ := text_trim [] l h4 l.length (Nat.le_refl _) (by rw [List.take_length])
  have hr0 : n_Text_L0_r [] (n_trim a, []) = some (a', l.map chI) := runB_of h1 (by omega)
  have hr1 : n_Text_L2_r ([], l.map chI) (0, l.length) = some (0, n) := runB_of k1 (by omega)
  have hd : Dg (l.take n) := fun d hd => h2 d (List.mem_of_mem_take hd)
  have hfin : ∀ v, Tr.Is (.br ((n : Int) == 0) (.leaf [48]) (.ast (s_Rev_s (l.map chI) 0 n) (.leaf (((((s_Rev (l.map chI) 0 n).2.drop 0).take n)).map (fun (k : Int) => UInt8.ofNat k.toNat))))) v → Tr.Is (n_Text_t a) v := by
    intro v hv
    unfold n_Text_t n_Text_T
    have e0 : (#[] : Array UInt8).toList = [] := rfl
    have q0 : n_Text_L0_ok [] (n_trim a, []) = true := by unfold n_Text_L0_ok; rw [hr0]; rfl
    have q1 : n_Text_L0_v [] (n_trim a, []) = (a', l.map chI) := by unfold n_Text_L0_v; rw [hr0]; rfl
    have q2 : n_Text_L2_ok ([], l.map chI) (0, l.length) = true := by unfold n_Text_L2_ok; rw [hr1]; rfl
    have q3 : n_Text_L2_v ([], l.map chI) (0, l.length) = (0, n) := by unfold n_Text_L2_v; rw [hr1]; rfl
    simp only [q0, q1, List.length_map, q2, q3]
    exact Tr.is_ast t2 (Tr.is_ast rfl (Tr.is_ast rfl hv))
  suffices h : ∃ v, Tr.Is (n_Text_t a) v ∧ TextIs v (wv a) by
    obtain ⟨v, h5, h6⟩ := h
    have e : n_Text a = v := h5.1
    rw [e]; exact ⟨h5.2, h6⟩
  rcases Nat.eq_zero_or_pos n with h0 | h0
  · subst h0
    refine ⟨[48], hfin _ (Tr.is_br_t rfl (Tr.is_leaf rfl)), [], (fun d hd => by cases hd), (fun a x h => by cases a <;> cases h), ?_, rfl⟩
    rw [← h3, ← k3]; rfl
  · obtain ⟨r1, r2⟩ := rev_spec (h := l.map chI) (n := n) (by simp; omega) (by simp; omega)
    refine ⟨_, hfin _ (Tr.is_br_f (bf (by omega)) (Tr.is_ast r1 (Tr.is_leaf rfl))), l.take n, hd, k4, by rw [k3, h3], ?_⟩
    have hne : (l.take n).isEmpty = false := by
      cases hc : l.take n with
      | nil => have := congrArg List.length hc; rw [List.length_take, List.length_nil] at this; omega
      | cons => rfl
    rw [r2, hne, ← List.map_take, List.map_reverse, List.map_map]
    have : ((fun (k : Int) => UInt8.ofNat k.toNat) ∘ chI) = chU := funext chI_to
    rw [this]; rfl
end Go.Fb
namespace Go.Fb
open Go.Ev
def isDig (c : UInt8) : Bool := decide (48 ≤ c.toNat) && decide (c.toNat ≤ 57)
def valS (s : List UInt8) : Nat := s.foldl (fun v c => 10 * v + (c.toNat - 48)) 0
theorem valS_snoc (s : List UInt8) (c : UInt8) : valS (s ++ [c]) = 10 * valS s + (c.toNat - 48) := by simp [valS]
theorem valS_take {s : List UInt8} {i : Nat} (h : i < s.length) : valS (s.take (i + 1)) = 10 * valS (s.take i) + ((s.getD i 0).toNat - 48) := by
  rw [take_snoc 0 h, valS_snoc]
theorem valS_lt {s : List UInt8} (h : s.all isDig = true) : valS s < 10 ^ s.length := by
  rcases List.eq_nil_or_concat s with rfl | ⟨a, x, hx⟩
  · simp [valS]
  · have hx' : s = a ++ [x] := by simpa using hx
    subst hx'
    rw [List.all_append] at h
    simp only [Bool.and_eq_true] at h
    have := valS_lt h.1
    have h2 := h.2
    simp [isDig] at h2
    rw [valS_snoc]
    simp only [List.length_append, List.length_singleton, Nat.pow_succ]
    omega
termination_by s.length
decreasing_by subst hx'; simp
theorem all_take {s : List UInt8} {i : Nat} (h : i < s.length) (hp : (s.take i).all isDig = true) (hc : isDig (s.getD i 0) = true) : (s.take (i + 1)).all isDig = true := by
  rw [take_snoc 0 h, List.all_append, hp]; simpa using hc
theorem not_all {s : List UInt8} {i : Nat} (h : i < s.length) (hc : isDig (s.getD i 0) = false) : s.all isDig = false := by
  cases hs : s.all isDig with
  | false => rfl
  | true =>
    rw [List.all_eq_true] at hs
    have := hs (s.getD i 0) (by simp [List.getD, h])
    rw [hc] at this; cases this
theorem numLen {l : List Int} {v n i : Nat} (h : NumIs l v n) (hv : v < 10 ^ i) : NumIs l v i :=
  h.len (Nat.lt_of_lt_of_le hv (Nat.pow_le_pow_left (by decide) _))
def ParseOk (s : List UInt8) : (List Int × Int × Int × Int) ⊕ Int → Prop
  | .inl (out, _, _, _) => s.all isDig = true ∧ NumIs out (valS s) s.length
  | .inr e => s.all isDig = false ∧ e = 22
theorem digit_val {c : UInt8} (h : isDig c = true) : IntKind.u8.wrap ((c.toNat : Int) - 48) = ((c.toNat - 48 : Nat) : Int) ∧ c.toNat - 48 < 10 := by
  simp [isDig] at h
  refine ⟨?_, by omega⟩
  rw [show (c.toNat : Int) - 48 = ((c.toNat - 48 : Nat) : Int) by omega]
  exact u8i (by omega)
theorem parse_run {s : List UInt8} (hs : s.length ≤ 20000) (z1 : Int) (z2 z3 : Bool) : ∀ (m i k sum : Nat) (out : List Int) (v : Nat), i + m = s.length → (s.take i).all isDig = true → k < 9 → sum < 10 ^ k → NumIs out v i → v * 10 ^ k + sum = valS (s.take i) → (i = s.length → k = 0) →
    ∃ res, runL (n_Parse_L0_step (s, z1, z2, z3, (s.length : Int))) (m + 1) (out, (sum : Int), ((10 ^ k : Nat) : Int), (i : Int)) = some res ∧ ParseOk s res
  | 0, i, k, sum, out, v, hi, hp, hk, hsum, ho, hv, hend => by
    have hi' : i = s.length := by omega
    subst hi'
    have hk0 := hend rfl
    subst hk0
    have h0 : sum = 0 := by simpa using hsum
    subst h0
    refine ⟨.inl (out, _, _, _), runL_out (Tr.is_br_f (df (by first | omega | (dsimp only; omega))) (Tr.is_leaf rfl)), ?_⟩
    rw [List.take_length] at hp hv
    have : v = valS s := by simpa using hv
    subst this
    exact ⟨hp, ho⟩
  | m + 1, i, k, sum, out, v, hi, hp, hk, hsum, ho, hv, hend => by
    have hil : i < s.length := by omega
    have e4 : IntKind.i64.wrap ((i : Int) + 1) = ((i + 1 : Nat) : Int) := wnext (by omega)
    have e9 : IntKind.i64.wrap ((s.length : Int) - 1) = (s.length : Int) - 1 := w64 (by omega) (by omega)
    have ei : ((i : Int)).toNat = i := rfl
    have c0 : decide ((i : Int) < (s.length : Int)) = true := dt (by omega)
    have c1 : (decide ((0 : Int) ≤ (i : Int)) && decide ((i : Int) < (s.length : Int))) = true := by simp; omega
    cases hc : isDig (s.getD i 0) with
    | false =>
      have hna := not_all hil hc
      by_cases hlo : (((s.getD i 0).toNat : Nat) : Int) < 48
      · refine ⟨.inr 22, runL_out (Tr.is_br_t c0 (Tr.is_ast c1 (Tr.is_br_t ?_ (Tr.is_leaf rfl)))), hna, rfl⟩
        exact dt hlo
      · refine ⟨.inr 22, runL_out (Tr.is_br_t c0 (Tr.is_ast c1 (Tr.is_br_f ?_ (Tr.is_ast c1 (Tr.is_br_t ?_ (Tr.is_leaf rfl)))))), hna, rfl⟩
        · exact df hlo
        · refine dt ?_
          show (((s.getD i 0).toNat : Nat) : Int) > 57
          simp [isDig] at hc
          simp only [List.getD] at *
          omega
    | true =>
      obtain ⟨hd1, hd2⟩ := digit_val hc
      have hcd := hc
      simp only [isDig, Bool.and_eq_true, decide_eq_true_eq] at hcd
      have hlo : ¬ (((s.getD i 0).toNat : Nat) : Int) < 48 := by omega
      have hhi : ¬ (((s.getD i 0).toNat : Nat) : Int) > 57 := by omega
      have hp' := all_take hil hp hc
      have hvt := valS_take hil
      generalize hcn : (s.getD i 0).toNat = c at *
      have hpk : 10 ^ k ≤ 100000000 := Nat.pow_le_pow_right (n := 10) (by decide) (by omega : k ≤ 8)
      have hpk1 : 10 ^ (k + 1) = 10 * 10 ^ k := by rw [Nat.pow_succ, Nat.mul_comm]
      have eby : IntKind.u64.wrap (((10 ^ k : Nat) : Int) * 10) = ((10 ^ (k + 1) : Nat) : Int) := by
        rw [hpk1]; generalize 10 ^ k = P at *; rw [u64i (by omega) (by omega)]; omega
      have esum : IntKind.u64.wrap (IntKind.u64.wrap ((sum : Int) * 10) + IntKind.u64.wrap (IntKind.u8.wrap ((c : Int) - 48))) = ((sum * 10 + (c - 48) : Nat) : Int) := by
        rw [hd1]; generalize 10 ^ k = P at *
        rw [u64i (n := (sum : Int) * 10) (by omega) (by omega), u64i (n := ((c - 48 : Nat) : Int)) (by omega) (by omega), u64i (by omega) (by omega)]; omega
      have hsum' : sum * 10 + (c - 48) < 10 ^ (k + 1) := by rw [hpk1]; omega
      have hv' : v * 10 ^ (k + 1) + (sum * 10 + (c - 48)) = valS (s.take (i + 1)) := by
        rw [hvt, ← hv, hpk1, Nat.mul_add, Nat.mul_left_comm]; omega
      have hvl := valS_lt hp'
      rw [List.length_take, Nat.min_eq_left (by omega)] at hvl
      -- the group goes over into the number
      have flush : n_New_s ((10 ^ (k + 1) : Nat) : Int) = true ∧ n_Mul_s out (n_New ((10 ^ (k + 1) : Nat) : Int)) = true ∧ n_New_s ((sum * 10 + (c - 48) : Nat) : Int) = true ∧ n_Add_s (n_Mul out (n_New ((10 ^ (k + 1) : Nat) : Int))) (n_New ((sum * 10 + (c - 48) : Nat) : Int)) = true ∧
          NumIs (n_Add (n_Mul out (n_New ((10 ^ (k + 1) : Nat) : Int))) (n_New ((sum * 10 + (c - 48) : Nat) : Int))) (valS (s.take (i + 1))) (i + 1) := by
        rw [hpk1] at *
        generalize 10 ^ k = P at *
        obtain ⟨f1, f2⟩ := nnew_spec (x := ((10 * P : Nat) : Int)) ⟨by omega, by omega⟩
        obtain ⟨g1, g2⟩ := nnew_spec (x := ((sum * 10 + (c - 48) : Nat) : Int)) ⟨by omega, by omega⟩
        rw [Int.toNat_natCast] at f2 g2
        obtain ⟨fw, fz, fv, fl⟩ := f2
        obtain ⟨gw, gz, gv, gl⟩ := g2
        obtain ⟨ow, oz, ov, ol⟩ := ho
        obtain ⟨m1, mw, mz, mv, ml⟩ := nmul_spec ow fw (by omega)
        obtain ⟨a1, a2⟩ := nadd_spec mw gw (by omega) (by omega)
        rw [mv, ov, fv, gv, hv'] at a2
        exact ⟨f1, m1, g1, a1, numLen a2 hvl⟩
      obtain ⟨f1, f2, f3, f4, f5⟩ := flush
      -- the round
      have htree : ∀ w, Tr.Is (.br (((10 ^ (k + 1) : Nat) : Int) == 1000000000) (.leaf (.inl (n_Add (n_Mul out (n_New ((10 ^ (k + 1) : Nat) : Int))) (n_New ((sum * 10 + (c - 48) : Nat) : Int)), 0, 1, ((i + 1 : Nat) : Int))))
          (.br ((i : Int) == (s.length : Int) - 1) (.leaf (.inl (n_Add (n_Mul out (n_New ((10 ^ (k + 1) : Nat) : Int))) (n_New ((sum * 10 + (c - 48) : Nat) : Int)), 0, 1, ((i + 1 : Nat) : Int))))
            (.leaf (.inl (out, ((sum * 10 + (c - 48) : Nat) : Int), ((10 ^ (k + 1) : Nat) : Int), ((i + 1 : Nat) : Int)))))) w → Tr.Is (n_Parse_L0_step (s, z1, z2, z3, (s.length : Int)) (out, (sum : Int), ((10 ^ k : Nat) : Int), (i : Int))) w := by
        intro w hw
        unfold n_Parse_L0_step n_Parse_L0_T
        simp only [ei, hcn, eby, esum, e4, e9]
        refine Tr.is_br_t c0 (Tr.is_ast c1 (Tr.is_br_f (df hlo) (Tr.is_ast c1 (Tr.is_br_f (df hhi) (Tr.is_ast c1 ?_)))))
        have add : ∀ {t : Tr ((List Int × Int × Int × Int) ⊕ ((List Int × Int × Int × Int) ⊕ Int))} {w}, Tr.Is t w → Tr.Is (.ast (n_New_s ((10 ^ (k + 1) : Nat) : Int)) (.ast (n_Mul_s out (n_New ((10 ^ (k + 1) : Nat) : Int))) (.ast (n_New_s ((sum * 10 + (c - 48) : Nat) : Int)) (.ast (n_Add_s (n_Mul out (n_New ((10 ^ (k + 1) : Nat) : Int))) (n_New ((sum * 10 + (c - 48) : Nat) : Int))) t)))) w :=
          fun h => Tr.is_ast f1 (Tr.is_ast f2 (Tr.is_ast f3 (Tr.is_ast f4 h)))
        cases hb1 : (((10 ^ (k + 1) : Nat) : Int) == 1000000000) with
        | true => rw [hb1] at hw; exact Tr.is_br_t rfl (add hw)
        | false =>
          rw [hb1] at hw
          cases hb2 : ((i : Int) == (s.length : Int) - 1) with
          | true => rw [hb2] at hw; exact Tr.is_br_f rfl (Tr.is_br_t rfl (add hw))
          | false => rw [hb2] at hw; exact Tr.is_br_f rfl (Tr.is_br_f rfl hw)
      have on : ∀ (st : Tr.Is (n_Parse_L0_step (s, z1, z2, z3, (s.length : Int)) (out, (sum : Int), ((10 ^ k : Nat) : Int), (i : Int))) (.inl (n_Add (n_Mul out (n_New ((10 ^ (k + 1) : Nat) : Int))) (n_New ((sum * 10 + (c - 48) : Nat) : Int)), 0, 1, ((i + 1 : Nat) : Int)))),
          ∃ res, runL (n_Parse_L0_step (s, z1, z2, z3, (s.length : Int))) (m + 1 + 1) (out, (sum : Int), ((10 ^ k : Nat) : Int), (i : Int)) = some res ∧ ParseOk s res := by
        intro st
        obtain ⟨res, r1, r2⟩ := parse_run hs z1 z2 z3 m (i + 1) 0 0 _ _ (by omega) hp' (by omega) (by simp) f5 (by simp) (fun _ => rfl)
        exact ⟨res, by rw [runL_next st]; exact r1, r2⟩
      by_cases hk8 : k = 8
      · subst hk8
        exact on (htree _ (Tr.is_br_t rfl (Tr.is_leaf rfl)))
      · have hne : (((10 ^ (k + 1) : Nat) : Int) == 1000000000) = false := by
          apply bf
          have : 10 ^ (k + 1) ≤ 100000000 := Nat.pow_le_pow_right (n := 10) (by decide) (by omega : k + 1 ≤ 8)
          omega
        by_cases hlast : i + 1 = s.length
        · exact on (htree _ (Tr.is_br_f hne (Tr.is_br_t (bt (by omega)) (Tr.is_leaf rfl))))
        · obtain ⟨res, r1, r2⟩ := parse_run hs z1 z2 z3 m (i + 1) (k + 1) (sum * 10 + (c - 48)) out v (by omega) hp' (by omega) hsum' ⟨ho.1, ho.2.1, ho.2.2.1, Nat.le_trans ho.2.2.2 (by omega)⟩ hv' (fun h => absurd h hlast)
          refine ⟨res, ?_, r2⟩
          rw [runL_next (htree (.inl (out, ((sum * 10 + (c - 48) : Nat) : Int), ((10 ^ (k + 1) : Nat) : Int), ((i + 1 : Nat) : Int))) (Tr.is_br_f hne (Tr.is_br_f (bf (by omega)) (Tr.is_leaf rfl))))]
          exact r1
theorem nparse_spec {s : List UInt8} (hs : s.length ≤ 20000) : n_Parse_s s = true ∧ (s ≠ [] → s.all isDig = true → ∃ out, n_Parse s = (out, 0) ∧ NumIs out (valS s) s.length) ∧ (s = [] ∨ s.all isDig = false → n_Parse s = ([], 22)) := by
  have e0 : (#[] : Array UInt8).toList = [] := rfl
  have c0 : decide ((s.length : Int) > 20000) = false := df (by omega)
  by_cases hn : s = []
  · have : Tr.Is (n_Parse_t s) ([], 22) := by
      refine Tr.is_br_f c0 (Tr.is_br_t ?_ (Tr.is_leaf rfl))
      subst hn; rfl
    exact ⟨this.2, fun h => absurd hn h, fun _ => this.1⟩
  · obtain ⟨res, h1, h2⟩ := parse_run hs 0 false false s.length 0 0 0 [] 0 (by omega) rfl (by omega) (by simp) ⟨Wds.nil, Nz.nil, rfl, Nat.le_refl _⟩ (by simp [valS]) (fun h => absurd (List.eq_nil_of_length_eq_zero h.symm) hn)
    have hr : n_Parse_L0_r (s, 0, false, false, (s.length : Int)) ([], 0, 1, 0) = some res := runB_of h1 (by omega)
    have c1 : (s == (#[] : Array UInt8).toList) = false := by
      rw [e0]; cases s with
      | nil => exact absurd rfl hn
      | cons => rfl
    match res, h2, hr with
    | .inl (out, a, b, c), ⟨h3, h4⟩, hr =>
      have : Tr.Is (n_Parse_t s) (out, 0) := by
        refine Tr.is_br_f c0 (Tr.is_br_f c1 (Tr.is_ast ?_ (Tr.is_br_f ?_ (Tr.is_leaf ?_))))
        · unfold n_Parse_L0_ok; rw [hr]; rfl
        · unfold n_Parse_L0_rt; rw [hr]; rfl
        · unfold n_Parse_L0_v; rw [hr]; rfl
      refine ⟨this.2, fun _ _ => ⟨out, this.1, h4⟩, fun h => ?_⟩
      rcases h with h | h
      · exact absurd h hn
      · rw [h3] at h; cases h
    | .inr e, ⟨h3, h4⟩, hr =>
      have : Tr.Is (n_Parse_t s) ([], 22) := by
        refine Tr.is_br_f c0 (Tr.is_br_f c1 (Tr.is_ast ?_ (Tr.is_br_t ?_ (Tr.is_leaf ?_))))
        · unfold n_Parse_L0_ok; rw [hr]; rfl
        · unfold n_Parse_L0_rt; rw [hr]; rfl
        · unfold n_Parse_L0_rv; rw [hr, h4]; rfl
      refine ⟨this.2, fun _ h => ?_, fun _ => this.1⟩
      rw [h3] at h; cases h
theorem rtext_run {ten : List Bool} (hten : bv ten = 10) (htl : ten.length = 64) (z : List UInt8) : ∀ (k : Nat) (b : List Bool) (l : List Nat), bv b < 2 ^ k → b.length ≤ 1000 → l.length + k ≤ 100000 → Dg l → (bv b = 0 → Nzd l) →
    ∃ b' l', runL (r2_Text_L0_step (z, ten)) (k + 1) (b, (l.map chU).reverse) = some (b', (l'.map chU).reverse) ∧ Dg l' ∧ Nzd l' ∧ lv l' = lv l + 10 ^ l.length * bv b := by
  intro k
  induction k with
  | zero =>
    intro b l hx hb hl hd hnz
    have h0 : bv b = 0 := by simpa using hx
    obtain ⟨n, t1, t2, t3, t4, t5, t6⟩ := trim_spec (a := b) (by omega)
    refine ⟨b, l, runL_out (Tr.is_ast t1 (Tr.is_br_f ?_ (Tr.is_leaf rfl))), hd, hnz h0, by rw [h0]; simp⟩
    rw [t2, isLen t6, df (by omega)]
  | succ k ih =>
    intro b l hx hb hl hd hnz
    obtain ⟨n, t1, t2, t3, t4, t5, t6⟩ := trim_spec (a := b) (by omega)
    rcases Nat.eq_zero_or_pos (bv b) with h0 | h0
    · refine ⟨b, l, runL_out (Tr.is_ast t1 (Tr.is_br_f ?_ (Tr.is_leaf rfl))), hd, hnz h0, by rw [h0]; simp⟩
      rw [t2, isLen t6, df (by omega)]
    · have hc : decide (r1_Len b > 0) = true := by rw [t2, isLen t6, dt (by omega)]
      obtain ⟨d1, d2, d3, d4, d5, d6⟩ := rdiv_spec (a := b) (b := ten) (by omega) (by omega) (by omega)
      rw [hten] at d3 d5
      obtain ⟨q, u1, u2, u3, u4, u5, u6⟩ := trim_spec (a := (r1_Div b ten).1) (by omega)
      rw [d3] at u4
      obtain ⟨w1, w2⟩ := words1_spec (b := (r1_Div b ten).2) (by omega)
      rw [d5, Nat.mod_eq_of_lt (by have := Nat.mod_lt (bv b) (by decide : 0 < 10); omega)] at w1
      have hm10 : bv b % 10 < 10 := Nat.mod_lt _ (by decide)
      have hdig : Dg (l ++ [bv b % 10]) := fun d hd' => by
        rcases List.mem_append.1 hd' with h | h
        · exact hd d h
        · simp at h; omega
      obtain ⟨b', l', h1, h2, h3, h4⟩ := ih ((r1_Div b ten).1.take q) (l ++ [bv b % 10]) (by rw [u4]; rw [Nat.pow_succ] at hx; omega) (by rw [u5]; omega) (by simp; omega) hdig (fun h a x hax => by
        have := (List.append_inj' hax rfl).2
        simp at this
        rw [u4] at h
        rw [← this]; omega)
      refine ⟨b', l', ?_, h2, h3, ?_⟩
      · rw [← h1]
        refine runL_next (Tr.is_ast t1 (Tr.is_br_t hc (Tr.is_ast d1 (Tr.is_ast w2 (Tr.is_ast ?_ (Tr.is_ast ?_ (Tr.is_ast u1 (Tr.is_ast ?_ (Tr.is_leaf ?_)))))))))
        · dsimp only; rw [w1]; rfl
        · apply dt; simp; omega
        · dsimp only; rw [u2]; simp; omega
        · dsimp only
          rw [u2, w1]
          have e6 : ([((bv b % 10 : Nat) : Int)].getD (Int.toNat 0) 0) = ((bv b % 10 : Nat) : Int) := rfl
          rw [e6, chI_wrap hm10, chI_to]
          simp
      · rw [h4, lv_snoc, u4, List.length_append, List.length_singleton, Nat.pow_succ, Nat.add_assoc, Nat.mul_assoc, ← Nat.mul_add, Nat.add_comm (bv b % 10), Nat.div_add_mod]
theorem rtext_spec {b : List Bool} (hb : b.length ≤ 1000) : r2_Text_s b = true ∧ TextIs (r2_Text b) (bv b) := by
  obtain ⟨o1, o2, o3⟩ := of1_spec (x := 10) ⟨by omega, by omega⟩
  obtain ⟨b', l, h1, h2, h3, h4⟩ := rtext_run (ten := r1_Of1 10) (by rw [o3]; rfl) o2 [] b.length b [] (bv_lt b) hb (by simp; omega) (fun d hd => by cases hd) (fun _ a x h => by cases a <;> cases h)
  have hr : r2_Text_L0_r ([], r1_Of1 10) (b, []) = some (b', (l.map chU).reverse) := runB_of h1 (by omega)
  have hv : lv l = bv b := by rw [h4]; simp [lv]
  have hfin : ∀ v, Tr.Is (.br ((l.map chU).reverse == ([] : List UInt8)) (.leaf [48]) (.leaf (l.map chU).reverse)) v → Tr.Is (r2_Text_t b) v := by
    intro v hv
    unfold r2_Text_t r2_Text_T
    have e0 : (#[] : Array UInt8).toList = [] := rfl
    have q0 : r2_Text_L0_ok ([], r1_Of1 10) (b, []) = true := by unfold r2_Text_L0_ok; rw [hr]; rfl
    have q1 : r2_Text_L0_v ([], r1_Of1 10) (b, []) = (b', (l.map chU).reverse) := by unfold r2_Text_L0_v; rw [hr]; rfl
    simp only [q0, q1]
    exact Tr.is_ast o1 (Tr.is_ast rfl hv)
  cases l with
  | nil =>
    have := hfin [48] (Tr.is_br_t rfl (Tr.is_leaf rfl))
    have e : r2_Text b = [48] := this.1
    rw [e]
    exact ⟨this.2, [], h2, h3, hv, rfl⟩
  | cons d l =>
    have hne : (((d :: l).map chU).reverse == ([] : List UInt8)) = false := by
      cases hc : ((d :: l).map chU).reverse with
      | nil => have := congrArg List.length hc; simp at this
      | cons => rfl
    have := hfin _ (Tr.is_br_f hne (Tr.is_leaf rfl))
    have e : r2_Text b = ((d :: l).map chU).reverse := this.1
    rw [e]
    exact ⟨this.2, d :: l, h2, h3, hv, rfl⟩
def RParseOk (s : List UInt8) : (List Bool × Int) ⊕ Bool → Prop
  | .inl (out, _) => s.all isDig = true ∧ bv out = valS s ∧ out.length ≤ 4 * s.length
  | .inr e => s.all isDig = false ∧ e = false
theorem rparse_run {s : List UInt8} (hs : s.length ≤ 1000) (z : Bool) {ten : List Bool} (hten : bv ten = 10) (htl : ten.length = 64) : ∀ (m i : Nat) (out : List Bool), i + m = s.length → (s.take i).all isDig = true → bv out = valS (s.take i) → out.length ≤ 4 * i →
    ∃ res, runL (r2_Parse_L0_step (s, z, ten)) (m + 1) (out, (i : Int)) = some res ∧ RParseOk s res
  | 0, i, out, hi, hp, hv, hl => by
    have hi' : i = s.length := by omega
    subst hi'
    rw [List.take_length] at hp hv
    exact ⟨.inl (out, _), runL_out (Tr.is_br_f (df (by first | omega | (dsimp only; omega))) (Tr.is_leaf rfl)), hp, hv, hl⟩
  | m + 1, i, out, hi, hp, hv, hl => by
    have hil : i < s.length := by omega
    have e4 : IntKind.i64.wrap ((i : Int) + 1) = ((i + 1 : Nat) : Int) := wnext (by omega)
    have ei : ((i : Int)).toNat = i := rfl
    have c0 : decide ((i : Int) < (s.length : Int)) = true := dt (by omega)
    have c1 : (decide ((0 : Int) ≤ (i : Int)) && decide ((i : Int) < (s.length : Int))) = true := by simp; omega
    cases hc : isDig (s.getD i 0) with
    | false =>
      have hna := not_all hil hc
      by_cases hlo : (((s.getD i 0).toNat : Nat) : Int) < 48
      · refine ⟨.inr false, runL_out (Tr.is_br_t c0 (Tr.is_ast c1 (Tr.is_br_t ?_ (Tr.is_leaf rfl)))), hna, rfl⟩
        exact dt hlo
      · refine ⟨.inr false, runL_out (Tr.is_br_t c0 (Tr.is_ast c1 (Tr.is_br_f ?_ (Tr.is_ast c1 (Tr.is_br_t ?_ (Tr.is_leaf rfl)))))), hna, rfl⟩
        · exact df hlo
        · refine dt ?_
          show (((s.getD i 0).toNat : Nat) : Int) > 57
          simp [isDig] at hc
          simp only [List.getD] at *
          omega
    | true =>
      obtain ⟨hd1, hd2⟩ := digit_val hc
      have hcd := hc
      simp only [isDig, Bool.and_eq_true, decide_eq_true_eq] at hcd
      have hlo : ¬ (((s.getD i 0).toNat : Nat) : Int) < 48 := by omega
      have hhi : ¬ (((s.getD i 0).toNat : Nat) : Int) > 57 := by omega
      have hp' := all_take hil hp hc
      have hvt := valS_take hil
      have hvl := valS_lt hp'
      rw [List.length_take, Nat.min_eq_left (by omega)] at hvl
      generalize hcn : (s.getD i 0).toNat = c at *
      have edig : IntKind.u64.wrap (IntKind.u8.wrap ((c : Int) - 48)) = ((c - 48 : Nat) : Int) := by rw [hd1, u64i (by omega) (by omega)]
      obtain ⟨m1, m2, m3⟩ := mul_spec (a := out) (b := ten) (by omega)
      obtain ⟨o1, o2, o3⟩ := of1_spec (x := ((c - 48 : Nat) : Int)) ⟨by omega, by omega⟩
      obtain ⟨a1, a2, a3⟩ := add_spec (a := r1_Mul out ten) (b := r1_Of1 ((c - 48 : Nat) : Int)) (by omega) (by omega)
      obtain ⟨q, t1, t2, t3, t4, t5, t6⟩ := trim_spec (a := r1_Add (r1_Mul out ten) (r1_Of1 ((c - 48 : Nat) : Int))) (by omega)
      rw [m2, o3, Int.toNat_natCast, hv, hten] at a2
      have a2' : bv (r1_Add (r1_Mul out ten) (r1_Of1 ((c - 48 : Nat) : Int))) = valS (s.take (i + 1)) := by rw [a2, hvt]; omega
      rw [a2'] at t4 t6
      have hq : q ≤ 4 * (i + 1) := lenIs_le t6 (by
        refine Nat.lt_of_lt_of_le hvl ?_
        rw [Nat.pow_mul]
        exact Nat.pow_le_pow_left (by decide) _)
      obtain ⟨res, r1, r2⟩ := rparse_run hs z hten htl m (i + 1) ((r1_Add (r1_Mul out ten) (r1_Of1 ((c - 48 : Nat) : Int))).take q) (by omega) hp' t4 (by rw [t5]; exact hq)
      refine ⟨res, ?_, r2⟩
      rw [← r1]
      refine runL_next ?_
      unfold r2_Parse_L0_step r2_Parse_L0_T
      simp only [ei, hcn, edig, e4, t2]
      refine Tr.is_br_t c0 (Tr.is_ast c1 (Tr.is_br_f (df hlo) (Tr.is_ast c1 (Tr.is_br_f (df hhi) (Tr.is_ast m1 (Tr.is_ast c1 (Tr.is_ast o1 (Tr.is_ast a1 (Tr.is_ast t1 (Tr.is_ast ?_ (Tr.is_leaf ?_)))))))))))
      · simp; omega
      · simp
theorem rparse_spec {s : List UInt8} (hs : s.length ≤ 1000) : r2_Parse_s s = true ∧ (s ≠ [] → s.all isDig = true → (r2_Parse s).2 = true ∧ bv (r2_Parse s).1 = valS s ∧ (r2_Parse s).1.length ≤ 4 * s.length) ∧ (s = [] ∨ s.all isDig = false → (r2_Parse s).2 = false) := by
  obtain ⟨o1, o2, o3⟩ := of1_spec (x := 10) ⟨by omega, by omega⟩
  obtain ⟨res, h1, h2⟩ := rparse_run hs false (ten := r1_Of1 10) (by rw [o3]; rfl) o2 s.length 0 [] (by omega) rfl rfl (by simp)
  have hr : r2_Parse_L0_r (s, false, r1_Of1 10) ([], 0) = some res := runB_of h1 (by omega)
  match res, h2, hr with
  | .inl (out, b), ⟨h3, h4, h5⟩, hr =>
    have : Tr.Is (r2_Parse_t s) (out, decide ((s.length : Int) > 0)) := by
      refine Tr.is_ast o1 (Tr.is_ast ?_ (Tr.is_br_f ?_ (Tr.is_leaf ?_)))
      · unfold r2_Parse_L0_ok; rw [hr]; rfl
      · unfold r2_Parse_L0_rt; rw [hr]; rfl
      · unfold r2_Parse_L0_v; rw [hr]; rfl
    have e : r2_Parse s = (out, decide ((s.length : Int) > 0)) := this.1
    rw [e]
    refine ⟨this.2, fun hn _ => ⟨?_, h4, h5⟩, fun h => ?_⟩
    · cases s with
      | nil => exact absurd rfl hn
      | cons => apply dt; simp
    · rcases h with h | h
      · subst h; rfl
      · rw [h3] at h; cases h
  | .inr e, ⟨h3, h4⟩, hr =>
    subst h4
    have : Tr.Is (r2_Parse_t s) ([], false) := by
      refine Tr.is_ast o1 (Tr.is_ast ?_ (Tr.is_br_t ?_ (Tr.is_leaf ?_)))
      · unfold r2_Parse_L0_ok; rw [hr]; rfl
      · unfold r2_Parse_L0_rt; rw [hr]; rfl
      · unfold r2_Parse_L0_rv; rw [hr]; rfl
    have e : r2_Parse s = ([], false) := this.1
    rw [e]
    refine ⟨this.2, fun _ h => ?_, fun _ => rfl⟩
    rw [h3] at h; cases h
theorem chU_to {d : Nat} (h : d < 10) : (chU d).toNat = 48 + d := by
  unfold chU; rw [UInt8.toNat_ofNat']; exact Nat.mod_eq_of_lt (by omega)
theorem valS_digits : ∀ {l : List Nat}, Dg l → valS (l.map chU).reverse = lv l
  | [], _ => rfl
  | d :: l, h => by
    have h1 := valS_digits (l := l) fun x hx => h x (by simp [hx])
    rw [List.map_cons, List.reverse_cons, valS_snoc, h1, chU_to (h d (by simp))]
    simp only [lv]; omega
theorem all_digits {l : List Nat} (h : Dg l) : ((l.map chU).reverse).all isDig = true := by
  rw [List.all_reverse, List.all_map, List.all_eq_true]
  intro d hd
  have := h d hd
  simp [isDig, chU_to this]; omega
theorem text_read {s : List UInt8} {v k : Nat} (h : TextIs s v) (hk : v < 10 ^ k) : s ≠ [] ∧ s.all isDig = true ∧ valS s = v ∧ s.length ≤ k + 1 := by
  obtain ⟨l, h1, h2, h3, rfl⟩ := h
  cases l with
  | nil => exact ⟨by simp, by decide, h3, by simp⟩
  | cons d l =>
    have e : ((d :: l).isEmpty) = false := rfl
    rw [e]
    refine ⟨?_, all_digits h1, ?_, ?_⟩
    · intro h; have := congrArg List.length h; simp at this
    · show valS ((d :: l).map chU).reverse = v
      rw [valS_digits h1, h3]
    · have := nzd_len h2 h3 hk
      simp at this ⊢; omega
theorem wv_lt10 {a : List Int} (ha : Wds a) {n : Nat} (h : a.length ≤ n) : wv a < 10 ^ (32 * n) :=
  Nat.lt_of_lt_of_le (wv_lt2 ha h) (Nat.pow_le_pow_left (by decide) _)
theorem NatTexts_both {a : List Int} {s : List UInt8} (ha : Wds a) : l_NatTexts a s = true ∧ l_NatTexts_s a s = true := by
  obtain ⟨s1, s2⟩ := small1 (a := a)
  suffices h : Tr.Is (l_NatTexts_t a s) true from h
  refine Tr.is_ast works2.2 (Tr.is_br_f (by rw [works2.1]; rfl) (Tr.is_ast s2 ?_))
  rcases Nat.lt_or_ge 24 a.length with hla | hla
  · exact Tr.is_br_t (by rw [s1, df (by omega)]; rfl) (Tr.is_leaf works2.1)
  refine Tr.is_br_f (by rw [s1, dt (by omega)]; rfl) ?_
  rcases Nat.lt_or_ge 200 s.length with hsl | hsl
  · exact Tr.is_br_t (dt (by omega)) (Tr.is_leaf works2.1)
  obtain ⟨t1, t2⟩ := ntext_spec ha (by omega)
  have hv := wv_lt10 ha hla
  obtain ⟨r1, r2, r3, r4⟩ := text_read t2 hv
  obtain ⟨p1, p2, _⟩ := nparse_spec (s := n_Text a) (by omega)
  obtain ⟨p, p3, p4⟩ := p2 r1 r2
  rw [r3] at p4
  obtain ⟨b1, b2, b3⟩ := bits2_spec ha (by omega)
  have bl := bits_len ha hla
  obtain ⟨u1, u2⟩ := rtext_spec (b := r2_Bits a) (by omega)
  rw [b2] at u2
  have htt := t2.unique u2
  obtain ⟨c1, c2⟩ := ncmp_spec p4.1 ha (by have := p4.2.2.2; omega) (by omega)
  rw [p4.2.2.1] at c1
  have c3 : cmpN (wv a) (wv a) = 0 := by unfold cmpN; rw [if_neg (by omega), if_pos rfl]
  rw [c3] at c1
  obtain ⟨q1, q2, q3⟩ := nparse_spec (s := s) (by omega)
  obtain ⟨w1, w2, w3⟩ := rparse_spec (s := s) (by omega)
  have e1 : (n_Parse (n_Text a)).1 = p := by rw [p3]
  have e2 : (n_Parse (n_Text a)).2 = 0 := by rw [p3]
  refine Tr.is_br_f (df (by omega)) (Tr.is_ast t1 (Tr.is_ast p1 (Tr.is_ast b1 (Tr.is_ast u1 (Tr.is_br_f (by rw [htt]; simp) (Tr.is_br_f (by rw [e2]; rfl) (Tr.is_ast (by rw [e1]; exact c2) (Tr.is_br_f (by rw [e1, c1]; rfl) (Tr.is_ast q1 (Tr.is_ast w1 ?_))))))))))
  by_cases hs : s ≠ [] ∧ s.all isDig = true
  · obtain ⟨out, q4, q5⟩ := q2 hs.1 hs.2
    obtain ⟨w4, w5, w6⟩ := w2 hs.1 hs.2
    obtain ⟨i1, i2⟩ := isT q5 (b := (r2_Parse s).1) (by omega) (by omega) w5
    exact Tr.is_br_f (by rw [w4]; rfl) (Tr.is_ast (by rw [q4]; exact i2) (Tr.is_br_t works2.1 (Tr.is_br_t (by rw [q4]; exact i1) (Tr.is_leaf (by rw [q4]; rfl)))))
  · have hs' : s = [] ∨ s.all isDig = false := by
      by_cases h : s = []
      · exact .inl h
      · exact .inr (by cases hc : s.all isDig with
          | false => rfl
          | true => exact absurd ⟨h, hc⟩ hs)
    have q4 := q3 hs'
    exact Tr.is_br_t (by rw [w3 hs']; rfl) (Tr.is_br_t works2.1 (Tr.is_br_t (by rw [q4]; rfl) (Tr.is_leaf (by rw [q4]; rfl))))
end Go.Fb
