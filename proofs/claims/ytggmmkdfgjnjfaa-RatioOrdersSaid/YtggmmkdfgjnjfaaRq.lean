/- Layer 3: the laws hold, in plain Lean. Conditions: as each theorem states. -/
import Derived.Test.YtggmmkdfgjnjfaaRl
import Derived.Test.YtggmmkdfgjnjfaaRp
namespace Go.Fb
open Go.Ev
set_option maxRecDepth 100000 in
theorem works3 : l3_works = true ∧ l3_works_s = true := by decide +kernel
end Go.Fb
namespace Go.Fb
open Go.Ev
def rowR (r : List Cv) : RR := ⟨(r.headD (Cv.i 0)).bool, (r.tail.headD (Cv.i 0)).ints, (r.tail.tail.headD (Cv.i 0)).ints⟩
def short3 (a : RR) : Bool := decide ((a.num.length : Int) ≤ 4) && decide ((a.den.length : Int) ≤ 4)
def WR (a : RR) : Prop := Wds a.num ∧ Wds a.den
theorem WR.short {a : RR} (h : WR a) (hs : short3 a = true) : RW a 4 := by
  simp only [short3, Bool.and_eq_true, decide_eq_true_eq] at hs
  exact ⟨h.1, h.2, by omega, by omega⟩
theorem small3_run {l : List (List Cv)} (hn : l.length ≤ 1000000) (z : Bool) : ∀ m i : Nat, i + m = l.length →
    runL (l3_small_L0_step (l, z)) (m + 1) (i : Int) = some (if (l.drop i).all (fun r => short3 (rowR r)) then .inl (l.length : Int) else .inr false)
  | 0, i, h => by
    have hi : i = l.length := by omega
    subst hi
    rw [List.drop_length]
    exact runL_out (Tr.is_br_f (df (by first | omega | (dsimp only; omega))) (Tr.is_leaf rfl))
  | m + 1, i, h => by
    have hi : i < l.length := by omega
    have c0 : decide ((i : Int) < (l.length : Int)) = true := dt (by omega)
    have c1 : (decide ((0 : Int) ≤ (i : Int)) && decide ((i : Int) < (l.length : Int))) = true := by simp; omega
    have e4 : IntKind.i64.wrap ((i : Int) + 1) = ((i + 1 : Nat) : Int) := wnext (by omega)
    have ei : ((i : Int)).toNat = i := rfl
    rw [drop_getD_row l hi, List.all_cons]
    by_cases h1 : ((rowR (l.getD i [])).num.length : Int) ≤ 4
    · by_cases h2 : ((rowR (l.getD i [])).den.length : Int) ≤ 4
      · have hs : short3 (rowR (l.getD i [])) = true := by simp only [short3, dt h1, dt h2, Bool.and_self]
        rw [hs, Bool.true_and, ← small3_run hn z m (i + 1) (by omega)]
        refine runL_next (Tr.is_br_t c0 (Tr.is_ast c1 (Tr.is_br_f ?_ (Tr.is_ast c1 (Tr.is_br_f ?_ (Tr.is_leaf (by rw [e4])))))))
        · exact df (by dsimp only; rw [ei]; exact Int.not_lt.2 h1)
        · exact df (by dsimp only; rw [ei]; exact Int.not_lt.2 h2)
      · have hs : short3 (rowR (l.getD i [])) = false := by simp only [short3, dt h1, df h2, Bool.and_false]
        rw [hs, Bool.false_and]
        refine runL_out (Tr.is_br_t c0 (Tr.is_ast c1 (Tr.is_br_f ?_ (Tr.is_ast c1 (Tr.is_br_t ?_ (Tr.is_leaf rfl))))))
        · exact df (by dsimp only; rw [ei]; exact Int.not_lt.2 h1)
        · exact dt (by dsimp only; rw [ei]; exact Int.not_le.1 h2)
    · have hs : short3 (rowR (l.getD i [])) = false := by simp only [short3, df h1, Bool.false_and]
      rw [hs, Bool.false_and]
      refine runL_out (Tr.is_br_t c0 (Tr.is_ast c1 (Tr.is_br_t ?_ (Tr.is_leaf rfl))))
      exact dt (by dsimp only; rw [ei]; exact Int.not_le.1 h1)
theorem small3_spec {l : List (List Cv)} (hn : l.length ≤ 1000000) : l3_small l = l.all (fun r => short3 (rowR r)) ∧ l3_small_s l = true := by
  have h1 : l3_small_L0_r (id l, false) 0 = some (if l.all (fun r => short3 (rowR r)) then .inl (l.length : Int) else .inr false) := runB_of (small3_run hn false l.length 0 (by omega)) (by omega)
  have h2 : l3_small_L0_ok (id l, false) 0 = true := by unfold l3_small_L0_ok; rw [h1]; cases l.all _ <;> rfl
  cases h : l.all (fun r => short3 (rowR r)) with
  | true =>
    rw [h] at h1
    have h3 : l3_small_L0_rt (id l, false) 0 = false := by unfold l3_small_L0_rt; rw [h1]; rfl
    exact (Tr.is_ast h2 (Tr.is_br_f h3 (Tr.is_leaf rfl)) : Tr.Is (l3_small_t l) true)
  | false =>
    rw [h] at h1
    have h3 : l3_small_L0_rt (id l, false) 0 = true := by unfold l3_small_L0_rt; rw [h1]; rfl
    have h4 : l3_small_L0_rv (id l, false) 0 = false := by unfold l3_small_L0_rv; rw [h1]; rfl
    exact (Tr.is_ast h2 (Tr.is_br_t h3 (Tr.is_leaf h4)) : Tr.Is (l3_small_t l) false)
theorem smallR2 {a b : RR} : l3_small (id [[Cv.b a.neg, Cv.l a.num, Cv.l a.den], [Cv.b b.neg, Cv.l b.num, Cv.l b.den]]) = (short3 a && short3 b) ∧ l3_small_s (id [[Cv.b a.neg, Cv.l a.num, Cv.l a.den], [Cv.b b.neg, Cv.l b.num, Cv.l b.den]]) = true := by
  obtain ⟨h1, h2⟩ := small3_spec (l := id [[Cv.b a.neg, Cv.l a.num, Cv.l a.den], [Cv.b b.neg, Cv.l b.num, Cv.l b.den]]) (by simp)
  refine ⟨?_, h2⟩
  rw [h1]
  simp [rowR, Cv.ints, Cv.bool]
theorem smallR3 {a b c : RR} : l3_small (id [[Cv.b a.neg, Cv.l a.num, Cv.l a.den], [Cv.b b.neg, Cv.l b.num, Cv.l b.den], [Cv.b c.neg, Cv.l c.num, Cv.l c.den]]) = (short3 a && (short3 b && short3 c)) ∧ l3_small_s (id [[Cv.b a.neg, Cv.l a.num, Cv.l a.den], [Cv.b b.neg, Cv.l b.num, Cv.l b.den], [Cv.b c.neg, Cv.l c.num, Cv.l c.den]]) = true := by
  obtain ⟨h1, h2⟩ := small3_spec (l := id [[Cv.b a.neg, Cv.l a.num, Cv.l a.den], [Cv.b b.neg, Cv.l b.num, Cv.l b.den], [Cv.b c.neg, Cv.l c.num, Cv.l c.den]]) (by simp)
  refine ⟨?_, h2⟩
  rw [h1]
  simp [rowR, Cv.ints, Cv.bool]
theorem RatioAdds_both {a b : RR} (ha : WR a) (hb : WR b) : l_RatioAdds a b = true ∧ l_RatioAdds_s a b = true := by
  obtain ⟨s1, s2⟩ := smallR2 (a := a) (b := b)
  suffices h : Tr.Is (l_RatioAdds_t a b) true from h
  refine Tr.is_ast works3.2 (Tr.is_br_f (by rw [works3.1]; rfl) (Tr.is_ast s2 ?_))
  cases hs : (short3 a && short3 b) with
  | false => exact Tr.is_br_t (by rw [s1, hs]; rfl) (Tr.is_leaf works3.1)
  | true =>
    simp only [Bool.and_eq_true] at hs
    have wa := ha.short hs.1
    have wb := hb.short hs.2
    obtain ⟨o1, o2⟩ := of_spec3 wa (by omega) (by omega)
    obtain ⟨p1, p2⟩ := of_spec3 wb (by omega) (by omega)
    obtain ⟨a1, a2⟩ := qadd_spec wa wb (by omega) (by omega)
    obtain ⟨b1, b2⟩ := qsub_spec wa wb (by omega) (by omega)
    obtain ⟨c1, c2⟩ := radd_spec o2 p2 (by omega) (by omega)
    obtain ⟨d1, d2⟩ := rminus_spec p2 (by omega) (by omega)
    obtain ⟨e1, e2⟩ := radd_spec o2 d2 (by omega) (by omega)
    rw [← Rat.sub_eq_add_neg] at e2
    obtain ⟨i1, i2⟩ := is_spec3 a2 c2 (by omega) (by omega)
    obtain ⟨j1, j2⟩ := is_spec3 b2 e2 (by omega) (by omega)
    exact Tr.is_br_f (by rw [s1, hs.1, hs.2]; rfl) (Tr.is_ast o1 (Tr.is_ast p1 (Tr.is_ast a1 (Tr.is_ast c1 (Tr.is_ast i2 (Tr.is_ast b1 (Tr.is_ast d1 (Tr.is_ast e1 (Tr.is_ast j2 (Tr.is_br_t works3.1 (Tr.is_br_t i1 (Tr.is_leaf j1))))))))))))
theorem RatioMuls_both {a b : RR} (ha : WR a) (hb : WR b) : l_RatioMuls a b = true ∧ l_RatioMuls_s a b = true := by
  obtain ⟨s1, s2⟩ := smallR2 (a := a) (b := b)
  suffices h : Tr.Is (l_RatioMuls_t a b) true from h
  refine Tr.is_ast works3.2 (Tr.is_br_f (by rw [works3.1]; rfl) (Tr.is_ast s2 ?_))
  cases hs : (short3 a && short3 b) with
  | false => exact Tr.is_br_t (by rw [s1, hs]; rfl) (Tr.is_leaf works3.1)
  | true =>
    simp only [Bool.and_eq_true] at hs
    have wa := ha.short hs.1
    have wb := hb.short hs.2
    obtain ⟨o1, o2⟩ := of_spec3 wa (by omega) (by omega)
    obtain ⟨p1, p2⟩ := of_spec3 wb (by omega) (by omega)
    obtain ⟨a1, a2⟩ := qmul_spec wa wb (by omega) (by omega)
    obtain ⟨b1, b2, b3⟩ := qdiv_spec wa wb (by omega) (by omega)
    obtain ⟨c1, c2⟩ := rmul_spec o2 p2 (by omega) (by omega)
    obtain ⟨i1, i2⟩ := is_spec3 a2 c2 (by omega) (by omega)
    obtain ⟨g1, g2⟩ := rsign_spec p2 (by omega)
    refine Tr.is_br_f (by rw [s1, hs.1, hs.2]; rfl) (Tr.is_ast o1 (Tr.is_ast p1 (Tr.is_ast a1 (Tr.is_ast c1 (Tr.is_ast i2 (Tr.is_ast b1 (Tr.is_ast g1 ?_)))))))
    by_cases h0 : val b = 0
    · have hq := b2 h0
      refine Tr.is_br_t (by rw [g2, cmpQ_eq h0]; rfl) (Tr.is_br_t works3.1 (Tr.is_br_t i1 (Tr.is_br_t (by rw [hq]; rfl) (Tr.is_br_t (by rw [hq]; rfl) (Tr.is_br_t (by rw [hq]; rfl) (Tr.is_leaf (by rw [hq]; rfl)))))))
    · obtain ⟨q, q1, q2⟩ := b3 h0
      obtain ⟨d1, d2⟩ := rover_spec p2 (by omega) (by omega)
      obtain ⟨e1, e2⟩ := rmul_spec o2 d2 (by omega) (by omega)
      rw [← Rat.div_def] at e2
      obtain ⟨j1, j2⟩ := is_spec3 q2 e2 (by omega) (by omega)
      have e : (q_Div a b).1 = q := by rw [q1]
      refine Tr.is_br_f (by rw [g2]; rcases cmpQ_cases (val b) 0 with ⟨x, _⟩ | ⟨_, x⟩ | ⟨x, _⟩ <;> first | exact absurd x h0 | (rw [x]; rfl)) (Tr.is_ast d1 (Tr.is_ast e1 (Tr.is_ast (by rw [e]; exact j2) (Tr.is_br_t works3.1 (Tr.is_br_t i1 (Tr.is_br_t (by rw [e]; exact j1) (Tr.is_leaf (by rw [q1]; rfl))))))))
theorem text_len {s : List UInt8} {v k : Nat} (h : TextIs s v) (hk : v < 2 ^ (32 * k)) : s.length ≤ 32 * k + 1 :=
  (text_read h (Nat.lt_of_lt_of_le hk (Nat.pow_le_pow_left (by decide) _))).2.2.2
theorem qtext_spec {a : RR} {q : RQ} {k m : Nat} (ha : RW a k) (hk : 1 ≤ k) (hk2 : k ≤ 900) (hq : QIs q (val a) m) (hm : m ≤ 1000) : q_Text_s a = true ∧ r3_Text_s q = true ∧ q_Text a = r3_Text q := by
  obtain ⟨a1, ⟨nw, nz, nv, nl⟩, ⟨dw, dz, dv, dl⟩, an⟩ := low_spec ha hk (by omega)
  obtain ⟨q1, q2, q3, q4, q5, q6, q7⟩ := hq
  obtain ⟨t1, t2⟩ := ntext_spec nw (by omega)
  obtain ⟨u1, u2⟩ := ntext_spec dw (by omega)
  obtain ⟨v1, v2⟩ := rtext_spec (b := q.num) (by omega)
  obtain ⟨w1, w2⟩ := rtext_spec (b := q.den) (by omega)
  have ln := text_len t2 (wv_lt2 nw nl)
  have ld := text_len u2 (wv_lt2 dw dl)
  rw [nv] at t2
  rw [dv] at u2
  rw [q1] at v2
  rw [q3] at w2
  have e1 := v2.unique t2
  have e2 := w2.unique u2
  obtain ⟨o1, o2⟩ := one_new
  obtain ⟨c1, c2⟩ := ncmp_spec dw o2.1 (by omega) (by have := o2.2.2.2; omega)
  obtain ⟨g1, g2⟩ := cmp_spec (a := q.den) (b := r3_one) (by omega) (by decide)
  have h1 : bv r3_one = 1 := rfl
  rw [dv, o2.2.2.1] at c1
  rw [q3, h1, ← c1] at g1
  have l1 : ∀ n : Nat, n ≤ 100000 → decide (n ≤ 9223372036854775807) = true := fun n h => dt (by omega)
  have f1 : ((#[45] : Array UInt8).toList) = [45] := rfl
  have f2 : ((#[47] : Array UInt8).toList) = [47] := rfl
  cases hn : decide (val a < 0) with
  | true =>
    rw [hn] at an q5
    cases hc : (n_Cmp (q_low a).den (n_New 1) != 0) with
    | true =>
      have A : Tr.Is (q_Text_t a) (45 :: ([] ++ n_Text (q_low a).num ++ ([47] ++ n_Text (q_low a).den))) := by
        refine Tr.is_ast a1 (Tr.is_ast t1 (Tr.is_br_t an (Tr.is_ast (l1 _ (by simp; omega)) (Tr.is_ast o1 (Tr.is_ast c2 (Tr.is_br_t hc (Tr.is_ast u1 (Tr.is_ast (l1 _ (by simp; omega)) (Tr.is_ast (l1 _ (by simp; omega)) (Tr.is_leaf rfl))))))))))
      have B : Tr.Is (r3_Text_t q) (45 :: ([] ++ n_Text (q_low a).num ++ ([47] ++ n_Text (q_low a).den))) := by
        refine Tr.is_ast v1 (Tr.is_br_t q5 (Tr.is_ast (l1 _ (by simp [e1]; omega)) (Tr.is_ast g2 (Tr.is_br_t (by rw [g1]; exact hc) (Tr.is_ast (l1 _ (by simp [e1]; omega)) (Tr.is_ast w1 (Tr.is_ast (l1 _ (by simp [e1, e2]; omega)) (Tr.is_leaf (by simp [e1, e2])))))))))
      exact ⟨A.2, B.2, A.1.trans B.1.symm⟩
    | false =>
      have A : Tr.Is (q_Text_t a) (45 :: ([] ++ n_Text (q_low a).num)) := by
        refine Tr.is_ast a1 (Tr.is_ast t1 (Tr.is_br_t an (Tr.is_ast (l1 _ (by simp; omega)) (Tr.is_ast o1 (Tr.is_ast c2 (Tr.is_br_f hc (Tr.is_leaf rfl)))))))
      have B : Tr.Is (r3_Text_t q) (45 :: ([] ++ n_Text (q_low a).num)) := by
        refine Tr.is_ast v1 (Tr.is_br_t q5 (Tr.is_ast (l1 _ (by simp [e1]; omega)) (Tr.is_ast g2 (Tr.is_br_f (by rw [g1]; exact hc) (Tr.is_leaf (by rw [e1]))))))
      exact ⟨A.2, B.2, A.1.trans B.1.symm⟩
  | false =>
    rw [hn] at an q5
    cases hc : (n_Cmp (q_low a).den (n_New 1) != 0) with
    | true =>
      have A : Tr.Is (q_Text_t a) (n_Text (q_low a).num ++ ([47] ++ n_Text (q_low a).den)) := by
        refine Tr.is_ast a1 (Tr.is_ast t1 (Tr.is_br_f an (Tr.is_ast o1 (Tr.is_ast c2 (Tr.is_br_t hc (Tr.is_ast u1 (Tr.is_ast (l1 _ (by simp; omega)) (Tr.is_ast (l1 _ (by simp; omega)) (Tr.is_leaf rfl)))))))))
      have B : Tr.Is (r3_Text_t q) (n_Text (q_low a).num ++ ([47] ++ n_Text (q_low a).den)) := by
        refine Tr.is_ast v1 (Tr.is_br_f q5 (Tr.is_ast g2 (Tr.is_br_t (by rw [g1]; exact hc) (Tr.is_ast (l1 _ (by simp [e1]; omega)) (Tr.is_ast w1 (Tr.is_ast (l1 _ (by simp [e1, e2]; omega)) (Tr.is_leaf (by simp [e1, e2]))))))))
      exact ⟨A.2, B.2, A.1.trans B.1.symm⟩
    | false =>
      have A : Tr.Is (q_Text_t a) (n_Text (q_low a).num) := by
        refine Tr.is_ast a1 (Tr.is_ast t1 (Tr.is_br_f an (Tr.is_ast o1 (Tr.is_ast c2 (Tr.is_br_f hc (Tr.is_leaf rfl))))))
      have B : Tr.Is (r3_Text_t q) (n_Text (q_low a).num) := by
        refine Tr.is_ast v1 (Tr.is_br_f q5 (Tr.is_ast g2 (Tr.is_br_f (by rw [g1]; exact hc) (Tr.is_leaf e1))))
      exact ⟨A.2, B.2, A.1.trans B.1.symm⟩
theorem RatioOrders_both {a b : RR} (ha : WR a) (hb : WR b) : l_RatioOrders a b = true ∧ l_RatioOrders_s a b = true := by
  obtain ⟨s1, s2⟩ := smallR2 (a := a) (b := b)
  suffices h : Tr.Is (l_RatioOrders_t a b) true from h
  refine Tr.is_ast works3.2 (Tr.is_br_f (by rw [works3.1]; rfl) (Tr.is_ast s2 ?_))
  cases hs : (short3 a && short3 b) with
  | false => exact Tr.is_br_t (by rw [s1, hs]; rfl) (Tr.is_leaf works3.1)
  | true =>
    simp only [Bool.and_eq_true] at hs
    have wa := ha.short hs.1
    have wb := hb.short hs.2
    obtain ⟨o1, o2⟩ := of_spec3 wa (by omega) (by omega)
    obtain ⟨p1, p2⟩ := of_spec3 wb (by omega) (by omega)
    obtain ⟨a1, a2⟩ := neg1_spec wa (by omega) (by omega)
    obtain ⟨b1, b2⟩ := rminus_spec o2 (by omega) (by omega)
    obtain ⟨i1, i2⟩ := is_spec3 a2 b2 (by omega) (by omega)
    obtain ⟨c1, c2⟩ := abs_spec wa (by omega) (by omega)
    obtain ⟨d1, d2⟩ := rLow_spec o2.2.2.2.2.2.1 o2.2.2.2.2.2.2 (by omega) (by omega) false
    rw [o2.1, o2.2.2.1, rq_false (neg := decide (val a < 0)), rq_self] at d2
    obtain ⟨j1, j2⟩ := is_spec3 c2 d2 (by omega) (by omega)
    obtain ⟨e1, e2⟩ := qcmp_spec wa wb (by omega) (by omega)
    obtain ⟨f1, f2⟩ := rcmp_spec o2 p2 (by omega) (by omega)
    obtain ⟨g1, g2⟩ := qsign_spec wa (by omega) (by omega)
    obtain ⟨h1, h2⟩ := rsign_spec o2 (by omega)
    obtain ⟨k1, l, m, k2, k3, k4⟩ := qlen_spec wa (by omega) (by omega)
    obtain ⟨l1, l', l2, l3⟩ := rlen_spec (a := (l3_of a).num) (by have := o2.2.2.2.2.2.1; omega)
    obtain ⟨m1, m', m2, m3⟩ := rlen_spec (a := (l3_of a).den) (by have := o2.2.2.2.2.2.2; omega)
    rw [o2.1] at l3
    rw [o2.2.2.1] at m3
    have hl : l' = l := l3.unique k3
    have hm : m' = m := m3.unique k4
    have hl2 : l' = (l3_of a).num.length := l3.unique o2.2.1
    have hm2 : m' = (l3_of a).den.length := m3.unique o2.2.2.2.1
    obtain ⟨t1, t2, t3⟩ := qtext_spec wa (by omega) (by omega) o2 (by omega)
    refine Tr.is_br_f (by rw [s1, hs.1, hs.2]; rfl) (Tr.is_ast o1 (Tr.is_ast p1 (Tr.is_ast a1 (Tr.is_ast b1 (Tr.is_ast i2 (Tr.is_ast d1 (Tr.is_ast c1 (Tr.is_ast j2 (Tr.is_br_t works3.1 (Tr.is_br_t i1 (Tr.is_br_t j1 (Tr.is_ast e1 (Tr.is_ast f1 (Tr.is_br_t ?_ (Tr.is_ast g1 (Tr.is_ast h1 (Tr.is_br_t ?_ (Tr.is_ast k1 (Tr.is_ast l1 (Tr.is_ast m1 (Tr.is_br_t ?_ (Tr.is_ast t1 (Tr.is_ast t2 (Tr.is_leaf ?_))))))))))))))))))))))))
    · rw [e2, f2]; exact bt rfl
    · rw [g2, h2]; exact bt rfl
    · rw [k2, l2, m2]
      have b1 := o2.2.2.2.2.2.1
      have b2 := o2.2.2.2.2.2.2
      rw [w64 (by omega) (by omega)]
      apply bt; omega
    · rw [t3]; simp
end Go.Fb
namespace Go.Fb
open Go.Ev
def dy (neg : Bool) (m : Nat) (e : Int) : Rat := rq neg (2 ^ e.toNat * m) (2 ^ (-e).toNat)
theorem imax_toNat (e : Int) : imax e 0 = (e.toNat : Int) := by unfold imax; split <;> omega
theorem shl_any {a : List Int} (hw : Wds a) (hn : a.length ≤ 2) {e : Int} (he : e ≤ 8192) : n_Shl_s a e = true ∧ Wds (n_Shl a e).1 ∧ wv (n_Shl a e).1 = 2 ^ e.toNat * wv a ∧ (n_Shl a e).1.length ≤ 300 := by
  obtain ⟨l1, l, l2, l3⟩ := nlen_spec hw (by omega)
  have hl : l ≤ 32 * 2 := lenIs_le l3 (wv_lt2 hw hn)
  obtain ⟨s1, s2, s3, s4⟩ := nshl_spec hw (by omega) (imax_toNat e) (by omega) l3
  refine ⟨s1, ?_⟩
  by_cases h0 : wv a = 0
  · rw [s2 h0, h0]; exact ⟨Wds.nil, by simp [wv], by simp⟩
  · obtain ⟨_, t2⟩ := s4 h0 (by omega)
    exact ⟨t2.1, t2.2.2.1, by have := t2.2.2.2; omega⟩
theorem dyad_spec {neg : Bool} {m : Nat} (hm : m < 18446744073709551616) {e : Int} (h1 : -8192 ≤ e) (h2 : e ≤ 8192) : q_Dyad_s neg (m : Int) e = true ∧ ∃ r, q_Dyad neg (m : Int) e = (r, 0) ∧ RIs r (dy neg m e) 300 := by
  obtain ⟨n1, n2⟩ := nnew_spec (x := (m : Int)) ⟨by omega, by omega⟩
  rw [Int.toNat_natCast] at n2
  obtain ⟨o1, o2⟩ := one_new
  have ew : IntKind.i64.wrap (0 - e) = -e := by rw [w64 (by omega) (by omega)]; omega
  obtain ⟨a1, a2, a3, a4⟩ := shl_any n2.1 n2.2.2.2 h2
  obtain ⟨b1, b2, b3, b4⟩ := shl_any (e := -e) o2.1 o2.2.2.2 (by omega)
  obtain ⟨r1, r2⟩ := low0_spec a2 b2 (k := 300) a4 b4 (by omega) (by omega) neg
  rw [a3, b3, n2.2.2.1, o2.2.2.1, Nat.mul_one] at r2
  have : Tr.Is (q_Dyad_t neg (m : Int) e) (q_low0 neg (n_Shl (n_New (m : Int)) e).1 (n_Shl (n_New 1) (-e)).1, 0) := by
    refine Tr.is_br_f (df (by omega)) (Tr.is_br_f (df (by omega)) (Tr.is_ast n1 (Tr.is_ast a1 (Tr.is_ast o1 (Tr.is_ast ?_ (Tr.is_ast ?_ (Tr.is_leaf ?_)))))))
    · rw [ew]; exact b1
    · rw [ew]; exact r1
    · rw [ew]
  exact ⟨this.2, _, this.1, r2⟩
theorem dyad_far {neg : Bool} {m : Int} {e : Int} (h : e < -8192 ∨ 8192 < e) : q_Dyad_s neg m e = true ∧ q_Dyad neg m e = (⟨false, [], []⟩, 31) := by
  have : Tr.Is (q_Dyad_t neg m e) (⟨false, [], []⟩, 31) := by
    by_cases h1 : e < -8192
    · exact Tr.is_br_t (dt h1) (Tr.is_leaf rfl)
    · exact Tr.is_br_f (df h1) (Tr.is_br_t (dt (by omega)) (Tr.is_leaf rfl))
  exact ⟨this.2, this.1⟩
set_option maxHeartbeats 4000000 in
theorem RatioMakes_both {neg : Bool} {num den : List Int} {x m e : Int} (hn : Wds num) (hd : Wds den) (hx : -9223372036854775808 ≤ x ∧ x ≤ 9223372036854775807) (hm : Wd m) (he : -9223372036854775808 ≤ e ∧ e ≤ 9223372036854775807) :
    l_RatioMakes neg num den x m e = true ∧ l_RatioMakes_s neg num den x m e = true := by
  by_cases ln : (num.length : Int) > 4
  · suffices h : Tr.Is (l_RatioMakes_t neg num den x m e) true from h
    exact Tr.is_ast works3.2 (Tr.is_br_f (by rw [works3.1]; rfl) (Tr.is_br_t (dt ln) (Tr.is_leaf works3.1)))
  by_cases ld : (den.length : Int) > 4
  · suffices h : Tr.Is (l_RatioMakes_t neg num den x m e) true from h
    exact Tr.is_ast works3.2 (Tr.is_br_f (by rw [works3.1]; rfl) (Tr.is_br_f (df ln) (Tr.is_br_t (dt ld) (Tr.is_leaf works3.1))))
  obtain ⟨n1, n2, n3⟩ := bits2_spec hn (by omega)
  obtain ⟨d1, d2, d3⟩ := bits2_spec hd (by omega)
  have lbn : (r2_Bits num).length ≤ 128 := lenIs_le n3 (wv_lt2 (n := 4) hn (by omega))
  have lbd : (r2_Bits den).length ≤ 128 := lenIs_le d3 (wv_lt2 (n := 4) hd (by omega))
  obtain ⟨N1, N2, N3⟩ := qnew_spec hn hd (k := 4) (by omega) (by omega) (by omega) (by omega) neg
  obtain ⟨u1, u2, u3⟩ := of1_spec (x := 1) ⟨by omega, by omega⟩
  have u3 : bv (r1_Of1 1) = 1 := u3
  have hdl := lenIs_nought d3
  -- what is made of two numbers
  have hNew : (((q_New neg num den).2 == 0) = false ∧ decide (((r2_Bits den).length : Int) > 0) = false ∧ ((q_New neg num den).2 != 0) = true ∧ ((q_New neg num den).2 != 30) = false ∧ decide (((q_New neg num den).1.den.length : Int) > 0) = false) ∨
      (((q_New neg num den).2 == 0) = true ∧ decide (((r2_Bits den).length : Int) > 0) = true ∧ ((q_New neg num den).2 != 0) = false ∧ r3_Low_s neg (r2_Bits num) (r2_Bits den) = true ∧ l3_is (q_New neg num den).1 (r3_Low neg (r2_Bits num) (r2_Bits den)) = true ∧ l3_is_s (q_New neg num den).1 (r3_Low neg (r2_Bits num) (r2_Bits den)) = true) := by
    by_cases h0 : wv den = 0
    · rw [N2 h0]
      exact .inl ⟨rfl, df (by have := hdl.2 h0; omega), rfl, rfl, rfl⟩
    · obtain ⟨q, q1, q2⟩ := N3 h0
      obtain ⟨r1, r2⟩ := rLow_spec lbn lbd (by omega) (by omega) neg
      rw [n2, d2] at r2
      obtain ⟨i1, i2⟩ := is_spec3 q2 r2 (by omega) (by omega)
      rw [q1]
      exact .inr ⟨rfl, dt (by have := mt hdl.1 h0; omega), rfl, r1, i1, i2⟩
  -- what is made of an integer
  obtain ⟨I1, I2⟩ := qint_spec hx
  have hInt : (decide (x < 0) = true ∧ r1_Of1_s (IntKind.u64.wrap (0 - IntKind.u64.wrap x)) = true ∧ r3_Low_s true (r1_Of1 (IntKind.u64.wrap (0 - IntKind.u64.wrap x))) (r1_Of1 1) = true ∧ l3_is (q_Int x) (r3_Low true (r1_Of1 (IntKind.u64.wrap (0 - IntKind.u64.wrap x))) (r1_Of1 1)) = true ∧ l3_is_s (q_Int x) (r3_Low true (r1_Of1 (IntKind.u64.wrap (0 - IntKind.u64.wrap x))) (r1_Of1 1)) = true) ∨
      (decide (x < 0) = false ∧ r1_Of1_s (IntKind.u64.wrap x) = true ∧ r3_Low_s false (r1_Of1 (IntKind.u64.wrap x)) (r1_Of1 1) = true ∧ l3_is (q_Int x) (r3_Low false (r1_Of1 (IntKind.u64.wrap x)) (r1_Of1 1)) = true ∧ l3_is_s (q_Int x) (r3_Low false (r1_Of1 (IntKind.u64.wrap x)) (r1_Of1 1)) = true) := by
    have hq := rq_int (x := x)
    by_cases h : x < 0
    · have ew : IntKind.u64.wrap (0 - IntKind.u64.wrap x) = ((x.natAbs : Nat) : Int) := by rw [u64w, u64w]; omega
      rw [ew]
      obtain ⟨v1, v2, v3⟩ := of1_spec (x := ((x.natAbs : Nat) : Int)) ⟨by omega, by omega⟩
      rw [Int.toNat_natCast] at v3
      obtain ⟨r1, r2⟩ := rLow_spec (num := r1_Of1 ((x.natAbs : Nat) : Int)) (den := r1_Of1 1) (k := 64) (by omega) (by omega) (by omega) (by omega) true
      rw [decide_eq_true h] at hq
      rw [v3, u3, hq] at r2
      obtain ⟨i1, i2⟩ := is_spec3 I2 r2 (by omega) (by omega)
      exact .inl ⟨dt h, v1, r1, i1, i2⟩
    · have ew : IntKind.u64.wrap x = ((x.natAbs : Nat) : Int) := by rw [u64w]; omega
      rw [ew]
      obtain ⟨v1, v2, v3⟩ := of1_spec (x := ((x.natAbs : Nat) : Int)) ⟨by omega, by omega⟩
      rw [Int.toNat_natCast] at v3
      obtain ⟨r1, r2⟩ := rLow_spec (num := r1_Of1 ((x.natAbs : Nat) : Int)) (den := r1_Of1 1) (k := 64) (by omega) (by omega) (by omega) (by omega) false
      rw [decide_eq_false h] at hq
      rw [v3, u3, hq] at r2
      obtain ⟨i1, i2⟩ := is_spec3 I2 r2 (by omega) (by omega)
      exact .inr ⟨df h, v1, r1, i1, i2⟩
  -- an integer times a power of two
  obtain ⟨M, rfl⟩ : ∃ M : Nat, m = (M : Int) := ⟨m.toNat, by unfold Wd at hm; omega⟩
  have hM : M < 18446744073709551616 := by unfold Wd at hm; omega
  have ew : IntKind.i64.wrap (0 - e) = if e = -9223372036854775808 then -9223372036854775808 else -e := by
    split
    · rename_i h; subst h; rfl
    · rw [w64 (by omega) (by omega)]; omega
  have hDy : (decide (e < -8192) = true ∧ q_Dyad_s neg (M : Int) e = true ∧ ((q_Dyad neg (M : Int) e).2 == 31) = true ∧ (((q_Dyad neg (M : Int) e).1.den.length : Int) == 0) = true) ∨
      (decide (e < -8192) = false ∧ decide (e > 8192) = true ∧ q_Dyad_s neg (M : Int) e = true ∧ ((q_Dyad neg (M : Int) e).2 == 31) = true ∧ (((q_Dyad neg (M : Int) e).1.den.length : Int) == 0) = true) ∨
      (decide (e < -8192) = false ∧ decide (e > 8192) = false ∧ decide (e < -200) = true ∧ q_Dyad_s neg (M : Int) e = true ∧ ((q_Dyad neg (M : Int) e).2 == 0) = true) ∨
      (decide (e < -8192) = false ∧ decide (e > 8192) = false ∧ decide (e < -200) = false ∧ decide (e > 200) = true ∧ q_Dyad_s neg (M : Int) e = true ∧ ((q_Dyad neg (M : Int) e).2 == 0) = true) ∨
      (decide (e < -8192) = false ∧ decide (e > 8192) = false ∧ decide (e < -200) = false ∧ decide (e > 200) = false ∧ q_Dyad_s neg (M : Int) e = true ∧ ((q_Dyad neg (M : Int) e).2 == 0) = true ∧
        r1_Of1_s (M : Int) = true ∧ r1_Shl_s (r1_Of1 (M : Int)) (imax e 0) = true ∧ r1_Shl_s (r1_Of1 1) (imax (IntKind.i64.wrap (0 - e)) 0) = true ∧
        r3_Low_s neg (r1_Shl (r1_Of1 (M : Int)) (imax e 0)) (r1_Shl (r1_Of1 1) (imax (IntKind.i64.wrap (0 - e)) 0)) = true ∧
        l3_is (q_Dyad neg (M : Int) e).1 (r3_Low neg (r1_Shl (r1_Of1 (M : Int)) (imax e 0)) (r1_Shl (r1_Of1 1) (imax (IntKind.i64.wrap (0 - e)) 0))) = true ∧
        l3_is_s (q_Dyad neg (M : Int) e).1 (r3_Low neg (r1_Shl (r1_Of1 (M : Int)) (imax e 0)) (r1_Shl (r1_Of1 1) (imax (IntKind.i64.wrap (0 - e)) 0))) = true) := by
    by_cases h1 : e < -8192
    · obtain ⟨f1, f2⟩ := dyad_far (neg := neg) (m := (M : Int)) (.inl h1)
      rw [f2]; exact .inl ⟨dt h1, f1, rfl, rfl⟩
    by_cases h2 : e > 8192
    · obtain ⟨f1, f2⟩ := dyad_far (neg := neg) (m := (M : Int)) (.inr h2)
      rw [f2]; exact .inr (.inl ⟨df h1, dt h2, f1, rfl, rfl⟩)
    obtain ⟨D1, r, D2, D3⟩ := dyad_spec (neg := neg) hM (e := e) (by omega) (by omega)
    rw [D2]
    by_cases h3 : e < -200
    · exact .inr (.inr (.inl ⟨df h1, df h2, dt h3, D1, rfl⟩))
    by_cases h4 : e > 200
    · exact .inr (.inr (.inr (.inl ⟨df h1, df h2, df h3, dt h4, D1, rfl⟩)))
    obtain ⟨v1, v2, v3⟩ := of1_spec (x := (M : Int)) ⟨by omega, by omega⟩
    rw [Int.toNat_natCast] at v3
    rw [ew, if_neg (by omega), imax_toNat, imax_toNat]
    obtain ⟨s1, s2⟩ := shl_spec (a := r1_Of1 (M : Int)) (n := e.toNat) (by omega) (by omega)
    obtain ⟨t1, t2⟩ := shl_spec (a := r1_Of1 1) (n := (-e).toNat) (by omega) (by omega)
    have s3 := bv_shl (a := r1_Of1 (M : Int)) (n := e.toNat) (by omega) (by omega)
    have t3 := bv_shl (a := r1_Of1 1) (n := (-e).toNat) (by omega) (by omega)
    obtain ⟨r1, r2⟩ := rLow_spec (num := r1_Shl (r1_Of1 (M : Int)) (e.toNat : Int)) (den := r1_Shl (r1_Of1 1) ((-e).toNat : Int)) (k := 300) (by rw [s1]; simp; omega) (by rw [t1]; simp; omega) (by omega) (by omega) neg
    rw [s3, t3, v3, u3, Nat.mul_one] at r2
    obtain ⟨i1, i2⟩ := is_spec3 D3 r2 (by omega) (by omega)
    exact .inr (.inr (.inr (.inr ⟨df h1, df h2, df h3, df h4, D1, rfl, v1, s2, t2, r1, i1, i2⟩)))
  have ln' := df ln
  have ld' := df ld
  clear N2 N3 n2 d2 n3 d3 lbn lbd hdl I2 u2 u3 hn hd hx hm he ew hM ln ld
  rcases hNew with hNew | hNew <;> rcases hInt with hInt | hInt <;> rcases hDy with hDy | hDy | hDy | hDy | hDy <;>
    simp only [l_RatioMakes, l_RatioMakes_s, l_RatioMakes_t, l_RatioMakes_T, works3.1, works3.2, n1, d1, N1, I1, u1, ln', ld', hNew, hInt, hDy, Tr.val, Tr.safe, cond_true, cond_false, Bool.not_true, Bool.not_false, Bool.true_and, beq_self_eq_true, and_self, Bool.and_true]
end Go.Fb
namespace Go.Fb
open Go.Ev
theorem cmpE {a b : RR} {k : Nat} (ha : RW a k) (hb : RW b k) (hk : 1 ≤ k) (hk2 : k ≤ 40000) (h : val a = val b) : (q_Cmp a b == 0) = true ∧ q_Cmp_s a b = true := by
  obtain ⟨h1, h2⟩ := qcmp_spec ha hb hk hk2
  rw [h2, cmpQ_eq h]; exact ⟨rfl, h1⟩
set_option maxHeartbeats 4000000 in
theorem RatioField_both {a b c : RR} (ha : WR a) (hb : WR b) (hc : WR c) : l_RatioField a b c = true ∧ l_RatioField_s a b c = true := by
  obtain ⟨s1, s2⟩ := smallR3 (a := a) (b := b) (c := c)
  cases hs : (short3 a && (short3 b && short3 c)) with
  | false =>
    suffices h : Tr.Is (l_RatioField_t a b c) true from h
    exact Tr.is_ast works3.2 (Tr.is_br_f (by rw [works3.1]; rfl) (Tr.is_ast s2 (Tr.is_br_t (by rw [s1, hs]; rfl) (Tr.is_leaf works3.1))))
  | true =>
    rw [hs] at s1
    simp only [Bool.and_eq_true] at hs
    have wa := ha.short hs.1
    have wb := hb.short hs.2.1
    have wc := hc.short hs.2.2
    obtain ⟨A1, A1r⟩ := qadd_spec wa wb (by omega) (by omega)
    obtain ⟨A2, A2r⟩ := qadd_spec wb wa (by omega) (by omega)
    obtain ⟨M1, M1r⟩ := qmul_spec wa wb (by omega) (by omega)
    obtain ⟨M2, M2r⟩ := qmul_spec wb wa (by omega) (by omega)
    obtain ⟨B1, B1r⟩ := qadd_spec A1r.RW (wc.le (by omega)) (by omega) (by omega)
    obtain ⟨B2, B2r⟩ := qadd_spec wb wc (by omega) (by omega)
    obtain ⟨B3, B3r⟩ := qadd_spec (wa.le (by omega)) B2r.RW (by omega) (by omega)
    obtain ⟨N1, N1r⟩ := qmul_spec M1r.RW (wc.le (by omega)) (by omega) (by omega)
    obtain ⟨N2, N2r⟩ := qmul_spec wb wc (by omega) (by omega)
    obtain ⟨N3, N3r⟩ := qmul_spec (wa.le (by omega)) N2r.RW (by omega) (by omega)
    obtain ⟨D1, D1r⟩ := qmul_spec (wa.le (by omega)) B2r.RW (by omega) (by omega)
    obtain ⟨D2, D2r⟩ := qmul_spec wa wc (by omega) (by omega)
    obtain ⟨D3, D3r⟩ := qadd_spec M1r.RW D2r.RW (by omega) (by omega)
    obtain ⟨E1, E1r⟩ := qsub_spec A1r.RW (wb.le (by omega)) (by omega) (by omega)
    obtain ⟨E2, E2r⟩ := qsub_spec wa wa (by omega) (by omega)
    obtain ⟨G1, G2⟩ := qsign_spec E2r.RW (by omega) (by omega)
    obtain ⟨H1, H2⟩ := qsign_spec wb (by omega) (by omega)
    obtain ⟨F1, F2, F3⟩ := qdiv_spec M1r.RW (wb.le (by omega)) (by omega) (by omega)
    have vA := A1r.val
    have vM := M1r.val
    have vB := B2r.val
    have vN := N2r.val
    have vD := D2r.val
    have vE := E2r.val
    obtain ⟨c1, c1'⟩ := cmpE A1r.RW A2r.RW (by omega) (by omega) (by rw [A1r.val, A2r.val, Rat.add_comm])
    obtain ⟨c2, c2'⟩ := cmpE M1r.RW M2r.RW (by omega) (by omega) (by rw [M1r.val, M2r.val, Rat.mul_comm])
    obtain ⟨c3, c3'⟩ := cmpE B1r.RW B3r.RW (by omega) (by omega) (by rw [B1r.val, B3r.val, vA, vB, Rat.add_assoc])
    obtain ⟨c4, c4'⟩ := cmpE N1r.RW N3r.RW (by omega) (by omega) (by rw [N1r.val, N3r.val, vM, vN, Rat.mul_assoc])
    obtain ⟨c5, c5'⟩ := cmpE (D1r.RW.le (m := 20) (by omega)) (D3r.RW.le (m := 20) (by omega)) (by omega) (by omega) (by rw [D1r.val, D3r.val, vM, vD, vB, Rat.mul_add])
    obtain ⟨c6, c6'⟩ := cmpE E1r.RW (wa.le (by omega)) (by omega) (by omega) (by rw [E1r.val, vA, Rat.add_sub_cancel])
    have g0 : (q_Sign (q_Sub a a) == 0) = true := by rw [G2, vE, Rat.sub_self, cmpQ_eq rfl]; rfl
    by_cases h0 : val b = 0
    · have z : (q_Sign b == 0) = true := by rw [H2, cmpQ_eq h0]; rfl
      have hq : ((q_Div (q_Mul a b) b).2 == 30) = true := by rw [F2 h0]; rfl
      simp only [l_RatioField, l_RatioField_s, l_RatioField_t, l_RatioField_T, works3.1, works3.2, s1, s2, A1, A2, M1, M2, B1, B2, B3, N1, N2, N3, D1, D2, D3, E1, E2, G1, H1, F1, c1, c2, c3, c4, c5, c6, c1', c2', c3', c4', c5', c6', g0, z, hq, Tr.val, Tr.safe, cond_true, cond_false, Bool.not_true, Bool.not_false, Bool.true_and, and_self]
    · obtain ⟨q, q1, q2⟩ := F3 h0
      have z : (q_Sign b == 0) = false := by rw [H2]; rcases cmpQ_cases (val b) 0 with ⟨x, _⟩ | ⟨_, x⟩ | ⟨x, _⟩ <;> first | exact absurd x h0 | (rw [x]; rfl)
      obtain ⟨c7, c7'⟩ := cmpE q2.RW (wa.le (by omega)) (by omega) (by omega) (by rw [q2.val, vM, Rat.mul_div_cancel h0])
      simp only [l_RatioField, l_RatioField_s, l_RatioField_t, l_RatioField_T, works3.1, works3.2, s1, s2, A1, A2, M1, M2, B1, B2, B3, N1, N2, N3, D1, D2, D3, E1, E2, G1, H1, F1, c1, c2, c3, c4, c5, c6, c7, c1', c2', c3', c4', c5', c6', c7', g0, z, q1, Tr.val, Tr.safe, cond_true, cond_false, Bool.not_true, Bool.not_false, Bool.true_and, beq_self_eq_true, and_self]
abbrev at3 (l : List (List Cv)) (i : Nat) : RR := rowR (l.getD i [])
def RowsOk (l : List (List Cv)) (k : Nat) : Prop := ∀ i, i < l.length → RW (at3 l i) k
theorem maxR_run {l : List (List Cv)} {k : Nat} (hk : 1 ≤ k) (hk2 : k ≤ 40000) (hl : l.length ≤ 1000000) (ho : RowsOk l k) (z1 z2 : Bool) : ∀ (m i : Nat) (t : Nat), i + m = l.length → t < l.length → t < i → (∀ j, j < i → val (at3 l j) ≤ val (at3 l t)) →
    ∃ t', runL (s_MaxR_L0_step (l, z1, z2)) (m + 1) ((i : Int), (at3 l t).neg, (at3 l t).num, (at3 l t).den) = some ((l.length : Int), (at3 l t').neg, (at3 l t').num, (at3 l t').den) ∧ t' < l.length ∧ ∀ j, j < l.length → val (at3 l j) ≤ val (at3 l t')
  | 0, i, t, hi, ht, hti, hm => by
    have : i = l.length := by omega
    subst this
    exact ⟨t, runL_out (Tr.is_br_f (df (by first | omega | (dsimp only; omega))) (Tr.is_leaf rfl)), ht, hm⟩
  | m + 1, i, t, hi, ht, hti, hm => by
    have hil : i < l.length := by omega
    have c0 : decide ((i : Int) < (l.length : Int)) = true := dt (by omega)
    have c1 : (decide ((0 : Int) ≤ (i : Int)) && decide ((i : Int) < (l.length : Int))) = true := by simp; omega
    have e4 : IntKind.i64.wrap ((i : Int) + 1) = ((i + 1 : Nat) : Int) := wnext (by omega)
    have ei : ((i : Int)).toNat = i := rfl
    obtain ⟨q1, q2⟩ := qcmp_spec (ho i hil) (ho t ht) hk hk2
    by_cases hgt : val (at3 l t) < val (at3 l i)
    · rw [cmpQ_gt hgt] at q2
      obtain ⟨t', h1, h2, h3⟩ := maxR_run hk hk2 hl ho z1 z2 m (i + 1) i (by omega) hil (by omega) (fun j hj => by
        by_cases hji : j < i
        · exact Rat.le_trans (hm j hji) (Rat.le_of_lt hgt)
        · have : j = i := by omega
          subst this; exact Rat.le_refl)
      refine ⟨t', ?_, h2, h3⟩
      rw [← h1]
      refine runL_next (Tr.is_br_t c0 (Tr.is_ast c1 (Tr.is_ast q1 (Tr.is_br_t ?_ (Tr.is_ast c1 (Tr.is_leaf ?_))))))
      · show decide (q_Cmp (at3 l i) (at3 l t) > 0) = true
        rw [q2]; rfl
      · rw [e4]; rfl
    · have q3 : decide (q_Cmp (at3 l i) (at3 l t) > 0) = false := by
        rw [q2]
        rcases cmpQ_cases (val (at3 l i)) (val (at3 l t)) with ⟨x, _⟩ | ⟨x, _⟩ | ⟨_, x⟩
        · rw [x]; rfl
        · rw [x]; rfl
        · exact absurd x hgt
      obtain ⟨t', h1, h2, h3⟩ := maxR_run hk hk2 hl ho z1 z2 m (i + 1) t (by omega) ht (by omega) (fun j hj => by
        by_cases hji : j < i
        · exact hm j hji
        · have : j = i := by omega
          subst this; exact Rat.not_lt.1 hgt)
      refine ⟨t', ?_, h2, h3⟩
      rw [← h1]
      exact runL_next (Tr.is_br_t c0 (Tr.is_ast c1 (Tr.is_ast q1 (Tr.is_br_f q3 (Tr.is_leaf (by rw [e4]))))))
theorem qmax_spec {l : List (List Cv)} {k : Nat} (hk : 2 ≤ k) (hk2 : k ≤ 40000) (hl : l.length ≤ 1000000) (ho : RowsOk l k) : q_Max_s l = true ∧ ∃ x, RIs (q_Max l) x k ∧ (l.length = 0 → x = 0) ∧ (l.length ≠ 0 → ∃ t, t < l.length ∧ x = val (at3 l t) ∧ ∀ j, j < l.length → val (at3 l j) ≤ x) := by
  suffices h : ∃ v x, Tr.Is (q_Max_t l) v ∧ RIs v x k ∧ (l.length = 0 → x = 0) ∧ (l.length ≠ 0 → ∃ t, t < l.length ∧ x = val (at3 l t) ∧ ∀ j, j < l.length → val (at3 l j) ≤ x) by
    obtain ⟨v, x, h1, h2⟩ := h
    have e : q_Max l = v := h1.1
    exact ⟨h1.2, x, by rw [e]; exact h2⟩
  by_cases h0 : l.length = 0
  · obtain ⟨i1, i2⟩ := qint_spec (x := 0) ⟨by omega, by omega⟩
    refine ⟨_, 0, Tr.is_br_t (bt (by show (l.length : Int) = 0; omega)) (Tr.is_ast i1 (Tr.is_leaf rfl)), ?_, fun _ => rfl, fun h => absurd h0 h⟩
    have : ((0 : Int) : Rat) = 0 := rfl
    rw [this] at i2
    exact i2.le hk
  · obtain ⟨t, h1, h2, h3⟩ := maxR_run (by omega) hk2 hl ho false false (l.length - 1) 1 0 (by omega) (by omega) (by omega) (fun j hj => by
      have : j = 0 := by omega
      subst this; exact Rat.le_refl)
    have hr : s_MaxR_L0_r (l, false, false) (1, (at3 l 0).neg, (at3 l 0).num, (at3 l 0).den) = some ((l.length : Int), (at3 l t).neg, (at3 l t).num, (at3 l t).den) := runB_of h1 (by omega)
    have hM : Tr.Is (s_MaxR_t l ()) (at3 l t) := by
      refine Tr.is_nst (df (by show ¬ (l.length : Int) < 1; omega)) (Tr.is_ast (dt (by show (0 : Int) < l.length; omega)) (Tr.is_ast ?_ (Tr.is_leaf ?_)))
      · show s_MaxR_L0_ok (l, false, false) (1, (at3 l 0).neg, (at3 l 0).num, (at3 l 0).den) = true
        unfold s_MaxR_L0_ok; rw [hr]; rfl
      · show RR.mk (s_MaxR_L0_v (l, false, false) (1, (at3 l 0).neg, (at3 l 0).num, (at3 l 0).den)).2.1 (s_MaxR_L0_v (l, false, false) (1, (at3 l 0).neg, (at3 l 0).num, (at3 l 0).den)).2.2.1 (s_MaxR_L0_v (l, false, false) (1, (at3 l 0).neg, (at3 l 0).num, (at3 l 0).den)).2.2.2 = _
        unfold s_MaxR_L0_v; rw [hr]; rfl
    obtain ⟨r1, r2⟩ := low_spec (ho t h2) (by omega) (by omega)
    have eM : s_MaxR l () = at3 l t := hM.1
    refine ⟨_, _, Tr.is_br_f (bf (by show (l.length : Int) ≠ 0; omega)) (Tr.is_ast hM.2 (Tr.is_ast (by show q_low_s (s_MaxR l ()) = true; rw [eM]; exact r1) (Tr.is_leaf (by show q_low (s_MaxR l ()) = _; rw [eM])))), r2, fun h => absurd h h0, fun _ => ⟨t, h2, rfl, h3⟩⟩
end Go.Fb
namespace Go.Fb
open Go.Ev
theorem cmpQ_anti (x y : Rat) : (cmpQ x y != IntKind.i64.wrap (0 - cmpQ y x)) = false := by
  rcases cmpQ_cases x y with ⟨h, k⟩ | ⟨h, k⟩ | ⟨h, k⟩
  · rw [h, cmpQ_gt k]; rfl
  · rw [h, cmpQ_eq k.symm]; rfl
  · rw [h, cmpQ_lt k]; rfl
theorem most_inner {l : List (List Cv)} {k : Nat} (hk : 1 ≤ k) (hk2 : k ≤ 40000) (hl : l.length ≤ 1000000) (ho : RowsOk l k) (z1 z2 z3 : Bool) (z4 z5 : List Int) (z6 : Bool) {i : Nat} (hi : i < l.length) : ∀ (m j : Nat), j + m = l.length →
    runL (l_RatioMost_L1_step (l, z1, z2, (i : Int), z3, z4, z5)) (m + 1) (j : Int) = some (.inl (l.length : Int))
  | 0, j, hj => by
    have : j = l.length := by omega
    subst this
    exact runL_out (Tr.is_br_f (df (by first | omega | (dsimp only; omega))) (Tr.is_leaf rfl))
  | m + 1, j, hj => by
    have hjl : j < l.length := by omega
    have c0 : decide ((j : Int) < (l.length : Int)) = true := dt (by omega)
    have c1 : (decide ((0 : Int) ≤ (j : Int)) && decide ((j : Int) < (l.length : Int))) = true := by simp; omega
    have c2 : (decide ((0 : Int) ≤ (i : Int)) && decide ((i : Int) < (l.length : Int))) = true := by simp; omega
    have c3 : decide ((0 : Int) < (l.length : Int)) = true := dt (by omega)
    have e4 : IntKind.i64.wrap ((j : Int) + 1) = ((j + 1 : Nat) : Int) := wnext (by omega)
    obtain ⟨q1, q2⟩ := qcmp_spec (ho i hi) (ho j hjl) hk hk2
    obtain ⟨r1, r2⟩ := qcmp_spec (ho j hjl) (ho i hi) hk hk2
    obtain ⟨s1, s2⟩ := qcmp_spec (ho 0 (by omega)) (ho i hi) hk hk2
    obtain ⟨t1, t2⟩ := qcmp_spec (ho 0 (by omega)) (ho j hjl) hk hk2
    have hanti : (q_Cmp (at3 l i) (at3 l j) != IntKind.i64.wrap (0 - q_Cmp (at3 l j) (at3 l i))) = false := by rw [q2, r2]; exact cmpQ_anti _ _
    rw [← most_inner hk hk2 hl ho z1 z2 z3 z4 z5 z6 hi m (j + 1) (by omega)]
    refine runL_next ?_
    refine Tr.is_br_t c0 (Tr.is_ast c2 (Tr.is_ast c1 (Tr.is_ast q1 (Tr.is_ast c1 (Tr.is_ast c2 (Tr.is_ast r1 (Tr.is_br_f hanti (Tr.is_ast c2 (Tr.is_ast c1 (Tr.is_ast q1 ?_))))))))))
    by_cases h1 : val (at3 l i) < val (at3 l j)
    · refine Tr.is_br_t (by show decide (q_Cmp (at3 l i) (at3 l j) < 0) = true; rw [q2, cmpQ_lt h1]; rfl) (Tr.is_ast c3 (Tr.is_ast c2 (Tr.is_ast s1 ?_)))
      by_cases h2 : val (at3 l 0) < val (at3 l i)
      · refine Tr.is_br_t ?_ (Tr.is_ast c3 (Tr.is_ast c1 (Tr.is_ast t1 (Tr.is_br_f ?_ (Tr.is_leaf (by rw [e4]))))))
        · show decide (q_Cmp (at3 l 0) (at3 l i) < 0) = true
          rw [s2, cmpQ_lt h2]; rfl
        · show decide (q_Cmp (at3 l 0) (at3 l j) ≥ 0) = false
          rw [t2, cmpQ_lt (by grind)]; rfl
      · refine Tr.is_br_f ?_ (Tr.is_leaf (by rw [e4]))
        show decide (q_Cmp (at3 l 0) (at3 l i) < 0) = false
        rw [s2]
        rcases cmpQ_cases (val (at3 l 0)) (val (at3 l i)) with ⟨_, x⟩ | ⟨x, _⟩ | ⟨x, _⟩
        · exact absurd x h2
        · rw [x]; rfl
        · rw [x]; rfl
    · refine Tr.is_br_f ?_ (Tr.is_leaf (by rw [e4]))
      show decide (q_Cmp (at3 l i) (at3 l j) < 0) = false
      rw [q2]
      rcases cmpQ_cases (val (at3 l i)) (val (at3 l j)) with ⟨_, x⟩ | ⟨x, _⟩ | ⟨x, _⟩
      · exact absurd x h1
      · rw [x]; rfl
      · rw [x]; rfl
theorem most_outer {l : List (List Cv)} {k : Nat} (hk : 1 ≤ k) (hk2 : k ≤ 40000) (hl : l.length ≤ 1000000) (ho : RowsOk l k) (z : Bool) {M : RR} (hM : RW M k) {t : Nat} (ht : t < l.length) (hMt : val M = val (at3 l t)) (hmax : ∀ j, j < l.length → val (at3 l j) ≤ val M) : ∀ (m i : Nat) (b : Bool), i + m = l.length → (t < i → b = true) →
    ∃ b', runL (l_RatioMost_L0_step (l, z, M.neg, M.num, M.den)) (m + 1) (b, (i : Int)) = some (.inl (b', (l.length : Int))) ∧ b' = true
  | 0, i, b, hi, hb => by
    have : i = l.length := by omega
    subst this
    exact ⟨b, runL_out (Tr.is_br_f (df (by first | omega | (dsimp only; omega))) (Tr.is_leaf rfl)), hb ht⟩
  | m + 1, i, b, hi, hb => by
    have hil : i < l.length := by omega
    have c0 : decide ((i : Int) < (l.length : Int)) = true := dt (by omega)
    have c1 : (decide ((0 : Int) ≤ (i : Int)) && decide ((i : Int) < (l.length : Int))) = true := by simp; omega
    have e4 : IntKind.i64.wrap ((i : Int) + 1) = ((i + 1 : Nat) : Int) := wnext (by omega)
    obtain ⟨q1, q2⟩ := qcmp_spec hM (ho i hil) hk hk2
    have hneg : decide (q_Cmp M (at3 l i) < 0) = false := by
      rw [q2]
      rcases cmpQ_cases (val M) (val (at3 l i)) with ⟨_, x⟩ | ⟨x, _⟩ | ⟨x, _⟩
      · exact absurd x (Rat.not_lt.2 (hmax i hil))
      · rw [x]; rfl
      · rw [x]; rfl
    have hin : ∀ c : Bool, l_RatioMost_L1_r (l, z, c, (i : Int), M.neg, M.num, M.den) 0 = some (.inl (l.length : Int)) := fun c => runB_of (most_inner hk hk2 hl ho z c M.neg M.num M.den false hil l.length 0 (by omega)) (by omega)
    have g1 : ∀ c : Bool, l_RatioMost_L1_ok (l, z, c, (i : Int), M.neg, M.num, M.den) 0 = true := fun c => by unfold l_RatioMost_L1_ok; rw [hin c]; rfl
    have g2 : ∀ c : Bool, l_RatioMost_L1_rt (l, z, c, (i : Int), M.neg, M.num, M.den) 0 = false := fun c => by unfold l_RatioMost_L1_rt; rw [hin c]; rfl
    have hstep : Tr.Is (l_RatioMost_L0_step (l, z, M.neg, M.num, M.den) (b, (i : Int))) (.inl (b || (q_Cmp M (at3 l i) == 0), ((i + 1 : Nat) : Int))) := by
      refine Tr.is_br_t c0 (Tr.is_ast c1 (Tr.is_ast q1 (Tr.is_br_f hneg ?_)))
      cases b with
      | true => exact Tr.is_br_t rfl (Tr.is_ast (g1 _) (Tr.is_br_f (g2 _) (Tr.is_leaf (by rw [e4]; rfl))))
      | false => exact Tr.is_br_f rfl (Tr.is_ast (g1 _) (Tr.is_br_f (g2 _) (Tr.is_leaf (by rw [e4]; rfl))))
    obtain ⟨b', h1, h2⟩ := most_outer hk hk2 hl ho z hM ht hMt hmax m (i + 1) (b || (q_Cmp M (at3 l i) == 0)) (by omega) (fun h => by
      by_cases hti : t < i
      · rw [hb hti]; rfl
      · have : t = i := by omega
        subst this
        rw [q2, cmpQ_eq hMt]; simp)
    exact ⟨b', by rw [runL_next hstep]; exact h1, h2⟩
theorem RatioMost_both {l : List (List Cv)} (hw : ∀ i, i < l.length → WR (at3 l i)) (hl : l.length ≤ 9223372036854775807) : l_RatioMost l = true ∧ l_RatioMost_s l = true := by
  suffices h : Tr.Is (l_RatioMost_t l) true from h
  refine Tr.is_ast works3.2 (Tr.is_br_f (by rw [works3.1]; rfl) ?_)
  by_cases h8 : (l.length : Int) > 8
  · exact Tr.is_br_t (dt h8) (Tr.is_leaf works3.1)
  refine Tr.is_br_f (df h8) ?_
  obtain ⟨s1, s2⟩ := small3_spec (l := l) (by omega)
  refine Tr.is_ast s2 ?_
  cases hs : l.all (fun r => short3 (rowR r)) with
  | false => exact Tr.is_br_t (by show (!l3_small l) = true; rw [s1, hs]; rfl) (Tr.is_leaf works3.1)
  | true =>
    have ho : RowsOk l 4 := fun i hi => by
      refine (hw i hi).short ?_
      have := List.all_eq_true.1 hs (l.getD i []) (by simp [List.getD, hi])
      exact this
    obtain ⟨m1, x, m2, m3, m4⟩ := qmax_spec (k := 4) (by omega) (by omega) (by omega) ho
    refine Tr.is_br_f (by show (!l3_small l) = false; rw [s1, hs]; rfl) (Tr.is_ast m1 ?_)
    by_cases h0 : l.length = 0
    · obtain ⟨g1, g2⟩ := qsign_spec m2.RW (by omega) (by omega)
      refine Tr.is_br_t (bt (by show (l.length : Int) = 0; omega)) (Tr.is_br_t works3.1 (Tr.is_ast g1 (Tr.is_leaf ?_)))
      show (q_Sign (q_Max l) == 0) = true
      rw [g2, m2.val, m3 h0, cmpQ_eq rfl]; rfl
    · obtain ⟨t, ht, hx, hmax⟩ := m4 h0
      obtain ⟨b, r1, r2⟩ := most_outer (by omega) (by omega) (by omega) ho l3_works m2.RW ht (by rw [m2.val, hx]) (by rw [m2.val]; exact hmax) l.length 0 false (by omega) (fun h => by omega)
      have hr : l_RatioMost_L0_r (l, l3_works, (q_Max l).neg, (q_Max l).num, (q_Max l).den) (false, 0) = some (.inl (b, (l.length : Int))) := runB_of r1 (by omega)
      refine Tr.is_br_f (bf (by show (l.length : Int) ≠ 0; omega)) (Tr.is_ast ?_ (Tr.is_br_f ?_ (Tr.is_br_t works3.1 (Tr.is_leaf ?_))))
      · show l_RatioMost_L0_ok (l, l3_works, (q_Max l).neg, (q_Max l).num, (q_Max l).den) (false, 0) = true
        unfold l_RatioMost_L0_ok; rw [hr]; rfl
      · show l_RatioMost_L0_rt (l, l3_works, (q_Max l).neg, (q_Max l).num, (q_Max l).den) (false, 0) = false
        unfold l_RatioMost_L0_rt; rw [hr]; rfl
      · show (l_RatioMost_L0_v (l, l3_works, (q_Max l).neg, (q_Max l).num, (q_Max l).den) (false, 0)).1 = true
        unfold l_RatioMost_L0_v; rw [hr]; exact r2
end Go.Fb
