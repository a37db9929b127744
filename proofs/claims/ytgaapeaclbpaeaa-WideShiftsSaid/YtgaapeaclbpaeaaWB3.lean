/- Contracts and laws of functions of the program, on the way to the claim. Conditions: as each theorem states. -/
import Derived.Test.YtgaapeaclbpaeaaWB2
namespace Go.Fb
open Go.Ev
/-- a row of two words -/
def row2 (r : List Cv) : U2 := ⟨(r.headD (.i 0)).int, (r.tail.headD (.i 0)).int⟩
def ok2 (l : List (List Cv)) : Prop := ∀ r ∈ l, W2 (row2 r)
def sum2 : List (List Cv) → Nat
  | [] => 0
  | r :: l => n2 (row2 r) + sum2 l
theorem sum2_app (l : List (List Cv)) (r : List Cv) : sum2 (l ++ [r]) = sum2 l + n2 (row2 r) := by
  induction l with
  | nil => simp [sum2]
  | cons x l ih => simp only [List.cons_append, sum2, ih]; omega
theorem take_succ' {l : List (List Cv)} {i : Nat} (h : i < l.length) : l.take (i + 1) = l.take i ++ [l.getD i []] := by
  rw [List.take_add_one, List.getD_eq_getElem?_getD, List.getElem?_eq_getElem h]; rfl
theorem getD_mem {l : List (List Cv)} {i : Nat} (h : i < l.length) : l.getD i [] ∈ l := by
  rw [List.getD_eq_getElem?_getD, List.getElem?_eq_getElem h]; exact List.getElem_mem h
theorem wsum_run {l : List (List Cv)} (hl : l.length ≤ 1000) (hk : ok2 l) : ∀ (m i : Nat) (s : U3), i + m = l.length → W3 s → n3 s = sum2 (l.take i) % 6277101735386680763835789423207666416102355444464034512896 →
    ∃ s' : U3, runL (wide_Sum_L0_step (l, (l.length : Int), 0, 0, 0)) (m + 1) ((i : Int), s.hi, s.mid, s.lo) = some ((l.length : Int), s'.hi, s'.mid, s'.lo) ∧ W3 s' ∧ n3 s' = sum2 l % 6277101735386680763835789423207666416102355444464034512896
  | 0, i, s, hi, hs, hv => by
    have e : i = l.length := by omega
    subst e
    refine ⟨s, ?_, hs, by rw [hv, List.take_length]⟩
    have h1 : decide ((l.length : Int) < (l.length : Int)) = false := by simp
    rw [runL]
    simp only [wide_Sum_L0_step, wide_Sum_L0_T, h1, Tr.safe, Tr.val, cond_false, cond_true]
  | m + 1, i, s, hi, hs, hv => by
    have hil : i < l.length := by omega
    have h1 : decide ((i : Int) < (l.length : Int)) = true := by simp; omega
    have h2 : decide (0 ≤ (i : Int)) = true := by simp
    have hr := hk _ (getD_mem hil)
    have hrw : W3 ⟨0, (row2 (l.getD i [])).hi, (row2 (l.getD i [])).lo⟩ := ⟨wd0, hr.1, hr.2⟩
    obtain ⟨a1, a2, a3, _⟩ := tadd_spec hs hrw
    have hrn : n3 ⟨0, (row2 (l.getD i [])).hi, (row2 (l.getD i [])).lo⟩ = n2 (row2 (l.getD i [])) := by unfold n3 n2; simp
    rw [hrn, hv] at a3
    have hw : IntKind.i64.wrap ((i : Int) + 1) = ((i + 1 : Nat) : Int) := wnext (by omega)
    obtain ⟨s', g1, g2, g3⟩ := wsum_run hl hk m (i + 1) (u3_Add s ⟨0, (row2 (l.getD i [])).hi, (row2 (l.getD i [])).lo⟩).1 (by omega) a2 (by
      rw [a3, take_succ' hil, sum2_app, Nat.mod_add_mod])
    refine ⟨s', ?_, g2, g3⟩
    rw [runL]
    have ht : (i : Int).toNat = i := rfl
    have a1' : u3_Add_s ⟨s.hi, s.mid, s.lo⟩ ⟨0, ((l.getD i []).headD (Cv.i 0)).int, ((l.getD i []).tail.headD (Cv.i 0)).int⟩ = true := a1
    simp only [wide_Sum_L0_step, wide_Sum_L0_T, h1, h2, ht, a1', hw, Tr.safe, Tr.val, cond_true, Bool.true_and]
    exact g1
theorem wsum_spec {l : List (List Cv)} (hl : l.length ≤ 1000) (hk : ok2 l) : wide_Sum_s l = true ∧ W3 (wide_Sum l) ∧ n3 (wide_Sum l) = sum2 l % 6277101735386680763835789423207666416102355444464034512896 := by
  obtain ⟨s', g1, g2, g3⟩ := wsum_run hl hk l.length 0 ⟨0, 0, 0⟩ (by omega) ⟨wd0, wd0, wd0⟩ rfl
  have hr : wide_Sum_L0_r (id l, ((id l).length : Int), 0, 0, 0) (0, 0, 0, 0) = some ((l.length : Int), s'.hi, s'.mid, s'.lo) := runB_of g1 (by omega)
  simp only [wide_Sum, wide_Sum_s, wide_Sum_t, wide_Sum_T, Tr.val, Tr.safe, wide_Sum_L0_ok, wide_Sum_L0_v, hr, Option.isSome_some, Option.getD_some]
  exact ⟨rfl, g2, g3⟩
theorem rsum_run {l : List (List Cv)} (hl : l.length ≤ 1000) (hk : ok2 l) (z : Bool × Bool × Int × Int × (List Bool) × (List Bool) × Bool × Bool × Bool × Int × Int × Int × Int × Int × Int × Int × Int × Int × Int × Int × Int) : ∀ (m i : Nat) (s : List Bool), i + m = l.length → s.length ≤ 128 + i → bv s = sum2 (l.take i) →
    ∃ s' : List Bool, runL (l1_WideThrees_L0_step (l, z)) (m + 1) (s, (i : Int)) = some (s', (l.length : Int)) ∧ s'.length ≤ 128 + l.length ∧ bv s' = sum2 l
  | 0, i, s, hi, hs, hv => by
    have e : i = l.length := by omega
    subst e
    refine ⟨s, ?_, hs, by rw [hv, List.take_length]⟩
    have h1 : decide ((l.length : Int) < (l.length : Int)) = false := by simp
    rw [runL]
    simp only [l1_WideThrees_L0_step, l1_WideThrees_L0_T, h1, Tr.safe, Tr.val, cond_false, cond_true]
  | m + 1, i, s, hi, hs, hv => by
    have hil : i < l.length := by omega
    have h1 : decide ((i : Int) < (l.length : Int)) = true := by simp; omega
    have h2 : decide (0 ≤ (i : Int)) = true := by simp
    have hr := hk _ (getD_mem hil)
    obtain ⟨o1, o2, o3⟩ := of_spec hr
    obtain ⟨a1, a2, a3⟩ := add_spec (a := s) (b := l1_of (row2 (l.getD i []))) (by omega) (by omega)
    have hw : IntKind.i64.wrap ((i : Int) + 1) = ((i + 1 : Nat) : Int) := wnext (by omega)
    obtain ⟨s', g1, g2, g3⟩ := rsum_run hl hk z m (i + 1) (r1_Add s (l1_of (row2 (l.getD i [])))) (by omega) (by omega) (by
      rw [a2, o3, hv, take_succ' hil, sum2_app])
    refine ⟨s', ?_, g2, g3⟩
    rw [runL]
    have ht : (i : Int).toNat = i := rfl
    have o1' : l1_of_s ⟨((l.getD i []).headD (Cv.i 0)).int, ((l.getD i []).tail.headD (Cv.i 0)).int⟩ = true := o1
    have a1' : r1_Add_s s (l1_of ⟨((l.getD i []).headD (Cv.i 0)).int, ((l.getD i []).tail.headD (Cv.i 0)).int⟩) = true := a1
    simp only [l1_WideThrees_L0_step, l1_WideThrees_L0_T, h1, h2, ht, o1', a1', hw, Tr.safe, Tr.val, cond_true, Bool.true_and]
    exact g1
set_option maxRecDepth 10000 in
theorem WideThrees_both {a b : U3} {l : List (List Cv)} (ha : W3 a) (hb : W3 b) (hk : ok2 l) : l1_WideThrees a b l = true ∧ l1_WideThrees_s a b l = true := by
  by_cases hl : 300 < l.length
  · have h1 : decide ((l.length : Int) > 300) = true := by simp; omega
    simp only [l1_WideThrees, l1_WideThrees_s, l1_WideThrees_t, l1_WideThrees_T, Tr.val, Tr.safe, works1, id, h1]
    exact ⟨rfl, rfl⟩
  · have h1 : decide ((l.length : Int) > 300) = false := by simp; omega
    obtain ⟨a1, a2, a3⟩ := ofT_spec ha
    obtain ⟨b1, b2, b3⟩ := ofT_spec hb
    obtain ⟨s1, s2, s3, s4, _⟩ := add_full (a := l1_of3 a) (b := l1_of3 b) (by omega) (by omega)
    obtain ⟨d1, d2, d3⟩ := sub_spec (l1_of3 a) (l1_of3 b) (n := 192) (by omega)
    obtain ⟨u1, u2, u3, u4⟩ := tadd_spec ha hb
    obtain ⟨v1, v2, w, v3, v4⟩ := tsub_spec ha hb
    obtain ⟨c1, c2⟩ := cmp_spec (a := l1_of3 a) (b := l1_of3 b) (by omega) (by omega)
    have uc := tcmp_spec ha hb
    obtain ⟨l1, e1, i1⟩ := tlen_spec ha
    obtain ⟨r1, l2, e2, i2⟩ := rlen_spec (a := l1_of3 a) (by omega)
    rw [a3] at i2
    have el := i1.unique i2
    subst el
    have hna := n3_lt ha
    have hnb := n3_lt hb
    obtain ⟨m1, m2, m3⟩ := wsum_spec (l := l) (by omega) hk
    obtain ⟨sm, k1, k2, k3⟩ := rsum_run (l := l) (by omega) hk (false, true, (u3_Add a b).snd, (u3_Sub a b).snd, r1_Add (l1_of3 a) (l1_of3 b), (r1_Sub (l1_of3 a) (l1_of3 b) 192).1, (r1_Sub (l1_of3 a) (l1_of3 b) 192).2, false, false, a.hi,
      a.mid, a.lo, b.hi, b.mid, b.lo, (u3_Add a b).fst.hi, (u3_Add a b).fst.mid, (u3_Add a b).fst.lo, (u3_Sub a b).fst.hi,
      (u3_Sub a b).fst.mid, (u3_Sub a b).fst.lo) l.length 0 [] (by omega) (by simp) rfl
    have hr : l1_WideThrees_L0_r (l, false, true, (u3_Add a b).snd, (u3_Sub a b).snd, r1_Add (l1_of3 a) (l1_of3 b), (r1_Sub (l1_of3 a) (l1_of3 b) 192).1, (r1_Sub (l1_of3 a) (l1_of3 b) 192).2, false, false, a.hi,
      a.mid, a.lo, b.hi, b.mid, b.lo, (u3_Add a b).fst.hi, (u3_Add a b).fst.mid, (u3_Add a b).fst.lo, (u3_Sub a b).fst.hi,
      (u3_Sub a b).fst.mid, (u3_Sub a b).fst.lo) ([], 0) = some (sm, (l.length : Int)) := runB_of k1 (by omega)
    have e192 : (2 : Nat) ^ 192 = 6277101735386680763835789423207666416102355444464034512896 := by decide
    have d192 : ((192 : Nat) : Int) = 192 := rfl
    rw [a3, b3] at s2 d3 c1
    rw [e192, Nat.mod_eq_of_lt hna, Nat.mod_eq_of_lt hnb] at d3
    have hdl := bv_lt (r1_Sub (l1_of3 a) (l1_of3 b) ((192 : Nat) : Int)).1
    rw [d2, e192] at hdl
    rw [d192] at d1 d2 d3 hdl
    generalize hsum : r1_Add (l1_of3 a) (l1_of3 b) = sum at *
    generalize hdif : r1_Sub (l1_of3 a) (l1_of3 b) 192 = dif at *
    have htk : bv (sum.take 192) = (n3 a + n3 b) % 6277101735386680763835789423207666416102355444464034512896 := by rw [bv_take _ _ (by omega), s2, e192]
    obtain ⟨x1, x2⟩ := is3_spec (b := sum.take 192) u2 (by simp; omega)
    rw [u3, htk, decide_eq_true rfl] at x1
    have hsub := n3_lt v2
    have hdv : n3 (u3_Sub a b).1 = bv dif.1 ∧ (w : Int) = (dif.2.toNat : Int) := by
      cases hw : dif.2 <;> rw [hw] at d3 <;> simp only [Bool.toNat_true, Bool.toNat_false] at d3 ⊢ <;> omega
    obtain ⟨y1, y2⟩ := is3_spec (b := dif.1) v2 (by omega)
    rw [decide_eq_true hdv.1] at y1
    have hbor : ((u3_Sub a b).2 == l1_one dif.2) = true := by rw [v3, one_eq, hdv.2]; simp
    -- the sum of many
    have hmin : imin (sm.length : Int) 192 = ((min sm.length 192 : Nat) : Int) := by unfold imin; split <;> omega
    have htk2 : bv (sm.take (min sm.length 192)) = sum2 l % 6277101735386680763835789423207666416102355444464034512896 := by
      rw [bv_take _ _ (by omega), k3]
      rcases Nat.lt_or_ge sm.length 192 with h | h
      · have h2 := bv_lt sm
        rw [k3] at h2
        have h3 : 2 ^ sm.length < 2 ^ 192 := Nat.pow_lt_pow_right (by decide) h
        rw [Nat.min_eq_left (by omega), Nat.mod_eq_of_lt h2, Nat.mod_eq_of_lt (by omega)]
      · rw [Nat.min_eq_right h, e192]
    obtain ⟨z1, z2⟩ := is3_spec (b := sm.take (min sm.length 192)) m2 (by simp; omega)
    rw [m3, htk2, decide_eq_true rfl] at z1
    have hz : Int.toNat 0 = 0 := rfl
    have t192 : Int.toNat 192 = 192 := rfl
    have hq1 : decide ((192 : Int) ≤ (sum.length : Int)) = true := by simp; omega
    have hq2 : decide (0 ≤ ((min sm.length 192 : Nat) : Int)) = true := by simp
    have hq3 : decide (((min sm.length 192 : Nat) : Int) ≤ (sm.length : Int)) = true := by simp only [decide_eq_true_eq]; omega
    simp only [l1_WideThrees, l1_WideThrees_s, l1_WideThrees_t, l1_WideThrees_T, Tr.val, Tr.safe, works1, h1, l1_WideThrees_L0_ok, l1_WideThrees_L0_v, hr, hsum, hdif, Option.isSome_some, Option.getD_some, hmin, Int.toNat_natCast, hz, t192, Nat.sub_zero, List.drop_zero,
      u1, v1, a1, b1, s1, d1, id, m1, hq1, hq2, hq3, x1, x2, y1, y2, z1, z2, hbor, c2, r1]
    have hcmp : (u3_Cmp a b == r1_Cmp (l1_of3 a) (l1_of3 b)) = true := by rw [uc, c1]; simp
    have hlen : (u3_Len a == r1_Len (l1_of3 a)) = true := by rw [e1, e2]; simp
    by_cases hbig : 192 < sum.length
    · have hb1 : decide ((sum.length : Int) > 192) = true := by simp; omega
      have hb2 : decide ((192 : Int) < (sum.length : Int)) = true := by simp; omega
      have hcar : ((u3_Add a b).2 == l1_one (sum.getD 192 false)) = true := by
        rw [u4, one_eq, getD_bit, s2, e192]
        have : (n3 a + n3 b) / 6277101735386680763835789423207666416102355444464034512896 < 2 := by omega
        rw [Nat.mod_eq_of_lt this]
        simp
      simp only [hb1, hb2, hcar, hcmp, hlen]
      exact ⟨rfl, rfl⟩
    · have hb1 : decide ((sum.length : Int) > 192) = false := by simp; omega
      have hcar : ((u3_Add a b).2 == l1_one false) = true := by
        have h2 := bv_lt sum
        have : 2 ^ sum.length ≤ 2 ^ 192 := Nat.pow_le_pow_right (by decide) (by omega)
        rw [s2] at h2
        rw [u4, one_eq, Nat.div_eq_of_lt (by omega)]; rfl
      simp only [hb1, hcar, hcmp, hlen]
      exact ⟨rfl, rfl⟩
end Go.Fb
