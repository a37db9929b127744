/- Contracts and laws of functions of the program, on the way to the claim. Conditions: as each theorem states. -/
import Derived.Test.YtfbpklopnnnniaaS1q
namespace Go.Proofs.Ytfbpklopnnnniaa
open Go.Ev Go.Fb

/-! ### One by one -/
theorem rtimes_eq {x y : Int} (hx : Rg x) (hy : Rg y) : ref_times x y = tm x y ∧ ref_times_s x y = true := by
  rw [← times_eq hx hy]
  have hs := times_safe (x := x) hy.1 hy.2
  revert hs
  unfold Rg at hx hy
  simp only [ints_times, ints_times_s, ints_times_t, ints_times_T, ref_times, ref_times_s, ref_times_t, ref_times_T, Tr.val, Tr.safe, abs_small hx.1 hx.2, abs_small hy.1 hy.2]
  rw [w64 (n := 0 - x) (by omega) (by omega), w64 (n := 0 - y) (by omega) (by omega)]
  intro hs
  have hd : ∀ a q : Int, decide (a > q) = !decide (a ≤ q) := fun a q => by
    by_cases h : a ≤ q
    · rw [decide_eq_true h, decide_eq_false (by omega)]; rfl
    · rw [decide_eq_false h, decide_eq_true (by omega)]; rfl
  by_cases h1 : x = 0
  · subst h1; exact ⟨rfl, rfl⟩
  by_cases h2 : y = 0
  · subst h2; rw [beq_eq_false_iff_ne.2 h1]; exact ⟨rfl, rfl⟩
  rw [beq_eq_false_iff_ne.2 h1, beq_eq_false_iff_ne.2 h2] at hs ⊢
  have e3 : ∀ z : Int, z ≠ 0 → (z == 0) = false := fun z hz => beq_eq_false_iff_ne.2 hz
  by_cases h3 : x < 0 <;> by_cases h4 : y < 0 <;> simp only [h3, h4, decide_true, decide_false, cond_true, cond_false, hd]
  · rw [show max x (-x) = 0 - x by omega, show max y (-y) = 0 - y by omega, e3 (0 - y) (by omega)]
    cases decide (0 - x ≤ _) <;> exact ⟨rfl, rfl⟩
  · rw [show max x (-x) = 0 - x by omega, show max y (-y) = y by omega]
    cases decide (0 - x ≤ _) <;> exact ⟨rfl, rfl⟩
  · rw [show max x (-x) = x by omega, show max y (-y) = 0 - y by omega, e3 (0 - y) (by omega)]
    cases decide (x ≤ _) <;> exact ⟨rfl, rfl⟩
  · rw [show max x (-x) = x by omega, show max y (-y) = y by omega]
    cases decide (x ≤ _) <;> exact ⟨rfl, rfl⟩
/-- what comes of two integers -/
def opv (w i k : Int) : Option Int := if w = 1 then some (i - k) else if w = 2 then some (tm i k) else if w = 3 then (if k = 0 then none else some (i.tdiv k)) else some (i + k)
def acc (s : Bool × Int × Int) (v : Int) : Bool × Int × Int := (false, if s.1 then v else min s.2.1 v, if s.1 then v else max s.2.2 v)
def accO (s : Bool × Int × Int) : Option Int → Bool × Int × Int
  | some v => acc s v
  | none => s
/-- the least and the greatest of some -/
def Acc (S : Int → Prop) (s : Bool × Int × Int) : Prop := (s = (true, 0, 0) ∧ ∀ v, ¬ S v) ∨ (s.1 = false ∧ S s.2.1 ∧ S s.2.2 ∧ ∀ v, S v → s.2.1 ≤ v ∧ v ≤ s.2.2)
theorem Acc.congr {S T : Int → Prop} {s} (h : Acc S s) (e : ∀ v, S v ↔ T v) : Acc T s := by
  have : S = T := funext fun v => propext (e v)
  rw [← this]; exact h
theorem Acc.add {S : Int → Prop} {s} (h : Acc S s) (o : Option Int) : Acc (fun u => S u ∨ o = some u) (accO s o) := by
  cases o with
  | none => exact h.congr fun v => by simp
  | some v =>
    right
    rcases h with ⟨rfl, h⟩ | ⟨h1, h2, h3, h4⟩
    · exact ⟨rfl, .inr rfl, .inr rfl, fun u hu => by
        rcases hu with hu | hu
        · exact absurd hu (h u)
        · cases hu; simp [accO, acc]⟩
    · obtain ⟨e, lo, hi⟩ := s
      simp only at h1 h2 h3 h4
      subst h1
      have hv : lo ≤ lo ∧ lo ≤ hi := h4 lo h2 |>.imp (fun _ => Int.le_refl _) id
      refine ⟨rfl, ?_, ?_, fun u hu => ?_⟩
      · show S (min lo v) ∨ some v = some (min lo v)
        rcases Int.le_total lo v with h | h
        · rw [Int.min_eq_left h]; exact .inl h2
        · rw [Int.min_eq_right h]; exact .inr rfl
      · show S (max hi v) ∨ some v = some (max hi v)
        rcases Int.le_total hi v with h | h
        · rw [Int.max_eq_right h]; exact .inr rfl
        · rw [Int.max_eq_left h]; exact .inl h3
      · show min lo v ≤ u ∧ u ≤ max hi v
        rcases hu with hu | hu
        · have := h4 u hu; omega
        · cases hu; omega
section
variable (w : Int) (z1 z2 z3 z4 z5 z6 z7 z8 z9 : Int) (b1 b2 b3 b4 b5 b6 : Bool) {xl xh yl yh : Int}
theorem L1_step (i k : Int) (hi : -1099511627776 < i ∧ i < 1099511627776) (hk : -1099511627776 < k ∧ k < 1099511627776) (hle : k ≤ yh) (s : Bool × Int × Int) :
    (ref_Hull_L1_step (w, i, b1, z1, z2, b2, z3, b3, z4, z5, b4, z6, z7, b5, z8, yh) (k, s)).safe = true ∧ (ref_Hull_L1_step (w, i, b1, z1, z2, b2, z3, b3, z4, z5, b4, z6, z7, b5, z8, yh) (k, s)).val = .inl (k + 1, accO s (opv w i k)) := by
  obtain ⟨e, lo, hi'⟩ := s
  have ht := rtimes_eq (x := i) (y := k) (by unfold Rg; omega) (by unfold Rg; omega)
  have htd := tdiv_rg (x := i) k (by unfold Rg; omega)
  unfold Rg at htd
  simp only [ref_Hull_L1_step, ref_Hull_L1_T, Tr.safe, Tr.val, decide_eq_true hle, ht.1, ht.2, imax_eq, imin_eq]
  rw [w64 (n := k + 1) (by omega) (by omega), w64 (n := i - k) (by omega) (by omega), w64 (n := i + k) (by omega) (by omega), w64 (n := i.tdiv k) (by omega) (by omega)]
  unfold opv
  by_cases h1 : w = 1
  · subst h1; cases e <;> simp [accO, acc]
  by_cases h2 : w = 2
  · subst h2; cases e <;> simp [accO, acc]
  by_cases h3 : w = 3
  · subst h3
    by_cases h4 : k = 0
    · subst h4; simp [accO]
    · have q4 : (k == 0) = false := beq_eq_false_iff_ne.2 h4
      cases e <;> simp [accO, acc, h4, q4]
  · have q1 : (w == 1) = false := beq_eq_false_iff_ne.2 h1
    have q2 : (w == 2) = false := beq_eq_false_iff_ne.2 h2
    have q3 : (w == 3) = false := beq_eq_false_iff_ne.2 h3
    cases e <;> simp [accO, acc, h1, h2, h3, q1, q2, q3]
theorem L1_run (i : Int) (hi : -1099511627776 < i ∧ i < 1099511627776) (hyh : yh < 1099511627776) : ∀ (m : Nat) (k : Int) (s : Bool × Int × Int) (S : Int → Prop), -1099511627776 < k → k + m = yh + 1 → Acc S s →
    ∃ s', runL (ref_Hull_L1_step (w, i, b1, z1, z2, b2, z3, b3, z4, z5, b4, z6, z7, b5, z8, yh)) (m + 1) (k, s) = some (yh + 1, s') ∧ Acc (fun v => S v ∨ ∃ k', k ≤ k' ∧ k' ≤ yh ∧ opv w i k' = some v) s'
  | 0, k, s, S, hk, hm, hs => by
    have e : k = yh + 1 := by omega
    subst e
    refine ⟨s, ?_, hs.congr fun v => ⟨.inl, fun h => h.elim id fun ⟨k', h1, h2, _⟩ => by omega⟩⟩
    rw [runL]
    simp only [ref_Hull_L1_step, ref_Hull_L1_T, Tr.safe, Tr.val, decide_eq_false (show ¬ yh + 1 ≤ yh by omega), cond_false, cond_true]
  | m + 1, k, s, S, hk, hm, hs => by
    obtain ⟨h1, h2⟩ := L1_step w z1 z2 z3 z4 z5 z6 z7 z8 b1 b2 b3 b4 b5 (yh := yh) i k hi (by omega) (by omega) s
    obtain ⟨s', h3, h4⟩ := L1_run i hi hyh m (k + 1) _ _ (by omega) (by omega) (hs.add (opv w i k))
    refine ⟨s', ?_, h4.congr fun v => ?_⟩
    · rw [runL, h1, h2]; exact h3
    · constructor
      · rintro ((h | h) | ⟨k', h5, h6, h7⟩)
        · exact .inl h
        · exact .inr ⟨k, Int.le_refl _, by omega, h⟩
        · exact .inr ⟨k', by omega, h6, h7⟩
      · rintro (h | ⟨k', h5, h6, h7⟩)
        · exact .inl (.inl h)
        · by_cases e : k' = k
          · subst e; exact .inl (.inr h7)
          · exact .inr ⟨k', by omega, h6, h7⟩
theorem L0_run (hyl : -1099511627776 < yl) (hyy : yl ≤ yh) (hyh : yh < 1099511627776) (hxh : xh < 1099511627776) : ∀ (m : Nat) (i : Int) (s : Bool × Int × Int) (S : Int → Prop), -1099511627776 < i → i + m = xh + 1 → Acc S s →
    ∃ s', runL (ref_Hull_L0_step (w, b1, b2, z1, z2, b3, z3, xh, b4, yl, yh)) (m + 1) (i, s) = some (xh + 1, s') ∧ Acc (fun v => S v ∨ ∃ i', i ≤ i' ∧ i' ≤ xh ∧ ∃ k', yl ≤ k' ∧ k' ≤ yh ∧ opv w i' k' = some v) s'
  | 0, i, s, S, hi, hm, hs => by
    have e : i = xh + 1 := by omega
    subst e
    refine ⟨s, ?_, hs.congr fun v => ⟨.inl, fun h => h.elim id fun ⟨k', h1, h2, _⟩ => by omega⟩⟩
    rw [runL]
    simp only [ref_Hull_L0_step, ref_Hull_L0_T, Tr.safe, Tr.val, decide_eq_false (show ¬ xh + 1 ≤ xh by omega), cond_false, cond_true]
  | m + 1, i, s, S, hi, hm, hs => by
    obtain ⟨s1, h1, h2⟩ := L1_run w i xh yl z1 z2 z3 xh yl b1 true b2 b3 b4 (yh := yh) i (by omega) hyh (yh + 1 - yl).toNat yl s S hyl (by omega) hs
    have hr : ref_Hull_L1_r (w, i, b1, i, xh, true, yl, b2, z1, z2, b3, z3, xh, b4, yl, yh) (yl, s) = some (yh + 1, s1) := runB_of h1 (by omega)
    obtain ⟨s', h3, h4⟩ := L0_run hyl hyy hyh hxh m (i + 1) s1 _ (by omega) (by omega) h2
    refine ⟨s', ?_, h4.congr fun v => ?_⟩
    · rw [runL]
      simp only [ref_Hull_L0_step, ref_Hull_L0_T, Tr.safe, Tr.val, decide_eq_true (show i ≤ xh by omega), cond_true, ref_Hull_L1_ok, ref_Hull_L1_v]
      have e : (yl, s.1, s.2.1, s.2.2) = (yl, s) := rfl
      rw [e, hr, w64 (n := i + 1) (by omega) (by omega)]
      exact h3
    · constructor
      · rintro ((h | ⟨k', h5, h6, h7⟩) | ⟨i', h5, h6, h7⟩)
        · exact .inl h
        · exact .inr ⟨i, Int.le_refl _, by omega, k', h5, h6, h7⟩
        · exact .inr ⟨i', by omega, h6, h7⟩
      · rintro (h | ⟨i', h5, h6, h7⟩)
        · exact .inl (.inl h)
        · by_cases e : i' = i
          · subst e; exact .inl (.inr h7)
          · exact .inr ⟨i', by omega, h6, h7⟩
end
/-- what comes of all -/
def Sv (w : Int) (x y : I3) (v : Int) : Prop := ∃ i, x.lo ≤ i ∧ i ≤ x.hi ∧ ∃ k, y.lo ≤ k ∧ k ≤ y.hi ∧ opv w i k = some v
def Sm (x : I3) : Prop := x.e = false → -1099511627776 < x.lo ∧ x.hi < 1099511627776 ∧ x.lo ≤ x.hi
theorem hull_spec (w : Int) {a b : I3} (ha : Sm (nrm a)) (hb : Sm (nrm b)) : ref_Hull_s w a b = true ∧ (((nrm a).e = true ∨ (nrm b).e = true) ∧ ref_Hull w a b = ⟨true, 0, 0⟩ ∨ (nrm a).e = false ∧ (nrm b).e = false ∧
    ((∀ v, ¬ Sv w (nrm a) (nrm b) v) ∧ ref_Hull w a b = ⟨true, 0, 0⟩ ∨ ∃ lo hi, Sv w (nrm a) (nrm b) lo ∧ Sv w (nrm a) (nrm b) hi ∧ (∀ v, Sv w (nrm a) (nrm b) v → lo ≤ v ∧ v ≤ hi) ∧
      ref_Hull w a b = ⟨false, max (min lo 1099511627775) (-1099511627776), max (min hi 1099511627776) (-1099511627775)⟩)) := by
  simp only [ref_Hull, ref_Hull_s, ref_Hull_t, ref_Hull_T, Tr.val, Tr.safe, rnorm_eq]
  generalize nrm a = x at *
  generalize nrm b = y at *
  cases hxe : x.e
  · cases hye : y.e
    · have hx := ha hxe
      have hy := hb hye
      obtain ⟨s, h1, h2⟩ := L0_run w 0 0 x.lo false false false false (xh := x.hi) (yl := y.lo) (yh := y.hi) hy.1 hy.2.2 hy.2.1 hx.2.1 (x.hi + 1 - x.lo).toNat x.lo (true, 0, 0) (fun _ => False) hx.1 (by omega) (.inl ⟨rfl, fun _ h => h⟩)
      have hr : ref_Hull_L0_r (w, false, false, 0, 0, false, x.lo, x.hi, false, y.lo, y.hi) (x.lo, true, 0, 0) = some (x.hi + 1, s) := runB_of h1 (by omega)
      have h3 : Acc (Sv w x y) s := h2.congr fun v => by simp [Sv]
      simp only [ref_Hull_L0_ok, ref_Hull_L0_v, hr, Option.isSome_some, Option.getD_some, cond_false, imax_eq, imin_eq]
      rcases h3 with ⟨rfl, h3⟩ | ⟨e1, h3⟩
      · exact ⟨rfl, .inr ⟨trivial, trivial, .inl ⟨h3, rfl⟩⟩⟩
      · rw [e1]
        exact ⟨rfl, .inr ⟨trivial, trivial, .inr ⟨_, _, h3.1, h3.2.1, h3.2.2, rfl⟩⟩⟩
    · exact ⟨rfl, .inl ⟨.inr rfl, rfl⟩⟩
  · exact ⟨rfl, .inl ⟨.inl rfl, rfl⟩⟩
end Go.Proofs.Ytfbpklopnnnniaa
