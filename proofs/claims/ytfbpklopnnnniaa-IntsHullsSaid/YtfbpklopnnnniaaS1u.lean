/- Contracts and laws of functions of the program, on the way to the claim. Conditions: as each theorem states. -/
import Derived.Test.YtfbpklopnnnniaaS1t
import Derived.Test.YtfbpklopnnnniaaS1o
namespace Go.Proofs.Ytfbpklopnnnniaa
open Go.Ev Go.Fb

theorem small_sm {a : I3} (h : ref_Small a 12 = true) : Sm (nrm a) := by
  intro he
  have hn := nm_nrm a
  revert h
  simp only [ref_Small, ref_Small_t, ref_Small_T, Tr.val, rnorm_eq, he, cond_false, Bool.cond_decide]
  rcases hn with hn | hn
  · rw [hn] at he; cases he
  · split
    · split
      · intro _; exact ⟨by assumption, by assumption, hn.2.2.2.2.2⟩
      · intro h; cases h
    · intro h; cases h
/-- the hull, where it is known what is the least and the greatest -/
theorem hull_is {w : Int} {a b : I3} (ha : Sm (nrm a)) (hb : Sm (nrm b)) (ea : (nrm a).e = false) (eb : (nrm b).e = false) {lo hi : Int} (h1 : Sv w (nrm a) (nrm b) lo) (h2 : Sv w (nrm a) (nrm b) hi) (h3 : ∀ v, Sv w (nrm a) (nrm b) v → lo ≤ v ∧ v ≤ hi) :
    ref_Hull w a b = ⟨false, max (min lo 1099511627775) (-1099511627776), max (min hi 1099511627776) (-1099511627775)⟩ := by
  obtain ⟨_, ⟨h, _⟩ | ⟨_, _, ⟨h, _⟩ | ⟨lo', hi', k1, k2, k3, k4⟩⟩⟩ := hull_spec w ha hb
  · rw [ea, eb] at h; simp at h
  · exact absurd h1 (h lo)
  · have e1 : lo' = lo := by have := h3 lo' k1; have := k3 lo h1; omega
    have e2 : hi' = hi := by have := h3 hi' k2; have := k3 hi h2; omega
    subst e1 e2
    exact k4
theorem hull_none {w : Int} {a b : I3} (ha : Sm (nrm a)) (hb : Sm (nrm b)) (h0 : (nrm a).e = true ∨ (nrm b).e = true ∨ ∀ v, ¬ Sv w (nrm a) (nrm b) v) : ref_Hull w a b = ⟨true, 0, 0⟩ := by
  obtain ⟨_, ⟨_, h⟩ | ⟨ea, eb, ⟨_, h⟩ | ⟨lo', hi', k1, k2, k3, k4⟩⟩⟩ := hull_spec w ha hb
  · exact h
  · exact h
  · rw [ea, eb] at h0
    rcases h0 with h0 | h0 | h0
    · cases h0
    · cases h0
    · exact absurd k1 (h0 lo')
theorem sv_add {x y : I3} {v : Int} : Sv 0 x y v ↔ ∃ i, x.lo ≤ i ∧ i ≤ x.hi ∧ ∃ k, y.lo ≤ k ∧ k ≤ y.hi ∧ i + k = v := by simp [Sv, opv]
theorem sv_sub {x y : I3} {v : Int} : Sv 1 x y v ↔ ∃ i, x.lo ≤ i ∧ i ≤ x.hi ∧ ∃ k, y.lo ≤ k ∧ k ≤ y.hi ∧ i - k = v := by simp [Sv, opv]
theorem sv_mul {x y : I3} {v : Int} : Sv 2 x y v ↔ ∃ i, x.lo ≤ i ∧ i ≤ x.hi ∧ ∃ k, y.lo ≤ k ∧ k ≤ y.hi ∧ tm i k = v := by simp [Sv, opv]
theorem sv_div {x y : I3} {v : Int} : Sv 3 x y v ↔ ∃ i, x.lo ≤ i ∧ i ≤ x.hi ∧ ∃ k, y.lo ≤ k ∧ k ≤ y.hi ∧ k ≠ 0 ∧ i.tdiv k = v := by simp [Sv, opv]
theorem add_hull {a b : I3} (ha : Sm (nrm a)) (hb : Sm (nrm b)) : add (nrm a) (nrm b) = ref_Hull 0 a b := by
  cases ea : (nrm a).e
  · cases eb : (nrm b).e
    · have h1 := ha ea
      have h2 := hb eb
      rw [hull_is ha hb ea eb (lo := (nrm a).lo + (nrm b).lo) (hi := (nrm a).hi + (nrm b).hi) (sv_add.2 ⟨_, Int.le_refl _, h1.2.2, _, Int.le_refl _, h2.2.2, rfl⟩) (sv_add.2 ⟨_, h1.2.2, Int.le_refl _, _, h2.2.2, Int.le_refl _, rfl⟩)
        (fun v hv => by obtain ⟨i, _, _, k, _, _, rfl⟩ := sv_add.1 hv; omega)]
      unfold add send clip
      rw [if_neg (by simp [ea, eb]), if_neg (by omega), if_neg (by omega), if_neg (by omega), if_neg (by omega)]
      simp only [I3.mk.injEq, true_and]
      omega
    · rw [hull_none ha hb (.inr (.inl eb)), add_e (.inr eb)]
  · rw [hull_none ha hb (.inl ea), add_e (.inl ea)]
theorem sub_hull {a b : I3} (ha : Sm (nrm a)) (hb : Sm (nrm b)) : add (nrm a) (neg (nrm b)) = ref_Hull 1 a b := by
  cases ea : (nrm a).e
  · cases eb : (nrm b).e
    · have h1 := ha ea
      have h2 := hb eb
      rw [hull_is ha hb ea eb (lo := (nrm a).lo - (nrm b).hi) (hi := (nrm a).hi - (nrm b).lo) (sv_sub.2 ⟨_, Int.le_refl _, h1.2.2, _, h2.2.2, Int.le_refl _, rfl⟩) (sv_sub.2 ⟨_, h1.2.2, Int.le_refl _, _, Int.le_refl _, h2.2.2, rfl⟩)
        (fun v hv => by obtain ⟨i, _, _, k, _, _, rfl⟩ := sv_sub.1 hv; omega)]
      unfold neg add send clip
      rw [if_neg (show ¬ ((nrm b).e = true) by simp [eb])]
      simp only
      rw [if_neg (by simp [ea]), if_neg (by omega), if_neg (by omega), if_neg (by omega), if_neg (by omega)]
      simp only [I3.mk.injEq, true_and]
      omega
    · rw [hull_none ha hb (.inr (.inl eb)), add_e (.inr (by simp [neg, eb]))]
  · rw [hull_none ha hb (.inl ea), add_e (.inl ea)]
theorem neg_hull {a : I3} (ha : Sm (nrm a)) : neg (nrm a) = nrm (ref_Hull 1 (pt 0) a) := by
  have hz : nrm (pt 0) = pt 0 := nrm_pt (by decide)
  have hs : Sm (nrm (pt 0)) := by rw [hz]; exact fun _ => by decide
  rw [← sub_hull hs ha, hz]
  have e : add (pt 0) (neg (nrm a)) = neg (nrm a) := by
    cases ea : (nrm a).e
    · have h1 := ha ea
      unfold neg add send clip pt
      rw [if_neg (show ¬ ((nrm a).e = true) by simp [ea])]
      simp only
      rw [if_neg (by simp), if_neg (by omega), if_neg (by omega), if_neg (by omega), if_neg (by omega)]
      simp only [I3.mk.injEq, true_and]
      omega
    · rw [add_e (.inr (by simp [neg, ea]))]; simp [neg, ea]
  rw [e, nrm_neg]
theorem hl_of {l : List Int} {S : Int → Prop} {lo hi : Int} (h1 : ∀ v, S v → Bt l v) (h2 : ∀ p ∈ l, S p) (hlo : S lo) (hhi : S hi) (hb : ∀ v, S v → lo ≤ v ∧ v ≤ hi) (r1 : Rg lo) (r2 : Rg hi) :
    hl l = ⟨false, max (min lo 1099511627775) (-1099511627776), max (min hi 1099511627776) (-1099511627775)⟩ := by
  obtain ⟨⟨p, hp, hpl⟩, _⟩ := h1 lo hlo
  obtain ⟨_, q, hq, hqh⟩ := h1 hi hhi
  have m1 := (foldl_min_le l 1099511627776).2 p hp
  have m2 := (le_foldl_max l (-1099511627776)).2 q hq
  have m3 := le_foldl_min l 1099511627776 lo r1.2 fun p hp => (hb p (h2 p hp)).1
  have m4 := foldl_max_le l (-1099511627776) hi r2.1 fun p hp => (hb p (h2 p hp)).2
  unfold hl mn mx clip
  unfold Rg at r1 r2
  simp only [I3.mk.injEq, true_and]
  omega
theorem tm_rg (i k : Int) : Rg (tm i k) := by unfold tm clip Rg; omega
theorem mul_hull {a b : I3} (ha : Sm (nrm a)) (hb : Sm (nrm b)) : ml (nrm a) (nrm b) = ref_Hull 2 a b := by
  cases ea : (nrm a).e
  · cases eb : (nrm b).e
    · have h1 := ha ea
      have h2 := hb eb
      have hmem : ∀ p ∈ cm (nrm a).lo (nrm a).hi (nrm b).lo (nrm b).hi, Sv 2 (nrm a) (nrm b) p := fun p hp => by
        unfold cm at hp
        simp only [List.mem_cons, List.not_mem_nil, or_false] at hp
        rcases hp with rfl | rfl | rfl | rfl <;> exact sv_mul.2 ⟨_, by omega, by omega, _, by omega, by omega, rfl⟩
      obtain ⟨_, ⟨h, _⟩ | ⟨_, _, ⟨h, _⟩ | ⟨lo, hi, k1, k2, k3, k4⟩⟩⟩ := hull_spec 2 ha hb
      · rw [ea, eb] at h; simp at h
      · exact absurd (hmem _ (by simp [cm]; exact .inl rfl)) (h _)
      · rw [k4]
        unfold ml
        rw [if_neg (by simp [ea, eb])]
        have r1 : Rg lo := by obtain ⟨i, _, _, k, _, _, rfl⟩ := sv_mul.1 k1; exact tm_rg i k
        have r2 : Rg hi := by obtain ⟨i, _, _, k, _, _, rfl⟩ := sv_mul.1 k2; exact tm_rg i k
        exact hl_of (S := Sv 2 (nrm a) (nrm b)) (fun v hv => by obtain ⟨i, q1, q2, k, q3, q4, rfl⟩ := sv_mul.1 hv; exact cm_btw q1 q2 q3 q4) hmem k1 k2 k3 r1 r2
    · rw [hull_none ha hb (.inr (.inl eb)), ml, if_pos (.inr eb)]
  · rw [hull_none ha hb (.inl ea), ml, if_pos (.inl ea)]
theorem ov_near {i k : Int} (h1 : -1099511627776 < i ∧ i < 1099511627776) (h2 : -1099511627776 < k ∧ k < 1099511627776) : ov i k = i.tdiv k := by
  unfold ov
  rw [if_neg (by omega), if_neg (by omega)]
theorem div_hull {a b : I3} (ha : Sm (nrm a)) (hb : Sm (nrm b)) : dv (nrm a) (nrm b) = ref_Hull 3 a b := by
  have na := nm_nrm a
  have nb := nm_nrm b
  cases ea : (nrm a).e
  · cases eb : (nrm b).e
    · have h1 := ha ea
      have h2 := hb eb
      have hbt : ∀ v, Sv 3 (nrm a) (nrm b) v → Bt (dl (nrm a) (nrm a) (nrm b)) v := fun v hv => by
        obtain ⟨i, q1, q2, k, q3, q4, q5, rfl⟩ := sv_div.1 hv
        have := dl_btw na nb (x := i) (y := k) ⟨ea, q1, q2⟩ ⟨eb, q3, q4⟩ q5
        rwa [ov_near (by omega) (by omega)] at this
      have hmem : ∀ p ∈ dl (nrm a) (nrm a) (nrm b), Sv 3 (nrm a) (nrm b) p := fun p hp => by
        unfold dl at hp
        rcases List.mem_append.1 hp with hp | hp
        · obtain ⟨e, he, rfl⟩ := List.mem_map.1 hp
          obtain ⟨⟨_, q1, q2⟩, q3, _⟩ := ends_in nb he
          rw [ov_near (by omega) (by omega)]
          exact sv_div.2 ⟨_, by omega, by omega, _, q1, q2, q3, rfl⟩
        · obtain ⟨e, he, rfl⟩ := List.mem_map.1 hp
          obtain ⟨⟨_, q1, q2⟩, q3, _⟩ := ends_in nb he
          rw [ov_near (by omega) (by omega)]
          exact sv_div.2 ⟨_, by omega, by omega, _, q1, q2, q3, rfl⟩
      unfold dv
      rw [if_neg (by simp [ea, eb])]
      by_cases hends : ends (nrm b) = []
      · rw [if_pos hends, hull_none ha hb (.inr (.inr fun v hv => by
          obtain ⟨i, q1, q2, k, q3, q4, q5, rfl⟩ := sv_div.1 hv
          obtain ⟨c, hc, _⟩ := ends_btw nb (y := k) ⟨eb, q3, q4⟩ q5
          rw [hends] at hc; cases hc))]
      · rw [if_neg hends]
        obtain ⟨e, he⟩ := List.exists_mem_of_ne_nil _ hends
        have hne : ov (nrm a).lo e ∈ dl (nrm a) (nrm a) (nrm b) := by unfold dl; exact List.mem_append_left _ (List.mem_map_of_mem he)
        obtain ⟨_, ⟨h, _⟩ | ⟨_, _, ⟨h, _⟩ | ⟨lo, hi, k1, k2, k3, k4⟩⟩⟩ := hull_spec 3 ha hb
        · rw [ea, eb] at h; simp at h
        · exact absurd (hmem _ hne) (h _)
        · rw [k4]
          have r1 : Rg lo := by obtain ⟨i, _, _, k, _, _, _, rfl⟩ := sv_div.1 k1; exact tdiv_rg k (by unfold Rg; omega)
          have r2 : Rg hi := by obtain ⟨i, _, _, k, _, _, _, rfl⟩ := sv_div.1 k2; exact tdiv_rg k (by unfold Rg; omega)
          exact hl_of (S := Sv 3 (nrm a) (nrm b)) hbt hmem k1 k2 k3 r1 r2
    · rw [hull_none ha hb (.inr (.inl eb)), dv, if_pos (.inr eb)]
  · rw [hull_none ha hb (.inl ea), dv, if_pos (.inl ea)]
theorem IntsHulls_both (a b : I3) : l17_IntsHulls a b = true ∧ l17_IntsHulls_s a b = true := by
  simp only [l17_IntsHulls, l17_IntsHulls_s, l17_IntsHulls_t, l17_IntsHulls_T, Tr.val, Tr.safe, works17]
  cases h1 : ref_Small a 12
  · exact ⟨rfl, rfl⟩
  cases h2 : ref_Small b 12
  · exact ⟨rfl, rfl⟩
  have ha := small_sm h1
  have hb := small_sm h2
  have hz : nrm (pt 0) = pt 0 := nrm_pt (by decide)
  have hs : Sm (nrm (pt 0)) := by rw [hz]; exact fun _ => by decide
  have p0 : ints_Point 0 = pt 0 := by rw [point_eq]; exact nrm_pt (by decide)
  have m1 : ints_Make 0 1099511627776 = pos := by rw [make_eq]; exact nrm_nm nm_pos
  have e' : nrm pos = pos := nrm_nm nm_pos
  simp only [p0, m1, rnorm_eq, abs_eq, meet_eq, neg_eq, join2_eq, add_eq, sub_eq, mul_eq, div_eq, nrm_neg, e', nrm_nm (nm_meet _ _), (hull_spec 1 hs ha).1, (hull_spec 0 ha hb).1, (hull_spec 1 ha hb).1, (hull_spec 2 ha hb).1, (hull_spec 3 ha hb).1,
    ← add_hull ha hb, ← sub_hull ha hb, ← mul_hull ha hb, ← div_hull ha hb, ← neg_hull ha, ab, beq_self_eq_true]
  exact ⟨rfl, rfl⟩
end Go.Proofs.Ytfbpklopnnnniaa
