/- Layer 4: the laws hold, in plain Lean. Conditions: as each theorem states. -/
import Derived.Test.YtdkbeajkedffeaaPl
import Derived.Test.YtdkbeajkedffeaaPp
namespace Go.Fb
open Go.Ev
end Go.Fb
namespace Go.Fb
open Go.Ev
end Go.Fb
namespace Go.Fb
open Go.Ev
theorem less_key {a b : Int} (ha : Wd a) (hb : Wd b) : p_Less a b = (!p_nan a && (!p_nan b && decide (p_key a < p_key b))) := by
  obtain ⟨s, k, hk, rfl⟩ := fl_of ha
  obtain ⟨t, j, hj, rfl⟩ := fl_of hb
  rw [less_spec hk hj, nan_spec hk, nan_spec hj, key_spec hk, key_spec hj]
  unfold fless
  by_cases h1 : 9218868437227405312 < k
  · rw [dt h1, df (p := k ≤ _ ∧ _) (by omega)]; rfl
  · by_cases h2 : 9218868437227405312 < j
    · rw [df h1, dt h2, df (p := k ≤ _ ∧ _) (by omega)]; rfl
    · rw [df h1, df h2]
      by_cases h3 : ky s k < ky t j
      · rw [dt h3, dt (p := k ≤ 9218868437227405312 ∧ j ≤ 9218868437227405312 ∧ ky s k < ky t j) (by omega)]; rfl
      · rw [df h3, df (p := k ≤ 9218868437227405312 ∧ j ≤ 9218868437227405312 ∧ ky s k < ky t j) (by omega)]; rfl
def WdL (l : List Int) : Prop := ∀ x ∈ l, Wd x
theorem WdL.at {l : List Int} (h : WdL l) {i : Nat} (hi : i < l.length) : Wd (l.getD i 0) := h _ (by simp [List.getD, hi])
def BestOk (l : List Int) (bet : Int → Int → Bool) : (Int × Int) ⊕ Int → Prop
  | .inl (m, _) => ∃ t, t < l.length ∧ m = l.getD t 0 ∧ ∀ j, j < l.length → p_nan (l.getD j 0) = false ∧ bet (p_key (l.getD j 0)) (p_key m) = false
  | .inr q => q = 9221120237041090560 ∧ ∃ j, j < l.length ∧ p_nan (l.getD j 0) = true
theorem bestM_run {l : List Int} (hw : WdL l) (hl : l.length ≤ 1000000) : ∀ (m i t : Nat), i + m = l.length → t < l.length → (t < i ∨ i = 0 ∧ t = 0) → (∀ j, j < i → p_nan (l.getD j 0) = false ∧ p_key (l.getD j 0) ≤ p_key (l.getD t 0)) →
    ∃ r, runL (p_bestM_L0_step (l, (l.length : Int))) (m + 1) (l.getD t 0, (i : Int)) = some r ∧ BestOk l (fun x y => decide (y < x)) r
  | 0, i, t, hi, ht, hti, hm => by
    have : i = l.length := by omega
    subst this
    exact ⟨.inl (l.getD t 0, _), runL_out (Tr.is_br_f (df (by first | omega | (dsimp only; omega))) (Tr.is_leaf rfl)), t, ht, rfl, fun j hj => ⟨(hm j hj).1, df (by have := (hm j hj).2; omega)⟩⟩
  | m + 1, i, t, hi, ht, hti, hm => by
    have hil : i < l.length := by omega
    have c0 : decide ((i : Int) < (l.length : Int)) = true := dt (by omega)
    have c1 : (decide ((0 : Int) ≤ (i : Int)) && decide ((i : Int) < (l.length : Int))) = true := by simp; omega
    have e4 : IntKind.i64.wrap ((i : Int) + 1) = ((i + 1 : Nat) : Int) := wnext (by omega)
    cases hn : p_nan (l.getD i 0) with
    | true => exact ⟨.inr p_Quiet, runL_out (Tr.is_br_t c0 (Tr.is_ast c1 (Tr.is_br_t hn (Tr.is_leaf rfl)))), rfl, i, hil, hn⟩
    | false =>
      have hnt : p_nan (l.getD t 0) = false := by
        rcases hti with h | ⟨h1, h2⟩
        · exact (hm t h).1
        · rw [h2, ← h1]; exact hn
      have hless : p_Max1 (l.getD i 0) (l.getD t 0) = decide (p_key (l.getD t 0) < p_key (l.getD i 0)) := by
        have e : p_Max1 (l.getD i 0) (l.getD t 0) = p_Less (l.getD t 0) (l.getD i 0) := rfl
        rw [e, less_key (hw.at ht) (hw.at hil), hn, hnt]; rfl
      by_cases hgt : p_key (l.getD t 0) < p_key (l.getD i 0)
      · rw [dt hgt] at hless
        obtain ⟨r, r1, r2⟩ := bestM_run hw hl m (i + 1) i (by omega) hil (by omega) (fun j hj => by
          by_cases hji : j < i
          · have := hm j hji; exact ⟨this.1, by omega⟩
          · have : j = i := by omega
            subst this; exact ⟨hn, by omega⟩)
        refine ⟨r, ?_, r2⟩
        rw [← r1]
        exact runL_next (Tr.is_br_t c0 (Tr.is_ast c1 (Tr.is_br_f hn (Tr.is_br_t hless (Tr.is_leaf (by rw [e4]; rfl))))))
      · rw [df hgt] at hless
        obtain ⟨r, r1, r2⟩ := bestM_run hw hl m (i + 1) t (by omega) ht (by omega) (fun j hj => by
          by_cases hji : j < i
          · exact hm j hji
          · have : j = i := by omega
            subst this; exact ⟨hn, by omega⟩)
        refine ⟨r, ?_, r2⟩
        rw [← r1]
        exact runL_next (Tr.is_br_t c0 (Tr.is_ast c1 (Tr.is_br_f hn (Tr.is_br_f hless (Tr.is_leaf (by rw [e4]))))))
theorem bestL_run {l : List Int} (hw : WdL l) (hl : l.length ≤ 1000000) : ∀ (m i t : Nat), i + m = l.length → t < l.length → (t < i ∨ i = 0 ∧ t = 0) → (∀ j, j < i → p_nan (l.getD j 0) = false ∧ p_key (l.getD t 0) ≤ p_key (l.getD j 0)) →
    ∃ r, runL (p_bestL_L0_step (l, (l.length : Int))) (m + 1) (l.getD t 0, (i : Int)) = some r ∧ BestOk l (fun x y => decide (x < y)) r
  | 0, i, t, hi, ht, hti, hm => by
    have : i = l.length := by omega
    subst this
    exact ⟨.inl (l.getD t 0, _), runL_out (Tr.is_br_f (df (by first | omega | (dsimp only; omega))) (Tr.is_leaf rfl)), t, ht, rfl, fun j hj => ⟨(hm j hj).1, df (by have := (hm j hj).2; omega)⟩⟩
  | m + 1, i, t, hi, ht, hti, hm => by
    have hil : i < l.length := by omega
    have c0 : decide ((i : Int) < (l.length : Int)) = true := dt (by omega)
    have c1 : (decide ((0 : Int) ≤ (i : Int)) && decide ((i : Int) < (l.length : Int))) = true := by simp; omega
    have e4 : IntKind.i64.wrap ((i : Int) + 1) = ((i + 1 : Nat) : Int) := wnext (by omega)
    cases hn : p_nan (l.getD i 0) with
    | true => exact ⟨.inr p_Quiet, runL_out (Tr.is_br_t c0 (Tr.is_ast c1 (Tr.is_br_t hn (Tr.is_leaf rfl)))), rfl, i, hil, hn⟩
    | false =>
      have hnt : p_nan (l.getD t 0) = false := by
        rcases hti with h | ⟨h1, h2⟩
        · exact (hm t h).1
        · rw [h2, ← h1]; exact hn
      have hless : p_Less (l.getD i 0) (l.getD t 0) = decide (p_key (l.getD i 0) < p_key (l.getD t 0)) := by
        rw [less_key (hw.at hil) (hw.at ht), hn, hnt]; rfl
      by_cases hgt : p_key (l.getD i 0) < p_key (l.getD t 0)
      · rw [dt hgt] at hless
        obtain ⟨r, r1, r2⟩ := bestL_run hw hl m (i + 1) i (by omega) hil (by omega) (fun j hj => by
          by_cases hji : j < i
          · have := hm j hji; exact ⟨this.1, by omega⟩
          · have : j = i := by omega
            subst this; exact ⟨hn, by omega⟩)
        refine ⟨r, ?_, r2⟩
        rw [← r1]
        exact runL_next (Tr.is_br_t c0 (Tr.is_ast c1 (Tr.is_br_f hn (Tr.is_br_t hless (Tr.is_leaf (by rw [e4]; rfl))))))
      · rw [df hgt] at hless
        obtain ⟨r, r1, r2⟩ := bestL_run hw hl m (i + 1) t (by omega) ht (by omega) (fun j hj => by
          by_cases hji : j < i
          · exact hm j hji
          · have : j = i := by omega
            subst this; exact ⟨hn, by omega⟩)
        refine ⟨r, ?_, r2⟩
        rw [← r1]
        exact runL_next (Tr.is_br_t c0 (Tr.is_ast c1 (Tr.is_br_f hn (Tr.is_br_f hless (Tr.is_leaf (by rw [e4]))))))
def MostOk (l : List Int) (bet : Int → Int → Bool) (v : Int) : Prop :=
  (v = 9221120237041090560 ∧ (l.length = 0 ∨ ∃ j, j < l.length ∧ p_nan (l.getD j 0) = true)) ∨ (∃ t, t < l.length ∧ v = l.getD t 0 ∧ ∀ j, j < l.length → p_nan (l.getD j 0) = false ∧ bet (p_key (l.getD j 0)) (p_key v) = false)
theorem pmax_spec {l : List Int} (hw : WdL l) (hl : l.length ≤ 1000000) : p_Max_s l = true ∧ MostOk l (fun x y => decide (y < x)) (p_Max l) := by
  suffices h : ∃ v, Tr.Is (p_bestM_t l ()) v ∧ MostOk l (fun x y => decide (y < x)) v by
    obtain ⟨v, h1, h2⟩ := h
    have e : p_bestM l () = v := h1.1
    have : Tr.Is (p_Max_t l) v := Tr.is_ast h1.2 (Tr.is_leaf e)
    have e2 : p_Max l = v := this.1
    rw [e2]; exact ⟨this.2, h2⟩
  by_cases h0 : l.length = 0
  · exact ⟨_, Tr.is_br_t (bt (by omega)) (Tr.is_leaf rfl), .inl ⟨rfl, .inl h0⟩⟩
  · obtain ⟨r, r1, r2⟩ := bestM_run hw hl l.length 0 0 (by omega) (by omega) (.inr ⟨rfl, rfl⟩) (fun j hj => by omega)
    have hr : p_bestM_L0_r (l, (l.length : Int)) (l.getD 0 0, 0) = some r := runB_of r1 (by omega)
    have pre : ∀ v, Tr.Is (.br (p_bestM_L0_rt (l, (l.length : Int)) (l.getD 0 0, 0)) (.leaf (p_bestM_L0_rv (l, (l.length : Int)) (l.getD 0 0, 0))) (.leaf (p_bestM_L0_v (l, (l.length : Int)) (l.getD 0 0, 0)).1)) v → Tr.Is (p_bestM_t l ()) v := fun v hv =>
      Tr.is_br_f (bf (by omega)) (Tr.is_ast (dt (by omega)) (Tr.is_ast (by show p_bestM_L0_ok (l, (l.length : Int)) (l.getD 0 0, 0) = true; unfold p_bestM_L0_ok; rw [hr]; rfl) hv))
    match r, r2, hr with
    | .inl (m, a), ⟨t, h1, h2, h3⟩, hr =>
      refine ⟨m, pre _ (Tr.is_br_f ?_ (Tr.is_leaf ?_)), .inr ⟨t, h1, h2, h3⟩⟩
      · unfold p_bestM_L0_rt; rw [hr]; rfl
      · unfold p_bestM_L0_v; rw [hr]; rfl
    | .inr q, ⟨h1, h2⟩, hr =>
      refine ⟨q, pre _ (Tr.is_br_t ?_ (Tr.is_leaf ?_)), .inl ⟨h1, .inr h2⟩⟩
      · unfold p_bestM_L0_rt; rw [hr]; rfl
      · unfold p_bestM_L0_rv; rw [hr]; rfl
theorem pmin_spec {l : List Int} (hw : WdL l) (hl : l.length ≤ 1000000) : p_Min_s l = true ∧ MostOk l (fun x y => decide (x < y)) (p_Min l) := by
  suffices h : ∃ v, Tr.Is (p_bestL_t l ()) v ∧ MostOk l (fun x y => decide (x < y)) v by
    obtain ⟨v, h1, h2⟩ := h
    have e : p_bestL l () = v := h1.1
    have : Tr.Is (p_Min_t l) v := Tr.is_ast h1.2 (Tr.is_leaf e)
    have e2 : p_Min l = v := this.1
    rw [e2]; exact ⟨this.2, h2⟩
  by_cases h0 : l.length = 0
  · exact ⟨_, Tr.is_br_t (bt (by omega)) (Tr.is_leaf rfl), .inl ⟨rfl, .inl h0⟩⟩
  · obtain ⟨r, r1, r2⟩ := bestL_run hw hl l.length 0 0 (by omega) (by omega) (.inr ⟨rfl, rfl⟩) (fun j hj => by omega)
    have hr : p_bestL_L0_r (l, (l.length : Int)) (l.getD 0 0, 0) = some r := runB_of r1 (by omega)
    have pre : ∀ v, Tr.Is (.br (p_bestL_L0_rt (l, (l.length : Int)) (l.getD 0 0, 0)) (.leaf (p_bestL_L0_rv (l, (l.length : Int)) (l.getD 0 0, 0))) (.leaf (p_bestL_L0_v (l, (l.length : Int)) (l.getD 0 0, 0)).1)) v → Tr.Is (p_bestL_t l ()) v := fun v hv =>
      Tr.is_br_f (bf (by omega)) (Tr.is_ast (dt (by omega)) (Tr.is_ast (by show p_bestL_L0_ok (l, (l.length : Int)) (l.getD 0 0, 0) = true; unfold p_bestL_L0_ok; rw [hr]; rfl) hv))
    match r, r2, hr with
    | .inl (m, a), ⟨t, h1, h2, h3⟩, hr =>
      refine ⟨m, pre _ (Tr.is_br_f ?_ (Tr.is_leaf ?_)), .inr ⟨t, h1, h2, h3⟩⟩
      · unfold p_bestL_L0_rt; rw [hr]; rfl
      · unfold p_bestL_L0_v; rw [hr]; rfl
    | .inr q, ⟨h1, h2⟩, hr =>
      refine ⟨q, pre _ (Tr.is_br_t ?_ (Tr.is_leaf ?_)), .inl ⟨h1, .inr h2⟩⟩
      · unfold p_bestL_L0_rt; rw [hr]; rfl
      · unfold p_bestL_L0_rv; rw [hr]; rfl
end Go.Fb
