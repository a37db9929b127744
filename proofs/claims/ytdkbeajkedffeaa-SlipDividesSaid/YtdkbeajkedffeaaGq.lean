/- Slips: the laws hold, in plain Lean. Conditions: as each theorem states. -/
import Derived.Test.YtdkbeajkedffeaaFq
import Derived.Test.YtdkbeajkedffeaaGl
namespace Go.Fb
theorem works19 : l19_works = true ∧ l19_works_s = true := by decide +kernel
end Go.Fb
namespace Go.Fb
open Go.Ev
theorem pre19 {t : Tr Bool} (h : Tr.Is t true) : Tr.Is (.ast l19_works_s (.br (!l19_works) (.leaf false) t)) true :=
  Tr.is_ast works19.2 (Tr.is_br_f (by rw [works19.1]; rfl) h)
def gk : Option Int → Int
  | none => 9218868437227405312
  | some z => if z < 0 then 9218868437227405312 else z
theorem gk_some {z : Int} (h : 0 ≤ z) : gk (some z) = z := if_neg (by omega)
theorem gk_rng {o : Option Int} (h : ∀ z, o = some z → z ≤ 9218868437227405312) : 0 ≤ gk o ∧ gk o ≤ 9218868437227405312 := by
  cases o with
  | none => exact ⟨by decide, by decide⟩
  | some z => have := h z rfl; unfold gk; dsimp only; split <;> omega
theorem gk_kz {e : Int} (h : Wd e) : 0 ≤ gk (kz e) ∧ gk (kz e) ≤ 9218868437227405312 := gk_rng fun _ g => (kz_rng h g).2
theorem good_tree {z n s : Bool} {e I : Int} (hI : I = 9218868437227405312) {p : Bool} {k : Nat} (he : e = fl p k) (hk : k < 9223372036854775808) (hz : z = decide (k = 0)) (hn : n = decide (9218868437227405312 < k)) (hs : s = p) : Tr.Is (.br z (.leaf 0) (.br n (.leaf I) (.br s (.leaf I) (.leaf e)))) (kf (gk (kz e))) := by
  subst hz hn hs hI he
  by_cases k0 : k = 0
  · subst k0
    refine Tr.is_br_t rfl (Tr.is_leaf ?_)
    rw [kz_fl (by omega), show ky s 0 = 0 by cases s <;> rfl]; rfl
  · refine Tr.is_br_f (df k0) ?_
    by_cases kn : 9218868437227405312 < k
    · refine Tr.is_br_t (dt kn) (Tr.is_leaf ?_)
      rw [kz_nan kn hk]; rfl
    · refine Tr.is_br_f (df kn) ?_
      rw [kz_fl (by omega)]
      cases s with
      | true =>
        refine Tr.is_br_t rfl (Tr.is_leaf ?_)
        show _ = kf (if ky true k < 0 then 9218868437227405312 else ky true k)
        rw [if_pos (by unfold ky; rw [if_pos rfl]; omega)]; rfl
      | false =>
        refine Tr.is_br_f rfl (Tr.is_leaf ?_)
        show _ = kf (if ky false k < 0 then 9218868437227405312 else ky false k)
        rw [if_neg (by unfold ky; rw [if_neg (by simp)]; omega), kf_ky, if_neg k0]
theorem Good_kz {e : Int} (h : Wd e) : sl_Good e = kf (gk (kz e)) ∧ r19_Good e = kf (gk (kz e)) := by
  obtain ⟨p, k, hk, rfl⟩ := fl_of h
  have c0 : (p_Class (fl p k) == 0) = decide (k = 0) := by rw [class_spec hk, cls0]
  have c4 : (p_Class (fl p k) == 4) = decide (9218868437227405312 < k) := by rw [class_spec hk, cls4]
  have d0 : (r4_Class (fl p k) == 0) = decide (k = 0) := by rw [rclass_spec hk, cls0]
  have d4 : (r4_Class (fl p k) == 4) = decide (9218868437227405312 < k) := by rw [rclass_spec hk, cls4]
  have s := shr_sign (s := p) hk
  have i1 : sl_inf = 9218868437227405312 := inf_spec false
  exact ⟨(good_tree i1 rfl hk c0 c4 s).1, (good_tree (I := 9218868437227405312) rfl rfl hk d0 d4 s).1⟩
theorem Good_kf {z : Int} (h : 0 ≤ z) (g : z ≤ 9218868437227405312) : sl_Good (kf z) = kf z := by
  rw [(Good_kz (kf_wd (by omega) g)).1, kz_kf (by omega) g, gk_some h]
theorem Good_of {x z : Int} (hx : Wd x) (hz : kz x = some z) (h : 0 ≤ z) : sl_Good x = kf z := by
  rw [(Good_kz hx).1, hz, gk_some h]
theorem AddK.nonneg {m z w r : Int} (h : AddK m z w r) (a : 0 ≤ z) (b : 0 ≤ w) (a2 : z ≤ 9218868437227405312) (b2 : w ≤ 9218868437227405312) : 0 ≤ r := by
  by_cases c : z = 9218868437227405312
  · have := h.infz (.inl c); omega
  by_cases d : w = 9218868437227405312
  · have := h.infw (by omega) (by omega) (.inl d); omega
  have p := zv_nonneg a (by omega)
  have q := zv_nonneg b (by omega)
  exact exk_nonneg (h.fin (by omega) (by omega) (by omega) (by omega)) (by grind)
theorem MulK.nonneg {m z w r : Int} (h : MulK m z w r) (a : 0 ≤ z) (b : 0 ≤ w) (a2 : z ≤ 9218868437227405312) (b2 : w ≤ 9218868437227405312) : 0 ≤ r := by
  by_cases c : z = 0 ∨ w = 0
  · rw [h.zero c]; omega
  · exact h.pos (by omega) (by omega) a2 b2
theorem sladd_is {x y : Int} (a : 0 ≤ x) (b : x ≤ 9218868437227405312) (c : 0 ≤ y) (d : y ≤ 9218868437227405312) : sl_add_s (kf x) (kf y) = true ∧ sl_add (kf x) (kf y) = kf (addF 1 x y) ∧ 0 ≤ addF 1 x y ∧ addF 1 x y ≤ 9218868437227405312 := by
  have s := addF_spec (z := x) (w := y) (by omega) b (by omega) d (by omega) (by omega) 1
  have n := s.2.2.2.nonneg a c b d
  have t : Tr.Is (sl_add_t (kf x) (kf y)) (kf (addF 1 x y)) := Tr.is_ast s.1 (Tr.is_leaf (Good_of s.2.1 s.2.2.1 n))
  exact ⟨t.2, t.1, n, s.2.2.2.rng.2⟩
theorem slzero_kf {z : Int} (h1 : -9218868437227405312 ≤ z) (h2 : z ≤ 9218868437227405312) : sl_zero (kf z) = decide (z = 0) := zero_kf h1 h2
theorem slmul_is {x y : Int} (a : 0 ≤ x) (b : x ≤ 9218868437227405312) (c : 0 ≤ y) (d : y ≤ 9218868437227405312) : sl_mul_s (kf x) (kf y) = true ∧ sl_mul (kf x) (kf y) = kf (mulF 1 x y) ∧ 0 ≤ mulF 1 x y ∧ mulF 1 x y ≤ 9218868437227405312 := by
  have s := (mulF_spec (z := x) (w := y) (by omega) b (by omega) d 1).2.2.2
  have n := s.nonneg a c b d
  have zx := slzero_kf (z := x) (by omega) b
  have zy := slzero_kf (z := y) (by omega) d
  have t : Tr.Is (sl_mul_t (kf x) (kf y)) (kf (mulF 1 x y)) := by
    by_cases x0 : x = 0
    · exact Tr.is_br_t (zx.trans (dt x0)) (Tr.is_leaf (by rw [s.zero (.inl x0)]; rfl))
    refine Tr.is_br_f (zx.trans (df x0)) ?_
    by_cases y0 : y = 0
    · exact Tr.is_br_t (zy.trans (dt y0)) (Tr.is_leaf (by rw [s.zero (.inr y0)]; rfl))
    refine Tr.is_br_f (zy.trans (df y0)) ?_
    obtain ⟨v, e, f⟩ := mul_kf (z := x) (w := y) (by omega) b (by omega) d 1
    obtain ⟨r, f1, f2, f3⟩ := f x0 y0
    have ev : s_Mul (kf x) (kf y) 1 = v := e.1
    have er : r = mulF 1 x y := by
      have h1 := f3.mono s c (Int.le_refl _) (by omega) b d
      have h2 := s.mono f3 c (Int.le_refl _) (by omega) b d
      omega
    refine Tr.is_ast e.2 (Tr.is_leaf ?_)
    rw [ev, ← er]; exact Good_of f1 f2 (by omega)
  exact ⟨t.2, t.1, n, s.rng.2⟩
theorem sldiv_is {x y : Int} (a : 0 ≤ x) (b : x ≤ 9218868437227405312) (c : 0 < y) (d : y ≤ 9218868437227405312) : sl_div_s (kf x) (kf y) = true ∧ sl_div (kf x) (kf y) = kf (divF 1 x y) ∧ 0 ≤ divF 1 x y ∧ divF 1 x y ≤ 9218868437227405312 := by
  have s := (divF_spec (z := x) (w := y) (by omega) b (by omega) d 1).2.2.2
  have n := s.pos a b (by omega) d
  obtain ⟨v, e, f⟩ := div_s (s := decide (x < 0)) (t := decide (y < 0)) (k := x.natAbs) (j := y.natAbs) (by omega) (by omega) 1
  have e : Tr.Is (s_Div_t (kf x) (kf y) 1) v := e
  have ev : s_Div (kf x) (kf y) 1 = v := e.1
  have t : Tr.Is (sl_div_t (kf x) (kf y)) (kf (divF 1 x y)) := by
    refine Tr.is_ast e.2 (Tr.is_leaf ?_)
    rw [ev]
    cases f with
    | nan h e => omega
    | by0 h e => omega
    | bad h e =>
      rw [e, (Good_kz (e := 9221120237041090560) ⟨by omega, by omega⟩).1]
      rw [show kz 9221120237041090560 = none from kz_nan (s := false) (k := 9221120237041090560) (by omega) (by omega)]
      have := s.inf (by omega) (by omega)
      rw [this, if_pos (by omega)]; rfl
    | inf h e =>
      have := s.inf (by omega) (by omega)
      rw [e, df (p := x < 0) (by omega), df (p := y < 0) (by omega), this, if_pos (by omega)]
      exact Good_kf (z := 9218868437227405312) (by omega) (by omega)
    | zero h e =>
      have z0 : divF 1 x y = 0 := by
        by_cases x0 : x = 0
        · exact s.zero x0
        · exact s.small (by omega) (by omega) (by omega)
      rw [e, df (p := x < 0) (by omega), df (p := y < 0) (by omega), z0]
      exact Good_kf (z := 0) (by omega) (by omega)
    | fin h e =>
      obtain ⟨v', r, q1, q2, q3, q4⟩ := div_kf (z := x) (w := y) (by omega) (by omega) (by omega) c (by omega) 1
      have e3 : v' = v := by rw [← ev]; exact q1.1.symm
      rw [e3] at q2 q3
      have q5 := s.fin (by omega) (by omega) (by omega) c (by omega)
      have h1 := exk_mono Rat.le_refl q4 q5
      have h2 := exk_mono Rat.le_refl q5 q4
      rw [show divF 1 x y = r by omega]
      exact Good_of q2 q3 (by omega)
  exact ⟨t.2, t.1, n, s.rng.2⟩
def rndK (m : Int) : Int := if m = 0 then 0 else if m = 9218868437227405312 then m else (if mulF 1 m 4368491638549381120 ≤ 1 then 1 else mulF 1 m 4368491638549381120)
theorem unit_kf : (4368491638549381120 : Int) = kf 4368491638549381120 := rfl
theorem Round_is {m : Int} (a : 0 ≤ m) (b : m ≤ 9218868437227405312) : sl_Round_s (kf m) = true ∧ sl_Round (kf m) = kf (rndK m) ∧ 0 ≤ rndK m ∧ rndK m ≤ 9218868437227405312 := by
  have s := slmul_is a b (y := 4368491638549381120) (by omega) (by omega)
  have R : 0 ≤ rndK m ∧ rndK m ≤ 9218868437227405312 := by
    unfold rndK; split
    · omega
    · split
      · omega
      · split <;> omega
  have t : Tr.Is (sl_Round_t (kf m)) (kf (rndK m)) := by
    unfold sl_Round_t sl_Round_T
    rw [Good_kf a b]
    have e0 : (kf m == 0) = decide (m = 0) := by rw [← kf0]; exact kf_eq (by omega) b (by omega) (by omega)
    have i1 : sl_inf = 9218868437227405312 := inf_spec false
    have e1 : (kf m == sl_inf) = decide (m = 9218868437227405312) := by rw [i1, pinf_kf]; exact kf_eq (by omega) b (by omega) (by omega)
    unfold rndK
    by_cases m0 : m = 0
    · rw [if_pos m0]; exact Tr.is_br_t (e0.trans (dt m0)) (Tr.is_leaf rfl)
    rw [if_neg m0]; refine Tr.is_br_f (e0.trans (df m0)) ?_
    by_cases m1 : m = 9218868437227405312
    · rw [if_pos m1]; exact Tr.is_br_t (e1.trans (dt m1)) (Tr.is_leaf rfl)
    rw [if_neg m1]; refine Tr.is_br_f (e1.trans (df m1)) ?_
    have x := pmax_kf (z := mulF 1 m 4368491638549381120) (w := 1) (by omega) (by omega) (by omega) (by omega)
    refine Tr.is_ast (by rw [unit_kf]; exact s.1) ?_
    rw [show sl_mul (kf m) 4368491638549381120 = kf (mulF 1 m 4368491638549381120) from s.2.1]
    exact Tr.is_ast x.1 (Tr.is_leaf x.2)
  exact ⟨t.2, t.1, R⟩
theorem rnd_mono {m n : Int} (a : 0 ≤ m) (l : m ≤ n) (b : n ≤ 9218868437227405312) : rndK m ≤ rndK n := by
  have s := (mulF_spec (z := m) (w := 4368491638549381120) (by omega) (by omega) (by omega) (by omega) 1).2.2.2
  have t := (mulF_spec (z := n) (w := 4368491638549381120) (by omega) (by omega) (by omega) (by omega) 1).2.2.2
  have := s.mono t (by omega) l (by omega) b (by omega)
  have rs := s.rng; have rt := t.rng
  have R := (Round_is (by omega) b).2.2
  unfold rndK at *
  by_cases m0 : m = 0
  · rw [if_pos m0]; exact R.1
  rw [if_neg m0, if_neg (show ¬ n = 0 by omega)]
  by_cases n1 : n = 9218868437227405312
  · rw [if_pos n1]
    by_cases m1 : m = 9218868437227405312
    · rw [if_pos m1]; omega
    · rw [if_neg m1]; split <;> omega
  · rw [if_neg n1, if_neg (show ¬ m = 9218868437227405312 by omega)]
    split <;> split <;> omega
def jmax (J : Int) (l : List Int) : Int := l.foldl (fun J e => max J (gk (kz e))) J
theorem jmax_rng : ∀ {l : List Int} {J : Int}, WdL l → 0 ≤ J → J ≤ 9218868437227405312 → 0 ≤ jmax J l ∧ jmax J l ≤ 9218868437227405312
  | [], _, _, h, g => ⟨h, g⟩
  | e :: l, J, hw, h, g => by
    have r := gk_kz (hw e (by simp))
    exact jmax_rng (l := l) (J := max J (gk (kz e))) (fun x hx => hw x (by simp [hx])) (by omega) (by omega)
theorem sjoin_run {l : List Int} (hl : l.length ≤ 1000000) (hw : WdL l) : ∀ (m i : Nat) (J : Int), i + m = l.length → 0 ≤ J → J ≤ 9218868437227405312 →
    runL (sl_Join_L0_step (l, (l.length : Int))) (m + 1) (kf J, (i : Int)) = some (kf (jmax J (l.drop i)), (l.length : Int))
  | 0, i, J, hi, h1, h2 => by
    have e : i = l.length := by omega
    subst e
    rw [List.drop_length]
    exact runL_out (Tr.is_br_f (df (Int.lt_irrefl _)) (Tr.is_leaf rfl))
  | m + 1, i, J, hi, h1, h2 => by
    have hil : i < l.length := by omega
    have e4 : IntKind.i64.wrap ((i : Int) + 1) = ((i + 1 : Nat) : Int) := wnext (by omega)
    have hd : l.drop i = l.getD i 0 :: l.drop (i + 1) := by rw [List.drop_eq_getElem_cons hil, List.getD_eq_getElem?_getD, List.getElem?_eq_getElem hil]; rfl
    have hs := hw.at hil
    have r := gk_kz hs
    have ih := sjoin_run hl hw m (i + 1) (max J (gk (kz (l.getD i 0)))) (by omega) (by omega) (by omega)
    rw [hd]
    show _ = some (kf (jmax (max J (gk (kz (l.getD i 0)))) (l.drop (i + 1))), _)
    rw [← ih]
    refine runL_next ?_
    unfold sl_Join_L0_step sl_Join_L0_T
    dsimp only
    refine Tr.is_br_t (dt (by omega)) (Tr.is_ast (by simp; omega) ?_)
    rw [Int.toNat_natCast, e4, (Good_kz hs).1]
    have x := pmax_kf (z := J) (w := gk (kz (l.getD i 0))) (by omega) h2 (by omega) (by omega)
    refine Tr.is_ast x.1 (Tr.is_leaf ?_)
    rw [x.2]
    congr 3
theorem sJoin_is {l : List Int} (hl : l.length ≤ 1000000) (hw : WdL l) : sl_Join_s l = true ∧ sl_Join l = kf (jmax 0 l) := by
  have hr : sl_Join_L0_r (l, (l.length : Int)) (0, 0) = some (kf (jmax 0 l), (l.length : Int)) :=
    runB_of (sjoin_run hl hw l.length 0 0 (by omega) (by omega) (by omega)) (by omega)
  have t : Tr.Is (sl_Join_t l) (kf (jmax 0 l)) := by
    refine Tr.is_ast (by show sl_Join_L0_ok (l, (l.length : Int)) (0, 0) = true; unfold sl_Join_L0_ok; rw [hr]; rfl) (Tr.is_leaf ?_)
    show (sl_Join_L0_v (l, (l.length : Int)) (0, 0)).fst = _
    unfold sl_Join_L0_v; rw [hr]; rfl
  exact ⟨t.2, t.1⟩
theorem ljoin_run {l : List Int} (hl : l.length ≤ 1000000) (hw : WdL l) (a b : Int) (c : Bool) : ∀ (m i : Nat) (J : Int), i + m = l.length → 0 ≤ J → J ≤ 9218868437227405312 →
    runL (l_SlipWidens_L0_step (a, b, l, c)) (m + 1) (kf J, (i : Int)) = some (kf (jmax J (l.drop i)), (l.length : Int))
  | 0, i, J, hi, h1, h2 => by
    have e : i = l.length := by omega
    subst e
    rw [List.drop_length]
    exact runL_out (Tr.is_br_f (df (Int.lt_irrefl _)) (Tr.is_leaf rfl))
  | m + 1, i, J, hi, h1, h2 => by
    have hil : i < l.length := by omega
    have e4 : IntKind.i64.wrap ((i : Int) + 1) = ((i + 1 : Nat) : Int) := wnext (by omega)
    have hd : l.drop i = l.getD i 0 :: l.drop (i + 1) := by rw [List.drop_eq_getElem_cons hil, List.getD_eq_getElem?_getD, List.getElem?_eq_getElem hil]; rfl
    have hs := hw.at hil
    have r := gk_kz hs
    have ih := ljoin_run hl hw a b c m (i + 1) (max J (gk (kz (l.getD i 0)))) (by omega) (by omega) (by omega)
    rw [hd]
    show _ = some (kf (jmax (max J (gk (kz (l.getD i 0)))) (l.drop (i + 1))), _)
    rw [← ih]
    refine runL_next ?_
    unfold l_SlipWidens_L0_step l_SlipWidens_L0_T
    dsimp only
    refine Tr.is_br_t (dt (by omega)) (Tr.is_ast (by simp; omega) ?_)
    rw [Int.toNat_natCast, e4, (Good_kz hs).2]
    generalize gk (kz (l.getD i 0)) = g at *
    have x : r4_Cmp (kf g) (kf J) = (cmpZ g J, true) := by rw [(cmp_kz (kf_wd (by omega) r.2) (kf_wd (by omega) h2)).2, kz_kf (by omega) r.2, kz_kf (by omega) h2]; rfl
    rw [x]
    by_cases d : J < g
    · refine Tr.is_br_t (by show decide (cmpZ g J > 0) = true; rw [cmpZ_gt, dt d]) (Tr.is_leaf ?_)
      rw [Int.max_eq_right (by omega)]
    · refine Tr.is_br_f (by show decide (cmpZ g J > 0) = false; rw [cmpZ_gt, df d]) (Tr.is_leaf ?_)
      rw [Int.max_eq_left (by omega)]
def ltO : Option Int → Option Int → Bool
  | some x, some y => decide (x < y)
  | _, _ => false
theorem less_kz {a b : Int} (ha : Wd a) (hb : Wd b) : p_Less a b = ltO (kz a) (kz b) := by
  rw [less_key ha hb]
  rcases kz_cases ha with ⟨e, s, k, g1, g2, rfl⟩ | ⟨s, k, g1, rfl, e⟩
  · rw [e, nan_spec g2, dt g1]; rfl
  · rw [e, nan_spec (by omega), df (by omega)]
    rcases kz_cases hb with ⟨f, t, j, g3, g4, rfl⟩ | ⟨t, j, g3, rfl, f⟩
    · rw [f, nan_spec g4, dt g3]; rfl
    · rw [f, nan_spec (by omega), df (by omega), key_spec (by omega), key_spec (by omega)]; rfl
def wS (y b s : Int) : Int := if leO (some y) (kz s) && ltO (kz s) (kz b) then s else b
theorem wS_wd {y b s : Int} (h : Wd b) (g : Wd s) : Wd (wS y b s) := by unfold wS; split <;> assumption
theorem wS_fold {y : Int} : ∀ (l : List Int) (b : Int), WdL l → Wd b → (∃ z, kz b = some z ∧ y ≤ z) → Wd (l.foldl (wS y) b) ∧ ∃ z, kz (l.foldl (wS y) b) = some z ∧ y ≤ z
  | [], b, _, hb, h => ⟨hb, h⟩
  | s :: l, b, hw, hb, h => by
    have hs : Wd s := hw s (by simp)
    refine wS_fold l (wS y b s) (fun x hx => hw x (by simp [hx])) (wS_wd hb hs) ?_
    unfold wS; split
    · rename_i c
      exact leO_some' (by revert c; cases leO (some y) (kz s) <;> simp)
    · exact h
theorem swiden_run {l : List Int} (hl : l.length ≤ 1000000) (hw : WdL l) {y : Int} (h0 : 0 ≤ y) (h1 : y ≤ 9218868437227405312) : ∀ (m i : Nat) (b : Int), i + m = l.length → Wd b →
    runL (sl_Widen_L0_step (kf y, l, (l.length : Int))) (m + 1) (b, (i : Int)) = some ((l.drop i).foldl (wS y) b, (l.length : Int))
  | 0, i, b, hi, hb => by
    have e : i = l.length := by omega
    subst e
    rw [List.drop_length]
    exact runL_out (Tr.is_br_f (df (Int.lt_irrefl _)) (Tr.is_leaf rfl))
  | m + 1, i, b, hi, hb => by
    have hil : i < l.length := by omega
    have e4 : IntKind.i64.wrap ((i : Int) + 1) = ((i + 1 : Nat) : Int) := wnext (by omega)
    have hd : l.drop i = l.getD i 0 :: l.drop (i + 1) := by rw [List.drop_eq_getElem_cons hil, List.getD_eq_getElem?_getD, List.getElem?_eq_getElem hil]; rfl
    have hs := hw.at hil
    have ih := swiden_run hl hw h0 h1 m (i + 1) (wS y b (l.getD i 0)) (by omega) (wS_wd hb hs)
    rw [hd, List.foldl_cons, ← ih]
    refine runL_next ?_
    unfold sl_Widen_L0_step sl_Widen_L0_T
    dsimp only
    refine Tr.is_br_t (dt (by omega)) (Tr.is_ast (by simp; omega) ?_)
    rw [Int.toNat_natCast, e4]
    generalize l.getD i 0 = s at *
    rw [(cmp_kz (kf_wd (by omega) h1) hs).1, less_kz hs hb, kz_kf (by omega) h1]
    unfold wS
    cases hz : kz s with
    | none => exact Tr.is_br_f rfl (Tr.is_leaf rfl)
    | some z =>
      refine Tr.is_br_t rfl ?_
      show Tr.Is (.br (decide (cmpZ y z ≤ 0)) _ _) _
      rw [cmpZ_le]
      show Tr.Is _ (Sum.inl (if decide (y ≤ z) && ltO (some z) (kz b) then s else b, _))
      cases decide (y ≤ z)
      · exact Tr.is_br_f rfl (Tr.is_leaf rfl)
      · refine Tr.is_br_t rfl ?_
        cases ltO (some z) (kz b)
        · exact Tr.is_br_f rfl (Tr.is_leaf rfl)
        · exact Tr.is_br_t rfl (Tr.is_leaf rfl)
end Go.Fb
namespace Go.Fb
open Go.Ev
theorem rswiden_run {l : List Int} (hl : l.length ≤ 1000000) (hw : WdL l) {y : Int} (h0 : 0 ≤ y) (h1 : y ≤ 9218868437227405312) : ∀ (m i : Nat) (b : Int), i + m = l.length → Wd b → (∃ z, kz b = some z ∧ y ≤ z) →
    runL (r19_Widen_L0_step (l, kf y)) (m + 1) (b, (i : Int)) = some ((l.drop i).foldl (wS y) b, (l.length : Int))
  | 0, i, b, hi, hb, _ => by
    have e : i = l.length := by omega
    subst e
    rw [List.drop_length]
    exact runL_out (Tr.is_br_f (df (Int.lt_irrefl _)) (Tr.is_leaf rfl))
  | m + 1, i, b, hi, hb, hk => by
    have hil : i < l.length := by omega
    have e4 : IntKind.i64.wrap ((i : Int) + 1) = ((i + 1 : Nat) : Int) := wnext (by omega)
    have hd : l.drop i = l.getD i 0 :: l.drop (i + 1) := by rw [List.drop_eq_getElem_cons hil, List.getD_eq_getElem?_getD, List.getElem?_eq_getElem hil]; rfl
    have hs := hw.at hil
    have hk' := (wS_fold (y := y) [l.getD i 0] b (fun x hx => by rw [List.mem_singleton] at hx; rw [hx]; exact hs) hb hk).2
    have ih := rswiden_run hl hw h0 h1 m (i + 1) (wS y b (l.getD i 0)) (by omega) (wS_wd hb hs) hk'
    rw [hd, List.foldl_cons, ← ih]
    refine runL_next ?_
    unfold r19_Widen_L0_step r19_Widen_L0_T
    dsimp only
    refine Tr.is_br_t (dt (by omega)) (Tr.is_ast (by simp; omega) ?_)
    rw [Int.toNat_natCast, e4]
    clear ih hk'
    generalize l.getD i 0 = s at *
    obtain ⟨w, hw', _⟩ := hk
    rw [(cmp_kz (kf_wd (by omega) h1) hs).2, (cmp_kz hs hb).2, kz_kf (by omega) h1, hw']
    unfold wS
    rw [hw']
    cases hz : kz s with
    | none => exact Tr.is_br_f rfl (Tr.is_leaf rfl)
    | some z =>
      refine Tr.is_br_t rfl ?_
      show Tr.Is (.br (decide (cmpZ y z ≤ 0)) (.br (decide (cmpZ z w < 0)) _ _) _) _
      rw [cmpZ_le, cmpZ_lt]
      show Tr.Is _ (Sum.inl (if decide (y ≤ z) && decide (z < w) then s else b, _))
      cases decide (y ≤ z)
      · exact Tr.is_br_f rfl (Tr.is_leaf rfl)
      · refine Tr.is_br_t rfl ?_
        cases decide (z < w)
        · exact Tr.is_br_f rfl (Tr.is_leaf rfl)
        · exact Tr.is_br_t rfl (Tr.is_leaf rfl)
theorem sWiden_is {old now : Int} {l : List Int} (ho : Wd old) (hn : Wd now) (hw : WdL l) (hl : l.length ≤ 1000000) :
    ∃ r R, Tr.Is (sl_Widen_t old now l) r ∧ Tr.Is (r19_Widen_t old now l) r ∧ Wd r ∧ kz r = some R ∧ gk (kz now) ≤ R ∧ gk (kz old) ≤ R := by
  have go := gk_kz ho; have gn := gk_kz hn
  have eo := Good_kz ho; have en := Good_kz hn
  have i1 : sl_inf = 9218868437227405312 := inf_spec false
  unfold sl_Widen_t sl_Widen_T r19_Widen_t r19_Widen_T
  rw [eo.1, eo.2, en.1, en.2]
  generalize gk (kz now) = y at *
  generalize gk (kz old) = x at *
  have wx : Wd (kf x) := kf_wd (by omega) go.2
  have wy : Wd (kf y) := kf_wd (by omega) gn.2
  have kx : kz (kf x) = some x := kz_kf (by omega) go.2
  have ky : kz (kf y) = some y := kz_kf (by omega) gn.2
  have le : p_Less (kf x) (kf y) = decide (x < y) := by rw [less_kz wx wy, kx, ky]; rfl
  have cm : r4_Cmp (kf y) (kf x) = (cmpZ y x, true) := by rw [(cmp_kz wy wx).2, kx, ky]; rfl
  rw [le, cm]
  by_cases c : x < y
  · have ki : ∃ z, kz 9218868437227405312 = some z ∧ y ≤ z := ⟨_, kp_inf, gn.2⟩
    obtain ⟨wf, R, f1, f2⟩ := wS_fold (y := y) l 9218868437227405312 hw wp_inf ki
    have hr : sl_Widen_L0_r (kf y, l, (l.length : Int)) (sl_inf, 0) = some (l.foldl (wS y) 9218868437227405312, (l.length : Int)) := by
      rw [i1]
      exact runB_of (swiden_run hl hw gn.1 gn.2 l.length 0 _ (by omega) wp_inf) (by omega)
    have hr2 : r19_Widen_L0_r (l, kf y) (9218868437227405312, 0) = some (l.foldl (wS y) 9218868437227405312, (l.length : Int)) :=
      runB_of (rswiden_run hl hw gn.1 gn.2 l.length 0 _ (by omega) wp_inf ki) (by omega)
    refine ⟨_, R, Tr.is_br_f (by rw [dt c]; rfl) (Tr.is_ast ?_ (Tr.is_leaf ?_)), Tr.is_br_f ?_ (Tr.is_ast ?_ (Tr.is_leaf ?_)), wf, f1, f2, by omega⟩
    · unfold sl_Widen_L0_ok; rw [hr]; rfl
    · unfold sl_Widen_L0_v; rw [hr]; rfl
    · show decide (cmpZ y x ≤ 0) = false
      rw [cmpZ_le, df (by omega)]
    · unfold r19_Widen_L0_ok; rw [hr2]; rfl
    · unfold r19_Widen_L0_v; rw [hr2]; rfl
  · refine ⟨kf x, x, Tr.is_br_t (by rw [df c]; rfl) (Tr.is_leaf rfl), Tr.is_br_t ?_ (Tr.is_leaf rfl), wx, kx, by omega, by omega⟩
    show decide (cmpZ y x ≤ 0) = true
    rw [cmpZ_le, dt (by omega)]
theorem SlipWidens_both {old now : Int} {l : List Int} (ho : Wd old) (hn : Wd now) (hw : WdL l) : l_SlipWidens old now l = true ∧ l_SlipWidens_s old now l = true := by
  suffices h : Tr.Is (l_SlipWidens_t old now l) true from ⟨h.1, h.2⟩
  unfold l_SlipWidens_t l_SlipWidens_T
  refine pre19 ?_
  by_cases hl : (l.length : Int) > 200
  · exact Tr.is_br_t (dt hl) (Tr.is_leaf works19.1)
  refine Tr.is_br_f (df hl) ?_
  have hr : l_SlipWidens_L0_r (old, now, l, l19_works) (0, 0) = some (kf (jmax 0 l), (l.length : Int)) :=
    runB_of (ljoin_run (by omega) hw old now l19_works l.length 0 0 (by omega) (by omega) (by omega)) (by omega)
  obtain ⟨r, R, t1, t2, wr, kr, b1, b2⟩ := sWiden_is ho hn hw (by omega)
  have e1 : sl_Widen old now l = r := t1.1
  have e2 : r19_Widen old now l = r := t2.1
  have go := gk_kz ho; have gn := gk_kz hn
  have j := sJoin_is (l := l) (by omega) hw
  have l1 : p_Less r (sl_Good now) = false := by
    rw [(Good_kz hn).1, less_kz wr (kf_wd (by omega) gn.2), kr, kz_kf (by omega) gn.2]; exact df (by omega)
  have l2 : p_Less r (sl_Good old) = false := by
    rw [(Good_kz ho).1, less_kz wr (kf_wd (by omega) go.2), kr, kz_kf (by omega) go.2]; exact df (by omega)
  refine Tr.is_ast (by unfold l_SlipWidens_L0_ok; rw [hr]; rfl) (Tr.is_ast t1.2 ?_)
  rw [e1, e2, l1, l2]
  refine Tr.is_br_f rfl (Tr.is_br_t works19.1 (Tr.is_ast t2.2 (Tr.is_br_t (beq_self_eq_true _) (Tr.is_br_t rfl (Tr.is_ast j.1 (Tr.is_leaf ?_))))))
  have hv : (l_SlipWidens_L0_v (old, now, l, l19_works) (0, 0)).fst = kf (jmax 0 l) := by unfold l_SlipWidens_L0_v; rw [hr]; rfl
  rw [hv, j.2]; exact beq_self_eq_true _
end Go.Fb
namespace Go.Fb
open Go.Ev
def mostK (A : IV) : Int := match absI A with | none => 0 | some (_, h) => h
def nK (B : IV) : Int := match absI B with | none => 0 | some (l, _) => l
theorem most_enc {A : IV} (hA : GI A) : sp_Most_s (enc A) = true ∧ sp_Most (enc A) = kf (mostK A) := by
  have h := Most_ws (a := enc A) (enc_ws hA)
  rw [nI_enc hA] at h
  refine ⟨h.1, h.2.trans ?_⟩
  unfold mostK
  cases absI A <;> rfl
theorem abs_facts {A : IV} (hA : GI A) : ∀ l h, absI A = some (l, h) → 0 ≤ l ∧ l ≤ h := fun l h e => by
  match A, hA with
  | none, _ => cases e
  | some (a, b), hA =>
    have p := hA _ _ rfl
    unfold absI at e
    dsimp only at e
    split at e
    · cases e; omega
    · split at e
      · cases e; omega
      · simp only [Option.some.injEq, Prod.mk.injEq] at e
        obtain ⟨e1, e2⟩ := e
        split at e2 <;> omega
theorem most_rng {A : IV} (hA : GI A) : 0 ≤ mostK A ∧ mostK A ≤ 9218868437227405312 := by
  have f := abs_facts hA
  have g := GI.abs hA
  unfold mostK
  cases h : absI A with
  | none => exact ⟨by decide, by decide⟩
  | some p =>
    have := f _ _ h; have := g _ _ h
    exact ⟨by show 0 ≤ p.2; omega, by show p.2 ≤ _; omega⟩
theorem most_mono {A A' : IV} (hA : GI A) (hA' : GI A') (i : insI A A' = true) : mostK A ≤ mostK A' := by
  have j := absI_mono hA i
  have r := most_rng hA'
  unfold mostK at *
  cases h : absI A with
  | none => dsimp only; exact r.1
  | some p =>
    rw [h] at j
    obtain ⟨l', h', e, _, j2⟩ := insI_some j
    rw [e]; exact j2
theorem has0 {B : IV} : hasI B (some 0) = true ↔ ∃ l h, B = some (l, h) ∧ l ≤ 0 ∧ 0 ≤ h := by
  rw [hasI_some]
  exact ⟨fun ⟨l, h, e, a, b, _⟩ => ⟨l, h, e, a, b⟩, fun ⟨l, h, e, a, b⟩ => ⟨l, h, e, a, b, by decide, by decide⟩⟩
theorem nK_facts {l h : Int} (hB : GI (some (l, h))) (n0 : hasI (some (l, h)) (some 0) ≠ true) : 0 < nK (some (l, h)) ∧ nK (some (l, h)) < 9218868437227405312 ∧ (sp_Abs (enc (some (l, h)))).lo = kf (nK (some (l, h))) ∧ ((0 < l ∧ nK (some (l, h)) = l) ∨ (h < 0 ∧ nK (some (l, h)) = -h)) := by
  have p := hB _ _ rfl
  have q : ¬ (l ≤ 0 ∧ 0 ≤ h) := fun c => n0 (has0.2 ⟨l, h, rfl, c⟩)
  have a := (Abs_is hB rfl).2
  rw [a]
  unfold nK absI
  dsimp only
  by_cases c : 0 ≤ l
  · rw [if_pos c]; dsimp only; exact ⟨by omega, by omega, rfl, .inl ⟨by omega, rfl⟩⟩
  · rw [if_neg c, if_pos (show h ≤ 0 by omega)]; dsimp only; exact ⟨by omega, by omega, rfl, .inr ⟨by omega, rfl⟩⟩
theorem add_fl {s t : Bool} {k j : Nat} (hk : k ≤ 9218868437227405312) (hj : j ≤ 9218868437227405312) (hc : ¬ (k = 9218868437227405312 ∧ j = 9218868437227405312)) (m : Int) :
    ∃ v r, Tr.Is (s_Add_t (fl s k) (fl t j) m) v ∧ Wd v.1 ∧ kz v.1 = some r ∧ AddK m (ky s k) (ky t j) r := by
  obtain ⟨v, a, c⟩ := add_s (s := s) (t := t) (k := k) (j := j) (by omega) (by omega) m
  have ks : ∀ (s : Bool) (k : Nat), (ky s k = 9218868437227405312 ∨ ky s k = -9218868437227405312) ↔ k = 9218868437227405312 := fun s k => ky_abs
  have kf' : ∀ (s : Bool) (k : Nat), k < 9218868437227405312 → -9218868437227405312 < ky s k ∧ ky s k < 9218868437227405312 := fun s k h => by
    have := ks s k; have := ky_rng (s := s) (Nat.le_of_lt h); omega
  cases c with
  | nan h e => omega
  | bad h e => omega
  | infa h e =>
    have i := (ks s k).2 h.1
    refine ⟨v, ky s k, a, by rw [e]; exact fl_wd (by omega), by rw [e, h.1]; exact kz_fl (Nat.le_refl _), fun _ => rfl, fun g1 g2 => by omega, fun g1 g2 => by omega, ky_rng hk⟩
  | infb h e =>
    have i := (ks t j).2 h.2
    have f := kf' s k h.1
    refine ⟨v, ky t j, a, by rw [e]; exact fl_wd (by omega), by rw [e, h.2]; exact kz_fl (Nat.le_refl _), fun g => by omega, fun _ _ _ => rfl, fun g1 g2 g3 g4 => by omega, ky_rng hj⟩
  | fin h w =>
    have f := kf' s k h.1; have g := kf' t j h.2
    have ex : ∃ r, RK v.1 r ∧ ExK (fv s k + fv t j) m r := by
      rcases w with ⟨z, e⟩ | ⟨z, e⟩
      · refine ⟨0, ?_, .inl ⟨z, rfl⟩⟩
        have k0 : ∀ a : Bool, ky a 0 = 0 := fun a => by cases a <;> rfl
        rw [e]; split <;> exact ⟨_, 0, by omega, rfl, k0 _⟩
      · exact exF_key z e
    obtain ⟨r, q1, q2⟩ := ex
    exact ⟨v, r, a, q1.kz.1, q1.kz.2, fun g => by omega, fun g1 g2 g3 => by omega, fun _ _ _ _ => by rw [zv_ky s h.1, zv_ky t h.2]; exact q2, q1.rng⟩
def subF (n q : Int) : Int := (kz (s_Sub (kf n) (kf q) 2).1).getD 0
theorem subF_spec {n q : Int} (h1 : 0 < n) (h2 : n < 9218868437227405312) (h3 : 0 ≤ q) (h4 : q ≤ 9218868437227405312) : s_Sub_s (kf n) (kf q) 2 = true ∧ Wd (s_Sub (kf n) (kf q) 2).1 ∧ kz (s_Sub (kf n) (kf q) 2).1 = some (subF n q) ∧ AddK 2 n (-q) (subF n q) := by
  have e : p_Neg (kf q) = fl true q.natAbs := by
    unfold kf; rw [neg_fl (by omega), df (by omega)]; rfl
  obtain ⟨v, r, a, b, c, d⟩ := add_fl (s := decide (n < 0)) (t := true) (k := n.natAbs) (j := q.natAbs) (by omega) (by omega) (by omega) 2
  have a : Tr.Is (s_Add_t (kf n) (fl true q.natAbs) 2) v := a
  rw [← e] at a
  have t : Tr.Is (s_Sub_t (kf n) (kf q) 2) v := ssub_tree a
  have ev : s_Sub (kf n) (kf q) 2 = v := t.1
  rw [ky_kf, show ky true q.natAbs = -q by unfold ky; rw [if_pos rfl]; omega] at d
  unfold subF; rw [ev, c]; exact ⟨t.2, b, rfl, d⟩
def quotK (A B : IV) (p q ρ : Int) : Int :=
  if hasI B (some 0) = true then 9218868437227405312 else if 0 < subF (nK B) q then addF 1 (divF 1 (addF 1 (mulF 1 (divF 1 (mostK A) (nK B)) q) p) (subF (nK B) q)) ρ else 9218868437227405312
theorem inf_kf : sl_inf = kf 9218868437227405312 := inf_spec false
theorem quot_is {A : IV} {l h : Int} (hA : GI A) (hB : GI (some (l, h))) {N : SP} {p q ρ : Int} (p1 : 0 ≤ p) (p2 : p ≤ 9218868437227405312) (q1 : 0 ≤ q) (q2 : q ≤ 9218868437227405312) (r1 : 0 ≤ ρ) (r2 : ρ ≤ 9218868437227405312) :
    Tr.Is (sl_quotient_t ⟨enc A, enc (some (l, h)), N, kf p, kf q⟩ (kf ρ)) (kf (quotK A (some (l, h)) p q ρ)) ∧ 0 ≤ quotK A (some (l, h)) p q ρ ∧ quotK A (some (l, h)) p q ρ ≤ 9218868437227405312 := by
  unfold quotK
  have hs : sp_Has (enc (some (l, h))) 0 = hasI (some (l, h)) (some 0) := by
    have := Has_ws (enc_ws hB) zero_wd
    rw [nI_enc hB, show kz 0 = some 0 from kz_kf (z := 0) (by omega) (by omega)] at this; exact this
  by_cases c : hasI (some (l, h)) (some 0) = true
  · rw [if_pos c]; exact ⟨Tr.is_br_t (hs.trans c) (Tr.is_leaf inf_kf), by omega, by omega⟩
  rw [if_neg c]
  obtain ⟨n1, n2, n3, _⟩ := nK_facts hB c
  have s := subF_spec n1 n2 q1 q2
  have ab := (Abs_is hB rfl).1
  have less : p_Less 0 (s_Sub (kf (nK (some (l, h)))) (kf q) 2).1 = decide (0 < subF (nK (some (l, h))) q) := by
    rw [less_kz zero_wd s.2.1, s.2.2.1, show kz 0 = some 0 from kz_kf (z := 0) (by omega) (by omega)]; rfl
  have hf : sp_Has (enc (some (l, h))) 0 = false := hs.trans (eq_false_of_ne_true c)
  have pre : ∀ {v : Int}, Tr.Is (.br (!p_Less 0 (s_Sub (sp_Abs (enc (some (l, h)))).lo (kf q) 2).fst) (.leaf sl_inf) (.ast (sp_Most_s (enc A)) (.ast (sl_div_s (sp_Most (enc A)) (sp_Abs (enc (some (l, h)))).lo)
      (.ast (sl_mul_s (sl_div (sp_Most (enc A)) (sp_Abs (enc (some (l, h)))).lo) (kf q)) (.ast (sl_add_s (sl_mul (sl_div (sp_Most (enc A)) (sp_Abs (enc (some (l, h)))).lo) (kf q)) (kf p))
      (.ast (sl_div_s (sl_add (sl_mul (sl_div (sp_Most (enc A)) (sp_Abs (enc (some (l, h)))).lo) (kf q)) (kf p)) (s_Sub (sp_Abs (enc (some (l, h)))).lo (kf q) 2).fst)
      (.ast (sl_add_s (sl_div (sl_add (sl_mul (sl_div (sp_Most (enc A)) (sp_Abs (enc (some (l, h)))).lo) (kf q)) (kf p)) (s_Sub (sp_Abs (enc (some (l, h)))).lo (kf q) 2).fst) (kf ρ))
      (.leaf (sl_add (sl_div (sl_add (sl_mul (sl_div (sp_Most (enc A)) (sp_Abs (enc (some (l, h)))).lo) (kf q)) (kf p)) (s_Sub (sp_Abs (enc (some (l, h)))).lo (kf q) 2).fst) (kf ρ)))))))))) v → Tr.Is (sl_quotient_t ⟨enc A, enc (some (l, h)), N, kf p, kf q⟩ (kf ρ)) v := fun t =>
    Tr.is_br_f hf (Tr.is_ast ab (Tr.is_ast (by show s_Sub_s (sp_Abs (enc (some (l, h)))).lo (kf q) 2 = true; rw [n3]; exact s.1) t))
  rw [n3, less] at pre
  by_cases d : 0 < subF (nK (some (l, h))) q
  · rw [if_pos d]
    have m := most_enc hA; have mr := most_rng hA
    have R := s.2.2.2.rng
    have d1 := sldiv_is mr.1 mr.2 n1 (Int.le_of_lt n2)
    have d2 := slmul_is d1.2.2.1 d1.2.2.2 q1 q2
    have d3 := sladd_is d2.2.2.1 d2.2.2.2 p1 p2
    have d4 := sldiv_is (y := subF (nK (some (l, h))) q) d3.2.2.1 d3.2.2.2 d R.2
    have d5 := sladd_is d4.2.2.1 d4.2.2.2 r1 r2
    -- the difference is a float above nought: of one key there is one
    have ed : (s_Sub (kf (nK (some (l, h)))) (kf q) 2).1 = kf (subF (nK (some (l, h))) q) := by
      have w := s.2.1; have k := s.2.2.1
      rcases kz_cases w with ⟨e, _⟩ | ⟨s', k', hk, e, e'⟩
      · rw [e] at k; cases k
      · rw [e'] at k; injection k with k
        rw [e, ← k, kf_ky, if_neg]
        intro k0
        rw [k0, show ky s' 0 = 0 by cases s' <;> rfl] at k; omega
    rw [ed, m.2, d1.2.1, d2.2.1, d3.2.1, d4.2.1, d5.2.1] at pre
    exact ⟨pre (Tr.is_br_f (by rw [dt d]; rfl) (Tr.is_ast m.1 (Tr.is_ast d1.1 (Tr.is_ast d2.1 (Tr.is_ast d3.1 (Tr.is_ast d4.1 (Tr.is_ast d5.1 (Tr.is_leaf rfl)))))))), d5.2.2.1, d5.2.2.2⟩
  · rw [if_neg d]
    exact ⟨pre (Tr.is_br_t (by rw [df d]; rfl) (Tr.is_leaf inf_kf)), by omega, by omega⟩
def opsT (op p q : Int) (sa sb : SP) (S : SD) (ρ : Int) : Tr Int :=
  .br (op == 5) (.ast (sl_add_s p q) (.ast (sl_add_s (sl_add p q) ρ) (.leaf (sl_add (sl_add p q) ρ))))
    (.br (op == 6) (.ast (sl_add_s p q) (.ast (sl_add_s (sl_add p q) ρ) (.leaf (sl_add (sl_add p q) ρ))))
    (.br (op == 7) (.ast (sp_Most_s sa) (.ast (sl_mul_s (sp_Most sa) q) (.ast (sp_Most_s sb) (.ast (sl_mul_s (sp_Most sb) p) (.ast (sl_add_s (sl_mul (sp_Most sa) q) (sl_mul (sp_Most sb) p)) (.ast (sl_mul_s p q)
      (.ast (sl_add_s (sl_add (sl_mul (sp_Most sa) q) (sl_mul (sp_Most sb) p)) (sl_mul p q)) (.ast (sl_add_s (sl_add (sl_add (sl_mul (sp_Most sa) q) (sl_mul (sp_Most sb) p)) (sl_mul p q)) ρ)
      (.leaf (sl_add (sl_add (sl_add (sl_mul (sp_Most sa) q) (sl_mul (sp_Most sb) p)) (sl_mul p q)) ρ))))))))))
    (.br (op == 8) (.ast (sl_quotient_s S ρ) (.leaf (sl_quotient S ρ))) (.br (op == 17) (.leaf p) (.br (op == 21) (.leaf p) (.br (op == 20) (.leaf 0) (.leaf sl_inf)))))))
def restT (op p q : Int) (sa sb sn : SP) : Tr Int :=
  .ast (sp_Most_s sn) (.ast (sl_Round_s (sp_Most sn)) (.ast (sl_fades_s ⟨sa, sb, sn, p, q⟩ op) (.br (sl_fades ⟨sa, sb, sn, p, q⟩ op) (.br (sl_Round (sp_Most sn) == 0) (opsT op p q sa sb ⟨sa, sb, sn, p, q⟩ 1) (opsT op p q sa sb ⟨sa, sb, sn, p, q⟩ (sl_Round (sp_Most sn)))) (opsT op p q sa sb ⟨sa, sb, sn, p, q⟩ (sl_Round (sp_Most sn))))))
def opsK (op : Int) (A B : IV) (p q ρ : Int) : Int :=
  if op = 5 ∨ op = 6 then addF 1 (addF 1 p q) ρ
  else if op = 7 then addF 1 (addF 1 (addF 1 (mulF 1 (mostK A) q) (mulF 1 (mostK B) p)) (mulF 1 p q)) ρ
  else if op = 8 then quotK A B p q ρ else if op = 17 ∨ op = 21 then p else if op = 20 then 0 else 9218868437227405312
theorem ops_is {op : Int} {A : IV} {l h : Int} (hA : GI A) (hB : GI (some (l, h))) {N : SP} {p q ρ : Int} (p1 : 0 ≤ p) (p2 : p ≤ 9218868437227405312) (q1 : 0 ≤ q) (q2 : q ≤ 9218868437227405312) (r1 : 0 ≤ ρ) (r2 : ρ ≤ 9218868437227405312) :
    Tr.Is (opsT op (kf p) (kf q) (enc A) (enc (some (l, h))) ⟨enc A, enc (some (l, h)), N, kf p, kf q⟩ (kf ρ)) (kf (opsK op A (some (l, h)) p q ρ)) ∧ 0 ≤ opsK op A (some (l, h)) p q ρ ∧ opsK op A (some (l, h)) p q ρ ≤ 9218868437227405312 := by
  have a1 := sladd_is p1 p2 q1 q2
  have a2 := sladd_is a1.2.2.1 a1.2.2.2 r1 r2
  rw [← a1.2.1] at a2
  unfold opsK
  by_cases o5 : op = 5
  · rw [if_pos (.inl o5)]
    exact ⟨Tr.is_br_t (bt o5) (Tr.is_ast a1.1 (Tr.is_ast a2.1 (Tr.is_leaf a2.2.1))), a2.2.2⟩
  by_cases o6 : op = 6
  · rw [if_pos (.inr o6)]
    exact ⟨Tr.is_br_f (bf o5) (Tr.is_br_t (bt o6) (Tr.is_ast a1.1 (Tr.is_ast a2.1 (Tr.is_leaf a2.2.1)))), a2.2.2⟩
  rw [if_neg (by omega)]
  by_cases o7 : op = 7
  · rw [if_pos o7]
    have mA := most_enc hA; have rA := most_rng hA
    have mB := most_enc hB; have rB := most_rng hB
    have b1 := slmul_is rA.1 rA.2 q1 q2
    have b2 := slmul_is rB.1 rB.2 p1 p2
    have b3 := sladd_is b1.2.2.1 b1.2.2.2 b2.2.2.1 b2.2.2.2
    have b4 := slmul_is p1 p2 q1 q2
    have b5 := sladd_is b3.2.2.1 b3.2.2.2 b4.2.2.1 b4.2.2.2
    have b6 := sladd_is b5.2.2.1 b5.2.2.2 r1 r2
    rw [← b5.2.1, ← b3.2.1, ← b4.2.1, ← b1.2.1, ← b2.2.1, ← mA.2, ← mB.2] at b6
    rw [← b3.2.1, ← b4.2.1, ← b1.2.1, ← b2.2.1, ← mA.2, ← mB.2] at b5
    rw [← b1.2.1, ← b2.2.1, ← mA.2, ← mB.2] at b3
    rw [← mA.2] at b1; rw [← mB.2] at b2
    exact ⟨Tr.is_br_f (bf o5) (Tr.is_br_f (bf o6) (Tr.is_br_t (bt o7) (Tr.is_ast mA.1 (Tr.is_ast b1.1 (Tr.is_ast mB.1 (Tr.is_ast b2.1 (Tr.is_ast b3.1 (Tr.is_ast b4.1 (Tr.is_ast b5.1 (Tr.is_ast b6.1 (Tr.is_leaf b6.2.1))))))))))), b6.2.2⟩
  rw [if_neg o7]
  by_cases o8 : op = 8
  · rw [if_pos o8]
    have t := quot_is (N := N) hA hB p1 p2 q1 q2 r1 r2
    exact ⟨Tr.is_br_f (bf o5) (Tr.is_br_f (bf o6) (Tr.is_br_f (bf o7) (Tr.is_br_t (bt o8) (Tr.is_ast t.1.2 (Tr.is_leaf t.1.1))))), t.2⟩
  rw [if_neg o8]
  by_cases o17 : op = 17
  · rw [if_pos (.inl o17)]
    exact ⟨Tr.is_br_f (bf o5) (Tr.is_br_f (bf o6) (Tr.is_br_f (bf o7) (Tr.is_br_f (bf o8) (Tr.is_br_t (bt o17) (Tr.is_leaf rfl))))), p1, p2⟩
  by_cases o21 : op = 21
  · rw [if_pos (.inr o21)]
    exact ⟨Tr.is_br_f (bf o5) (Tr.is_br_f (bf o6) (Tr.is_br_f (bf o7) (Tr.is_br_f (bf o8) (Tr.is_br_f (bf o17) (Tr.is_br_t (bt o21) (Tr.is_leaf rfl)))))), p1, p2⟩
  rw [if_neg (by omega)]
  by_cases o20 : op = 20
  · rw [if_pos o20]
    exact ⟨Tr.is_br_f (bf o5) (Tr.is_br_f (bf o6) (Tr.is_br_f (bf o7) (Tr.is_br_f (bf o8) (Tr.is_br_f (bf o17) (Tr.is_br_f (bf o21) (Tr.is_br_t (bt o20) (Tr.is_leaf rfl))))))), by omega, by omega⟩
  · rw [if_neg o20]
    exact ⟨Tr.is_br_f (bf o5) (Tr.is_br_f (bf o6) (Tr.is_br_f (bf o7) (Tr.is_br_f (bf o8) (Tr.is_br_f (bf o17) (Tr.is_br_f (bf o21) (Tr.is_br_f (bf o20) (Tr.is_leaf inf_kf))))))), by omega, by omega⟩
def fadesK (op : Int) (A B : IV) : Bool := (op == 7 && (mostK A != 0 && mostK B != 0)) || (op == 8 && mostK A != 0)
def rhoK (op : Int) (A B N : IV) : Int := if fadesK op A B && (rndK (mostK N) == 0) then 1 else rndK (mostK N)
theorem most_ne {A : IV} (hA : GI A) : (sp_Most (enc A) != 0) = (mostK A != 0) := by
  have r := most_rng hA
  rw [(most_enc hA).2]
  have e : (kf (mostK A) == 0) = (mostK A == 0) := by
    rw [← kf0, kf_eq (by omega) r.2 (by omega) (by omega), Bool.eq_iff_iff, beq_iff_eq, decide_eq_true_eq]; rfl
  show (!(kf (mostK A) == 0)) = (!(mostK A == 0)); rw [e]
theorem fades_is {op : Int} {A B : IV} (hA : GI A) (hB : GI B) {N : SP} {p q : Int} : Tr.Is (sl_fades_t ⟨enc A, enc B, N, p, q⟩ op) (fadesK op A B) := by
  have mA := most_enc hA; have mB := most_enc hB
  have eA := most_ne hA; have eB := most_ne hB
  unfold fadesK sl_fades_t sl_fades_T
  dsimp only
  rw [eA, eB]
  by_cases o7 : op = 7
  · rw [show (op == 7) = true from bt o7, show (op == 8) = false from bf (by omega)]
    refine Tr.is_br_t rfl (Tr.is_ast mA.1 ?_)
    cases mostK A != 0
    · exact Tr.is_br_f rfl (Tr.is_leaf rfl)
    · exact Tr.is_br_t rfl (Tr.is_ast mB.1 (Tr.is_leaf (by cases mostK B != 0 <;> rfl)))
  · rw [show (op == 7) = false from bf o7]
    refine Tr.is_br_f rfl ?_
    cases op == 8
    · exact Tr.is_br_f rfl (Tr.is_leaf rfl)
    · exact Tr.is_br_t rfl (Tr.is_ast mA.1 (Tr.is_leaf (by cases mostK A != 0 <;> rfl)))
def doK (op : Int) (A B N : IV) (p q : Int) : Int := opsK op A B p q (rhoK op A B N)
theorem rho_rng {op : Int} {A B N : IV} (hN : GI N) : 0 ≤ rhoK op A B N ∧ rhoK op A B N ≤ 9218868437227405312 := by
  have m := most_rng hN
  have r := (Round_is m.1 m.2).2.2
  unfold rhoK; split <;> omega
theorem rest_is {op : Int} {A N : IV} {l h : Int} (hA : GI A) (hB : GI (some (l, h))) (hN : GI N) {p q : Int} (p1 : 0 ≤ p) (p2 : p ≤ 9218868437227405312) (q1 : 0 ≤ q) (q2 : q ≤ 9218868437227405312) :
    Tr.Is (restT op (kf p) (kf q) (enc A) (enc (some (l, h))) (enc N)) (kf (doK op A (some (l, h)) N p q)) := by
  have mN := most_enc hN; have rN := most_rng hN
  have R := Round_is rN.1 rN.2
  have f := fades_is (op := op) hA hB (N := enc N) (p := kf p) (q := kf q)
  have fv' : sl_fades ⟨enc A, enc (some (l, h)), enc N, kf p, kf q⟩ op = fadesK op A (some (l, h)) := f.1
  have o := fun ρ (r1 : 0 ≤ ρ) (r2 : ρ ≤ 9218868437227405312) => (ops_is (op := op) hA hB (N := enc N) p1 p2 q1 q2 r1 r2).1
  have e0 : (kf (rndK (mostK N)) == 0) = (rndK (mostK N) == 0) := by
    rw [← kf0, kf_eq (by omega) R.2.2.2 (by omega) (by omega), Bool.eq_iff_iff, beq_iff_eq, decide_eq_true_eq]; rfl
  unfold restT doK rhoK
  refine Tr.is_ast mN.1 ?_
  rw [mN.2]
  refine Tr.is_ast R.1 (Tr.is_ast f.2 ?_)
  rw [fv', R.2.1, e0]
  have o1 := o 1 (by omega) (by omega)
  have o2 := o (rndK (mostK N)) R.2.2.1 R.2.2.2
  cases fadesK op A (some (l, h))
  · exact Tr.is_br_f rfl o2
  · refine Tr.is_br_t rfl ?_
    cases rndK (mostK N) == 0
    · exact Tr.is_br_f rfl o2
    · exact Tr.is_br_t rfl o1
theorem Join1 {a : SP} (ha : WS a) : sp_Join_s (id [jrow a]) = true ∧ sp_Join (id [jrow a]) = enc (nI a) := Join_spec (l := [a]) (by show 1 ≤ 1000000; omega) (fun s hs => by
    rcases List.mem_cons.1 hs with e | hs
    · subst e; exact ha
    · cases hs)
theorem Do_is {op : Int} {a b n : SP} {ea eb : Int} (ha : WS a) (hb : WS b) (hn : WS n) (he : Wd ea) (hf : Wd eb) (A0 : nI a ≠ none) (B0 : nI b ≠ none) (N0 : nI n ≠ none) :
    Tr.Is (sl_Do_t op a b n ea eb) (kf (doK op (nI a) (nI b) (nI n) (gk (kz ea)) (gk (kz eb)))) := by
  have ja := Join1 ha; have jb := Join1 hb; have jn := Join1 hn
  have gA := GI.nI ha; have gB := GI.nI hb; have gN := GI.nI hn
  have p := gk_kz he; have q := gk_kz hf
  unfold sl_Do_t sl_Do_T
  change Tr.Is (.ast (sp_Join_s (id [jrow a])) (.ast (sp_Join_s (id [jrow b])) (.ast (sp_Join_s (id [jrow n])) (.br (sp_Join (id [jrow a])).empty (.leaf 0) (.br (sp_Join (id [jrow n])).empty (.leaf 0)
    (.br (decide (5 ≤ op)) (.br (decide (op ≤ 16)) (.br (sp_Join (id [jrow b])).empty (.leaf 0) (restT op (sl_Good ea) (sl_Good eb) (sp_Join (id [jrow a])) (sp_Join (id [jrow b])) (sp_Join (id [jrow n]))))
      (restT op (sl_Good ea) (sl_Good eb) (sp_Join (id [jrow a])) (sp_Join (id [jrow b])) (sp_Join (id [jrow n])))) (restT op (sl_Good ea) (sl_Good eb) (sp_Join (id [jrow a])) (sp_Join (id [jrow b])) (sp_Join (id [jrow n]))))))))) _
  rw [ja.2, jb.2, jn.2, (Good_kz he).1, (Good_kz hf).1]
  refine Tr.is_ast ja.1 (Tr.is_ast jb.1 (Tr.is_ast jn.1 ?_))
  match nI a, nI b, nI n, A0, B0, N0, gA, gB, gN with
  | none, _, _, A0, _, _, _, _, _ => exact absurd rfl A0
  | some _, none, _, _, B0, _, _, _, _ => exact absurd rfl B0
  | some _, some _, none, _, _, N0, _, _, _ => exact absurd rfl N0
  | some (al, ah), some (bl, bh), some (nl, nh), _, _, _, gA, gB, gN =>
    have t := rest_is (op := op) gA gB gN p.1 p.2 q.1 q.2
    refine Tr.is_br_f rfl (Tr.is_br_f rfl ?_)
    cases decide (5 ≤ op)
    · exact Tr.is_br_f rfl t
    · refine Tr.is_br_t rfl ?_
      cases decide (op ≤ 16)
      · exact Tr.is_br_f rfl t
      · exact Tr.is_br_t rfl (Tr.is_br_f rfl t)
end Go.Fb
namespace Go.Fb
open Go.Ev
theorem addF_le {x y x' y' : Int} (a : 0 ≤ x) (b : x ≤ x') (c : x' ≤ 9218868437227405312) (d : 0 ≤ y) (e : y ≤ y') (f : y' ≤ 9218868437227405312) : addF 1 x y ≤ addF 1 x' y' := by
  have s := (addF_spec (z := x) (w := y) (by omega) (by omega) (by omega) (by omega) (by omega) (by omega) 1).2.2.2
  have t := (addF_spec (z := x') (w := y') (by omega) (by omega) (by omega) (by omega) (by omega) (by omega) 1).2.2.2
  exact s.mono t b e (by omega) c (by omega) f
theorem mulF_le {x y x' y' : Int} (a : 0 ≤ x) (b : x ≤ x') (c : x' ≤ 9218868437227405312) (d : 0 ≤ y) (e : y ≤ y') (f : y' ≤ 9218868437227405312) : mulF 1 x y ≤ mulF 1 x' y' := by
  have s := (mulF_spec (z := x) (w := y) (by omega) (by omega) (by omega) (by omega) 1).2.2.2
  have u := (mulF_spec (z := x') (w := y) (by omega) (by omega) (by omega) (by omega) 1).2.2.2
  have t := (mulF_spec (z := x') (w := y') (by omega) (by omega) (by omega) (by omega) 1).2.2.2
  have h1 := s.mono u d b (by omega) c (by omega)
  have h2 := u.symm.mono t.symm (by omega) e (by omega) f c
  omega
theorem divF_le {x y x' y' : Int} (a : 0 ≤ x) (b : x ≤ x') (c : x' ≤ 9218868437227405312) (d : 0 < y') (e : y' ≤ y) (f : y ≤ 9218868437227405312) : divF 1 x y ≤ divF 1 x' y' := by
  have s := (divF_spec (z := x) (w := y) (by omega) (by omega) (by omega) (by omega) 1).2.2.2
  have u := (divF_spec (z := x') (w := y) (by omega) (by omega) (by omega) (by omega) 1).2.2.2
  have t := (divF_spec (z := x') (w := y') (by omega) (by omega) (by omega) (by omega) 1).2.2.2
  have h1 := s.mono u (by omega) b (by omega) c f
  have h2 := (t.less u (by omega) e (by omega) c f).1 (by omega)
  omega
theorem has0_mono {B B' : IV} (i : insI B B' = true) (h : hasI B (some 0) = true) : hasI B' (some 0) = true := by
  obtain ⟨l, u, rfl, a, b⟩ := has0.1 h
  obtain ⟨l', u', rfl, c, d⟩ := insI_some i
  exact has0.2 ⟨l', u', rfl, by omega, by omega⟩
theorem quot_mono {A A' : IV} {l h l' h' : Int} (hA : GI A) (hA' : GI A') (hB : GI (some (l, h))) (hB' : GI (some (l', h'))) (i : insI A A' = true) (j : insI (some (l, h)) (some (l', h')) = true) {p q ρ p' q' ρ' : Int}
    (p1 : 0 ≤ p) (p2 : p ≤ p') (p3 : p' ≤ 9218868437227405312) (q1 : 0 ≤ q) (q2 : q ≤ q') (q3 : q' ≤ 9218868437227405312) (r1 : 0 ≤ ρ) (r2 : ρ ≤ ρ') (r3 : ρ' ≤ 9218868437227405312) : quotK A (some (l, h)) p q ρ ≤ quotK A' (some (l', h')) p' q' ρ' := by
  have R := (quot_is (N := ⟨true, 0, 0⟩) (p := p) (q := q) (ρ := ρ) hA hB p1 (by omega) q1 (by omega) r1 (by omega)).2
  by_cases c' : hasI (some (l', h')) (some 0) = true
  · have e : quotK A' (some (l', h')) p' q' ρ' = 9218868437227405312 := if_pos c'
    rw [e]; exact R.2
  have c : ¬ hasI (some (l, h)) (some 0) = true := fun g => c' (has0_mono j g)
  obtain ⟨n1, n2, _, n4⟩ := nK_facts hB c
  obtain ⟨m1, m2, _, m4⟩ := nK_facts hB' c'
  have b := hB _ _ rfl
  have jj : l' ≤ l ∧ h ≤ h' := by simpa [insI] using j
  have nn : nK (some (l', h')) ≤ nK (some (l, h)) := by omega
  have s := (subF_spec n1 n2 q1 (by omega)).2.2.2
  have t := (subF_spec m1 m2 (show 0 ≤ q' by omega) q3).2.2.2
  have ss := t.mono s nn (by omega) (by omega) (by omega) (by omega) (by omega)
  have sr := s.rng
  unfold quotK at R ⊢
  rw [if_neg c] at R ⊢
  rw [if_neg c']
  by_cases d' : 0 < subF (nK (some (l', h'))) q'
  · rw [if_pos d', if_pos (show 0 < subF (nK (some (l, h))) q by omega)]
    have mm := most_mono hA hA' i
    have mr := most_rng hA; have mr' := most_rng hA'
    have d1 := divF_le mr.1 mm mr'.2 m1 nn (Int.le_of_lt n2)
    have e1 := (sldiv_is mr.1 mr.2 n1 (Int.le_of_lt n2)).2.2
    have e1' := (sldiv_is mr'.1 mr'.2 m1 (Int.le_of_lt m2)).2.2
    have d2 := mulF_le e1.1 d1 e1'.2 q1 q2 q3
    have e2 := (slmul_is e1.1 e1.2 q1 (show q ≤ 9218868437227405312 by omega)).2.2
    have e2' := (slmul_is e1'.1 e1'.2 (show 0 ≤ q' by omega) q3).2.2
    have d3 := addF_le e2.1 d2 e2'.2 p1 p2 p3
    have e3 := (sladd_is e2.1 e2.2 p1 (show p ≤ 9218868437227405312 by omega)).2.2
    have e3' := (sladd_is e2'.1 e2'.2 (show 0 ≤ p' by omega) p3).2.2
    have d4 := divF_le e3.1 d3 e3'.2 d' ss sr.2
    have e4 := (sldiv_is e3.1 e3.2 (show 0 < subF (nK (some (l, h))) q by omega) sr.2).2.2
    have e4' := (sldiv_is e3'.1 e3'.2 d' t.rng.2).2.2
    exact addF_le e4.1 d4 e4'.2 r1 r2 r3
  · rw [if_neg d']; exact R.2
theorem rho_mono {op : Int} {A B N A' B' N' : IV} (hA : GI A) (hB : GI B) (hN : GI N) (hA' : GI A') (hB' : GI B') (hN' : GI N') (i : insI A A' = true) (j : insI B B' = true) (k : insI N N' = true) : rhoK op A B N ≤ rhoK op A' B' N' := by
  have m1 := most_mono hA hA' i; have m2 := most_mono hB hB' j; have m3 := most_mono hN hN' k
  have rA := most_rng hA; have rB := most_rng hB
  have rN := most_rng hN; have rN' := most_rng hN'
  have r := rnd_mono rN.1 m3 rN'.2
  have x := (Round_is rN.1 rN.2).2.2
  have f : fadesK op A B = true → fadesK op A' B' = true := by
    unfold fadesK
    simp only [Bool.or_eq_true, Bool.and_eq_true, bne_iff_ne, beq_iff_eq]
    rintro (⟨a, b, c⟩ | ⟨a, b⟩)
    · exact .inl ⟨a, by omega, by omega⟩
    · exact .inr ⟨a, by omega⟩
  unfold rhoK
  by_cases c : (fadesK op A B && (rndK (mostK N) == 0)) = true
  · rw [if_pos c]
    have g := f (Bool.and_eq_true_iff.1 c).1
    rw [g]
    by_cases e : rndK (mostK N') = 0
    · rw [if_pos (by rw [bt e]; rfl)]; exact Int.le_refl _
    · rw [if_neg (by rw [bf e]; simp)]; omega
  · rw [if_neg c]; split
    · rename_i g
      have := beq_iff_eq.1 (Bool.and_eq_true_iff.1 g).2
      omega
    · exact r
theorem ops_mono {op : Int} {A A' : IV} {l h l' h' : Int} (hA : GI A) (hA' : GI A') (hB : GI (some (l, h))) (hB' : GI (some (l', h'))) (i : insI A A' = true) (j : insI (some (l, h)) (some (l', h')) = true) {p q ρ p' q' ρ' : Int}
    (p1 : 0 ≤ p) (p2 : p ≤ p') (p3 : p' ≤ 9218868437227405312) (q1 : 0 ≤ q) (q2 : q ≤ q') (q3 : q' ≤ 9218868437227405312) (r1 : 0 ≤ ρ) (r2 : ρ ≤ ρ') (r3 : ρ' ≤ 9218868437227405312) : opsK op A (some (l, h)) p q ρ ≤ opsK op A' (some (l', h')) p' q' ρ' := by
  have a1 := (sladd_is p1 (show p ≤ 9218868437227405312 by omega) q1 (show q ≤ 9218868437227405312 by omega)).2.2
  have a1' := (sladd_is (show 0 ≤ p' by omega) p3 (show 0 ≤ q' by omega) q3).2.2
  unfold opsK
  by_cases o5 : op = 5 ∨ op = 6
  · rw [if_pos o5, if_pos o5]
    exact addF_le a1.1 (addF_le p1 p2 p3 q1 q2 q3) a1'.2 r1 r2 r3
  rw [if_neg o5, if_neg o5]
  by_cases o7 : op = 7
  · rw [if_pos o7, if_pos o7]
    have mA := most_mono hA hA' i; have mB := most_mono hB hB' j
    have rA := most_rng hA; have rA' := most_rng hA'; have rB := most_rng hB; have rB' := most_rng hB'
    have b1 := (slmul_is rA.1 rA.2 q1 (show q ≤ 9218868437227405312 by omega)).2.2
    have b1' := (slmul_is rA'.1 rA'.2 (show 0 ≤ q' by omega) q3).2.2
    have b2 := (slmul_is rB.1 rB.2 p1 (show p ≤ 9218868437227405312 by omega)).2.2
    have b2' := (slmul_is rB'.1 rB'.2 (show 0 ≤ p' by omega) p3).2.2
    have b3 := (sladd_is b1.1 b1.2 b2.1 b2.2).2.2
    have b3' := (sladd_is b1'.1 b1'.2 b2'.1 b2'.2).2.2
    have b4 := (slmul_is p1 (show p ≤ 9218868437227405312 by omega) q1 (show q ≤ 9218868437227405312 by omega)).2.2
    have b4' := (slmul_is (show 0 ≤ p' by omega) p3 (show 0 ≤ q' by omega) q3).2.2
    have b5 := (sladd_is b3.1 b3.2 b4.1 b4.2).2.2
    have b5' := (sladd_is b3'.1 b3'.2 b4'.1 b4'.2).2.2
    exact addF_le b5.1 (addF_le b3.1 (addF_le b1.1 (mulF_le rA.1 mA rA'.2 q1 q2 q3) b1'.2 b2.1 (mulF_le rB.1 mB rB'.2 p1 p2 p3) b2'.2) b3'.2 b4.1 (mulF_le p1 p2 p3 q1 q2 q3) b4'.2) b5'.2 r1 r2 r3
  rw [if_neg o7, if_neg o7]
  by_cases o8 : op = 8
  · rw [if_pos o8, if_pos o8]; exact quot_mono hA hA' hB hB' i j p1 p2 p3 q1 q2 q3 r1 r2 r3
  rw [if_neg o8, if_neg o8]
  split
  · exact p2
  · split <;> exact Int.le_refl _
theorem ne_of_join {A C : IV} (h : A ≠ none) : joinI A C ≠ none := by
  match A, C, h with
  | none, _, h => exact absurd rfl h
  | some _, none, _ => exact fun e => by cases e
  | some (_, _), some (_, _), _ => exact fun e => by cases e
theorem two_wdl {a b : Int} (ha : Wd a) (hb : Wd b) : WdL [a, b] := fun x hx => by
  rcases List.mem_cons.1 hx with e | hx
  · subst e; exact ha
  · rcases List.mem_cons.1 hx with e | hx
    · subst e; exact hb
    · cases hx
theorem gk_kf {J : Int} (h : 0 ≤ J) (g : J ≤ 9218868437227405312) : gk (kz (kf J)) = J := by rw [kz_kf (by omega) g, gk_some h]
theorem less_of {x y : Int} (h : 0 ≤ x) (l : x ≤ y) (g : y ≤ 9218868437227405312) : p_Less (kf y) (kf x) = false := by
  rw [less_kz (kf_wd (by omega) g) (kf_wd (by omega) (by omega)), kz_kf (by omega) g, kz_kf (by omega) (by omega)]
  exact df (by omega)
theorem do_mono {op : Int} {A B N A' B' N' : IV} (hA : GI A) (hB : GI B) (hN : GI N) (hA' : GI A') (hB' : GI B') (hN' : GI N') (_A0 : A ≠ none) (B0 : B ≠ none) (i : insI A A' = true) (j : insI B B' = true) (k : insI N N' = true)
    {p q p' q' : Int} (p1 : 0 ≤ p) (p2 : p ≤ p') (p3 : p' ≤ 9218868437227405312) (q1 : 0 ≤ q) (q2 : q ≤ q') (q3 : q' ≤ 9218868437227405312) :
    0 ≤ doK op A B N p q ∧ doK op A B N p q ≤ doK op A' B' N' p' q' ∧ doK op A' B' N' p' q' ≤ 9218868437227405312 := by
  cases B with
  | none => exact absurd rfl B0
  | some b =>
    obtain ⟨l, h⟩ := b
    obtain ⟨l', h', e, _, _⟩ := insI_some j
    subst e
    have rho := rho_mono (op := op) hA hB hN hA' hB' hN' i j k
    have rr := rho_rng (op := op) (A := A) (B := some (l, h)) hN
    have rr' := rho_rng (op := op) (A := A') (B := some (l', h')) hN'
    have R1 := (ops_is (op := op) (N := ⟨true, 0, 0⟩) hA hB p1 (show p ≤ 9218868437227405312 by omega) q1 (show q ≤ 9218868437227405312 by omega) rr.1 rr.2).2
    have R2 := (ops_is (op := op) (N := ⟨true, 0, 0⟩) hA' hB' (show 0 ≤ p' by omega) p3 (show 0 ≤ q' by omega) q3 rr'.1 rr'.2).2
    exact ⟨R1.1, ops_mono (op := op) hA hA' hB hB' i j p1 p2 p3 q1 q2 q3 rr.1 rho rr'.2, R2.2⟩
theorem SlipRises_both {op : Int} {a b n c : SP} {ea eb more : Int} (ha : WS a) (hb : WS b) (hn : WS n) (hc : WS c) (he : Wd ea) (hf : Wd eb) (hm : Wd more) : l_SlipRises op a b n c ea eb more = true ∧ l_SlipRises_s op a b n c ea eb more = true := by
  suffices h : Tr.Is (l_SlipRises_t op a b n c ea eb more) true from ⟨h.1, h.2⟩
  have gA := GI.nI ha; have gB := GI.nI hb; have gN := GI.nI hn; have gC := GI.nI hc
  have ja := Join1 ha; have jb := Join1 hb; have jn := Join1 hn
  have eja : sp_Join (id [[Cv.b a.empty, Cv.i a.lo, Cv.i a.hi]]) = enc (nI a) := ja.2
  have ejb : sp_Join (id [[Cv.b b.empty, Cv.i b.lo, Cv.i b.hi]]) = enc (nI b) := jb.2
  have ejn : sp_Join (id [[Cv.b n.empty, Cv.i n.lo, Cv.i n.hi]]) = enc (nI n) := jn.2
  have j1 := Join2 ha hc; have j2 := Join2 hb hc; have j3 := Join2 hn hc
  have e1 : sp_Join (id [[Cv.b a.empty, Cv.i a.lo, Cv.i a.hi], [Cv.b c.empty, Cv.i c.lo, Cv.i c.hi]]) = enc (joinI (nI a) (nI c)) := j1.2
  have e2 : sp_Join (id [[Cv.b b.empty, Cv.i b.lo, Cv.i b.hi], [Cv.b c.empty, Cv.i c.lo, Cv.i c.hi]]) = enc (joinI (nI b) (nI c)) := j2.2
  have e3 : sp_Join (id [[Cv.b n.empty, Cv.i n.lo, Cv.i n.hi], [Cv.b c.empty, Cv.i c.lo, Cv.i c.hi]]) = enc (joinI (nI n) (nI c)) := j3.2
  have m1 := sJoin_is (l := [ea, more]) (by show 2 ≤ 1000000; omega) (two_wdl he hm)
  have m2 := sJoin_is (l := [eb, more]) (by show 2 ≤ 1000000; omega) (two_wdl hf hm)
  have r1 := jmax_rng (J := 0) (two_wdl he hm) (by omega) (by omega)
  have r2 := jmax_rng (J := 0) (two_wdl hf hm) (by omega) (by omega)
  have p := gk_kz he; have q := gk_kz hf
  have l1 : gk (kz ea) ≤ jmax 0 [ea, more] := by
    show _ ≤ max (max 0 (gk (kz ea))) (gk (kz more)); omega
  have l2 : gk (kz eb) ≤ jmax 0 [eb, more] := by
    show _ ≤ max (max 0 (gk (kz eb))) (gk (kz more)); omega
  unfold l_SlipRises_t l_SlipRises_T
  rw [eja, ejb, ejn, e1, e2, e3, m1.2, m2.2]
  refine pre19 (Tr.is_ast ja.1 (Tr.is_ast jb.1 (Tr.is_ast jn.1 ?_)))
  by_cases A0 : nI a = none
  · rw [A0]; exact Tr.is_br_t rfl (Tr.is_leaf works19.1)
  by_cases B0 : nI b = none
  · refine Tr.is_br_f ?_ (by rw [B0]; exact Tr.is_br_t rfl (Tr.is_leaf works19.1))
    cases h : nI a with
    | none => exact absurd h A0
    | some _ => rfl
  by_cases N0 : nI n = none
  · refine Tr.is_br_f ?_ (Tr.is_br_f ?_ (by rw [N0]; exact Tr.is_br_t rfl (Tr.is_leaf works19.1)))
    · cases h : nI a with
      | none => exact absurd h A0
      | some _ => rfl
    · cases h : nI b with
      | none => exact absurd h B0
      | some _ => rfl
  have emp : ∀ {X : IV}, X ≠ none → (enc X).empty = false := fun {X} h => by
    cases X with
    | none => exact absurd rfl h
    | some _ => rfl
  refine Tr.is_br_f (emp A0) (Tr.is_br_f (emp B0) (Tr.is_br_f (emp N0) ?_))
  have gJ := GI.join gA gC; have gK := GI.join gB gC; have gL := GI.join gN gC
  have d1 := Do_is (op := op) ha hb hn he hf A0 B0 N0
  have d2 := Do_is (op := op) (enc_ws gJ) (enc_ws gK) (enc_ws gL) (kf_wd (z := jmax 0 [ea, more]) (by omega) r1.2) (kf_wd (z := jmax 0 [eb, more]) (by omega) r2.2)
    (by rw [nI_enc gJ]; exact ne_of_join A0) (by rw [nI_enc gK]; exact ne_of_join B0) (by rw [nI_enc gL]; exact ne_of_join N0)
  rw [nI_enc gJ, nI_enc gK, nI_enc gL, gk_kf r1.1 r1.2, gk_kf r2.1 r2.2] at d2
  have f1 : sl_Do op a b n ea eb = _ := d1.1
  have f2 : sl_Do op (enc (joinI (nI a) (nI c))) (enc (joinI (nI b) (nI c))) (enc (joinI (nI n) (nI c))) (kf (jmax 0 [ea, more])) (kf (jmax 0 [eb, more])) = _ := d2.1
  refine Tr.is_ast d1.2 (Tr.is_ast j1.1 (Tr.is_ast j2.1 (Tr.is_ast j3.1 (Tr.is_ast m1.1 (Tr.is_ast m2.1 (Tr.is_ast d2.2 (Tr.is_br_t works19.1 (Tr.is_leaf ?_))))))))
  have key := do_mono (op := op) gA gB gN gJ gK gL A0 B0 (insI_join_l (nI a) (nI c)) (insI_join_l (nI b) (nI c)) (insI_join_l (nI n) (nI c)) p.1 l1 r1.2 q.1 l2 r2.2
  rw [f1, f2, less_of key.1 key.2.1 key.2.2]; rfl
theorem val_safe {v : Int} (h : Wd v) : p_Value_s v = true := by
  obtain ⟨s, k, hk, rfl⟩ := fl_of h
  by_cases c : k < 9218868437227405312
  · exact (value_spec c).1
  · exact (value_none hk (by omega)).1
theorem inside19 {s : SP} {f : Int} (h : WS s) (hf : Wd f) : ∃ v b, Tr.Is (l19_inside_t s f) (v, b) ∧ Wd v ∧ b = sp_Has s v := by
  unfold l19_inside_t l19_inside_T
  cases h1 : sp_Has s f with
  | true => exact ⟨f, true, Tr.is_br_t rfl (Tr.is_leaf rfl), hf, h1.symm⟩
  | false => cases h2 : sp_Has s s.lo with
    | true => exact ⟨s.lo, true, Tr.is_br_f rfl (Tr.is_br_t rfl (Tr.is_leaf rfl)), h.1, h2.symm⟩
    | false => exact ⟨s.hi, _, Tr.is_br_f rfl (Tr.is_br_f rfl (Tr.is_leaf rfl)), h.2, rfl⟩
theorem SlipDivides_both {a b : SP} {g ea eb : Int} (ha : WS a) (hb : WS b) (hg : Wd g) (he : Wd ea) (hf : Wd eb) : l_SlipDivides a b g ea eb = true ∧ l_SlipDivides_s a b g ea eb = true := by
  suffices h : Tr.Is (l_SlipDivides_t a b g ea eb) true from ⟨h.1, h.2⟩
  have gA := GI.nI ha; have gB := GI.nI hb
  obtain ⟨v, x, l1, wv, hx⟩ := inside19 hb hg
  have q1 : l19_inside b g = (v, x) := l1.1
  rw [Has_ws hb wv] at hx
  have p := gk_kz he; have q := gk_kz hf
  unfold l_SlipDivides_t l_SlipDivides_T
  rw [q1, (Good_kz hf).1]
  refine pre19 (Tr.is_ast (val_safe wv) (Tr.is_ast (val_safe (kf_wd (by omega) q.2)) ?_))
  cases x with
  | false => exact Tr.is_br_t rfl (Tr.is_leaf works19.1)
  | true =>
  refine Tr.is_br_f rfl ?_
  have hv : ∃ z, kz v = some z := by
    cases h : kz v with
    | none => rw [h, hasI_none] at hx; cases hx
    | some z => exact ⟨z, rfl⟩
  obtain ⟨z, hv⟩ := hv
  rw [hv] at hx
  have hx := hx.symm
  obtain ⟨bl, bh, eB, z1, z2, z3, z4⟩ := has_pair gB hx
  obtain ⟨_, X, ex, rx⟩ := val_kz wv hv z3 z4
  show Tr.Is (.br (!(p_Value v).snd) _ _) _
  refine Tr.is_br_f (by rw [ex]; rfl) ?_
  have eM : sp_Make a.lo a.hi = enc (mkO (kz a.lo) (kz a.hi)) := Make_kz ha.1 ha.2
  by_cases c1 : mkO (kz a.lo) (kz a.hi) = none
  · exact Tr.is_br_t (by rw [eM, c1]; rfl) (Tr.is_leaf works19.1)
  refine Tr.is_br_f (by
    rw [eM]
    cases h : mkO (kz a.lo) (kz a.hi) with
    | none => exact absurd h c1
    | some _ => rfl) ?_
  cases c2 : a.empty with
  | true => exact Tr.is_br_t rfl (Tr.is_leaf works19.1)
  | false =>
  refine Tr.is_br_f rfl ?_
  have A0 : nI a ≠ none := by unfold nI; rw [c2]; exact c1
  have B0 : nI b ≠ none := by rw [eB]; exact fun e => by cases e
  have eP : sp_Point 0 = enc (some (0, 0)) := by
    rw [Point_kz zero_wd, show kz 0 = some 0 from kz_kf (z := 0) (by omega) (by omega)]; rfl
  have gP : GI (some (0, 0)) := fun _ _ e => by cases e; omega
  have wP : WS (sp_Point 0) := by rw [eP]; exact enc_ws gP
  have nP : nI (sp_Point 0) = some (0, 0) := by rw [eP]; exact nI_enc gP
  have d := Do_is (op := 8) ha hb wP he hf A0 B0 (by rw [nP]; exact fun e => by cases e)
  rw [nP, eB] at d
  have gB' := gB; rw [eB] at gB'
  have ed : sl_Do 8 a b (sp_Point 0) ea eb = _ := d.1
  refine Tr.is_ast d.2 (Tr.is_br_t works19.1 ?_)
  rw [ed]
  have eD : doK 8 (nI a) (some (bl, bh)) (some (0, 0)) (gk (kz ea)) (gk (kz eb)) = quotK (nI a) (some (bl, bh)) (gk (kz ea)) (gk (kz eb)) (rhoK 8 (nI a) (some (bl, bh)) (some (0, 0))) := by
    unfold doK opsK; rw [if_neg (by omega), if_neg (by omega), if_pos rfl]
  have rr := rho_rng (op := 8) (A := nI a) (B := some (bl, bh)) gP
  have R := (quot_is (N := ⟨true, 0, 0⟩) gA gB' p.1 p.2 q.1 q.2 rr.1 rr.2).2
  rw [eD]
  have eI : (kf (quotK (nI a) (some (bl, bh)) (gk (kz ea)) (gk (kz eb)) (rhoK 8 (nI a) (some (bl, bh)) (some (0, 0)))) == p_Inf false) = decide (quotK (nI a) (some (bl, bh)) (gk (kz ea)) (gk (kz eb)) (rhoK 8 (nI a) (some (bl, bh)) (some (0, 0))) = 9218868437227405312) := by
    rw [show p_Inf false = kf 9218868437227405312 from inf_spec false]; exact kf_eq (by omega) R.2 (by omega) (by omega)
  by_cases ci : quotK (nI a) (some (bl, bh)) (gk (kz ea)) (gk (kz eb)) (rhoK 8 (nI a) (some (bl, bh)) (some (0, 0))) = 9218868437227405312
  · exact Tr.is_br_t (eI.trans (dt ci)) (Tr.is_leaf rfl)
  refine Tr.is_br_f (eI.trans (df ci)) ?_
  have n0 : ¬ hasI (some (bl, bh)) (some 0) = true := fun c => ci (if_pos c)
  obtain ⟨n1, n2, _, n4⟩ := nK_facts gB' n0
  have s := (subF_spec n1 n2 q.1 q.2).2.2.2
  have sp : 0 < subF (nK (some (bl, bh))) (gk (kz eb)) := by
    by_cases c : 0 < subF (nK (some (bl, bh))) (gk (kz eb))
    · exact c
    · exact absurd (by unfold quotK; rw [if_neg n0, if_neg c]) ci
  have qf : gk (kz eb) < 9218868437227405312 := by
    by_cases c : gk (kz eb) < 9218868437227405312
    · exact c
    · have := s.infw (by omega) n2 (.inr (by omega)); omega
  have lt : zv (gk (kz eb)) < zv (nK (some (bl, bh))) := by
    have ek := s.fin (by omega) n2 (by omega) (by omega)
    rw [zv_neg] at ek
    refine Rat.not_le.1 fun c => ?_
    have := exk_nonpos ek (by grind)
    omega
  have ge : zv (nK (some (bl, bh))) ≤ absQ (zv z) := by
    unfold absQ
    by_cases c : 0 ≤ z
    · rw [if_neg (Rat.not_lt.2 (zv_nonneg c z4))]
      exact zv_le (by omega) n2 z3 z4 (by omega)
    · have hz : zv z < 0 := by
        have := (zv_lt (z := z) (w := 0) z3 z4 (by omega) (by omega)).2 (by omega)
        rwa [zv_zero] at this
      rw [if_pos hz, ← zv_neg]
      exact zv_le (by omega) n2 (by omega) (by omega) (by omega)
  obtain ⟨_, Y, ey, ry⟩ := val_kz (v := kf (gk (kz eb))) (z := gk (kz eb)) (kf_wd (by omega) q.2) (kz_kf (by omega) q.2) (by omega) qf
  obtain ⟨t1, t2⟩ := abs_spec rx.RW (by omega) (by omega)
  rw [rx.val] at t2
  have cm := qcmp_spec t2.RW ry.RW (by omega) (by omega)
  rw [t2.val, ry.val] at cm
  show Tr.Is (.br (p_Value (kf (gk (kz eb)))).snd (.ast (q_Abs_s (p_Value v).fst) (.ast (q_Cmp_s (q_Abs (p_Value v).fst) (p_Value (kf (gk (kz eb)))).fst) (.leaf (decide (q_Cmp (q_Abs (p_Value v).fst) (p_Value (kf (gk (kz eb)))).fst > 0))))) (.leaf false)) true
  rw [ey, ex]
  refine Tr.is_br_t rfl (Tr.is_ast t1 (Tr.is_ast cm.1 (Tr.is_leaf ?_)))
  rw [cm.2, cmpQ_gtd]
  exact dt (by grind)
end Go.Fb
