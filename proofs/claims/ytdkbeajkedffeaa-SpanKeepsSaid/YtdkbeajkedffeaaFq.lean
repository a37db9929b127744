/- Spans: the laws hold, in plain Lean. Conditions: as each theorem states. -/
import Derived.Test.YtdkbeajkedffeaaFl
import Derived.Test.YtdkbeajkedffeaaFp
namespace Go.Fb
theorem works16 : l16_works = true ∧ l16_works_s = true := by decide +kernel
end Go.Fb
namespace Go.Fb
open Go.Ev
theorem pre16 {t : Tr Bool} (h : Tr.Is t true) : Tr.Is (.ast l16_works_s (.br (!l16_works) (.leaf false) t)) true :=
  Tr.is_ast works16.2 (Tr.is_br_f (by rw [works16.1]; rfl) h)
theorem sp_same {x y : SP} (h : x = y) : (x.empty == y.empty && (x.lo == y.lo && (x.hi == y.hi && true))) = true := by
  subst h; simp
theorem All_spec : sp_All = r16_Make 18442240474082181120 9218868437227405312 := by
  have w1 : Wd 18442240474082181120 := ⟨by omega, by omega⟩
  have w2 : Wd 9218868437227405312 := ⟨by omega, by omega⟩
  show sp_Make sp_ninf sp_inf = _
  rw [sp_ninf_val, sp_inf_val, Make_kz w1 w2, rMake_kz w1 w2]
theorem SpanMakes_both {a b : SP} {f : Int} (ha : WS a) (hb : WS b) (hf : Wd f) : l_SpanMakes a b f = true ∧ l_SpanMakes_s a b f = true := by
  suffices h : Tr.Is (l_SpanMakes_t a b f) true from ⟨h.1, h.2⟩
  have j0 := Join_spec (l := []) (by show 0 ≤ 1000000; omega) (fun s hs => by cases hs)
  have j1 := Join_spec (l := [a]) (by show 1 ≤ 1000000; omega) (fun s hs => by
    rcases List.mem_cons.1 hs with e | hs
    · subst e; exact ha
    · cases hs)
  have j2 := Join2 ha hb
  have m := Meet_ws ha hb
  have mo := Most_ws ha
  unfold l_SpanMakes_t l_SpanMakes_T
  extract_lets t0 t1 t2 t3 t4 t5 t6 t7 t8 t9 t10 t11 t12 t13 t14
  have c2 : t2 = true := by show (sp_Has a f == r16_Has a f) = true; rw [Has_ws ha hf, rHas_ws ha hf]; exact beq_self_eq_true _
  have c3 : t3 = true := by show (sp_Inside a b == r16_Inside a b) = true; rw [Inside_ws ha hb, rInside_ws ha hb]; exact beq_self_eq_true _
  have c8 : t8 = true := sp_same (m.2.trans (rMeet_ws ha hb).symm)
  have c12 : t12 = true := sp_same All_spec
  have c13 : t13 = true := sp_same (j1.2.trans (r16_Norm_spec ha).symm)
  have c14 : t14 = true := sp_same (j2.2.trans (rJoin_ws ha hb).symm)
  have c1 : (t1.empty == true && (t1.lo == 0 && (t1.hi == 0 && true))) = true := by
    have e : t1 = enc none := j0.2
    rw [e]; rfl
  refine pre16 (Tr.is_br_t (sp_same ((Make_kz ha.1 hb.2).trans (rMake_kz ha.1 hb.2).symm)) (Tr.is_br_t (sp_same ((Make_kz hf hf).trans (rMake_kz hf hf).symm)) (Tr.is_br_t c2 (Tr.is_ast j2.1 (Tr.is_br_t c14 (Tr.is_ast m.1 (Tr.is_br_t c8 (Tr.is_ast j1.1 (Tr.is_br_t c13 (Tr.is_ast j0.1 (Tr.is_br_t works16.1 (Tr.is_br_t c12 (Tr.is_br_t c3 (Tr.is_br_t c1 (Tr.is_ast mo.1 (Tr.is_leaf ?_))))))))))))))))
  rw [mo.2, rMost_ws ha]; exact beq_self_eq_true _
theorem SpanWidens_both {old now : SP} {steps : List Int} (ho : WS old) (hn : WS now) (hs : WdL steps) : l_SpanWidens old now steps = true ∧ l_SpanWidens_s old now steps = true := by
  suffices h : Tr.Is (l_SpanWidens_t old now steps) true from ⟨h.1, h.2⟩
  unfold l_SpanWidens_t l_SpanWidens_T
  refine pre16 ?_
  by_cases hl : (steps.length : Int) > 200
  · exact Tr.is_br_t (dt hl) (Tr.is_leaf works16.1)
  · refine Tr.is_br_f (df hl) ?_
    obtain ⟨R, g, i1, i2, h1, h2⟩ := Widen_both ho hn hs (by omega)
    have e1 : sp_Widen old now steps = enc R := h1.1
    have e2 : r16_Widen old now steps = enc R := h2.1
    refine Tr.is_ast h1.2 (Tr.is_br_t works16.1 (Tr.is_ast h2.2 ?_))
    rw [e1, e2]
    exact Tr.is_br_t (sp_same rfl) (Tr.is_br_t (by rw [Inside_ws ho (enc_ws g), nI_enc g]; exact i1) (Tr.is_leaf (by rw [Inside_ws hn (enc_ws g), nI_enc g]; exact i2)))
end Go.Fb
namespace Go.Fb
open Go.Ev
def stepK (z : Int) (up strict : Bool) : Int := if strict = true ∧ z ≠ 9218868437227405312 ∧ z ≠ -9218868437227405312 then (if up then z + 1 else z - 1) else z
def sideI (A : IV) (z : Int) (up strict : Bool) : IV := if up then meetI A (mk (stepK z up strict) 9218868437227405312) else meetI A (mk (-9218868437227405312) (stepK z up strict))
theorem stepK_rng {z : Int} (h : -9218868437227405312 ≤ z) (g : z ≤ 9218868437227405312) (up strict : Bool) : -9218868437227405312 ≤ stepK z up strict ∧ stepK z up strict ≤ 9218868437227405312 := by
  unfold stepK; split
  · split <;> omega
  · omega
theorem GI.side {A : IV} (hA : GI A) {z : Int} (h : -9218868437227405312 ≤ z) (g : z ≤ 9218868437227405312) (up strict : Bool) : GI (sideI A z up strict) := by
  have := stepK_rng h g up strict
  unfold sideI; split
  · exact GI.meet hA (GI.mk (by omega) (by omega) (by omega) (by omega))
  · exact GI.meet hA (GI.mk (by omega) (by omega) (by omega) (by omega))
theorem next_kf {z : Int} (h : -9218868437227405312 ≤ z) (g : z < 9218868437227405312) : Wd (p_Next (kf z)) ∧ kz (p_Next (kf z)) = some (z + 1) ∧ r4_Next (kf z) = p_Next (kf z) := by
  unfold kf
  rw [next_spec (by omega), rnext_spec (by omega)]
  obtain ⟨t, j, e, hj, hk⟩ := ky_next (s := decide (z < 0)) (k := z.natAbs) (by omega) (by
    rintro ⟨h1, h2⟩; have := of_decide_eq_false h1; omega)
  rw [e]; exact ⟨fl_wd (by omega), by rw [kz_fl hj, hk, ky_kf], rfl⟩
theorem prev_kf {z : Int} (h : -9218868437227405312 < z) (g : z ≤ 9218868437227405312) : Wd (p_Prev (kf z)) ∧ kz (p_Prev (kf z)) = some (z - 1) ∧ r4_Prev (kf z) = p_Prev (kf z) := by
  unfold kf
  rw [prev_spec (by omega), rprev_spec (by omega)]
  obtain ⟨t, j, e, hj, hk⟩ := ky_prev (s := decide (z < 0)) (k := z.natAbs) (by omega) (by
    rintro ⟨h1, h2⟩; have := of_decide_eq_true h1; omega)
  rw [e]; exact ⟨fl_wd (by omega), by rw [kz_fl hj, hk, ky_kf], rfl⟩
theorem class_kf {z : Int} (h : -9218868437227405312 ≤ z) (g : z ≤ 9218868437227405312) : (p_Class (kf z) != 3) = decide (z ≠ 9218868437227405312 ∧ z ≠ -9218868437227405312) ∧ r4_Finite (kf z) = decide (z ≠ 9218868437227405312 ∧ z ≠ -9218868437227405312) := by
  unfold kf
  rw [class_ky (by omega), finite_spec (by omega)]
  constructor <;> rw [decide_eq_decide] <;> omega
theorem kp_inf : kz 9218868437227405312 = some 9218868437227405312 := by rw [pinf_kf]; exact kz_kf (by omega) (by omega)
theorem kn_inf : kz 18442240474082181120 = some (-9218868437227405312) := by rw [ninf_kf]; exact kz_kf (by omega) (by omega)
theorem wp_inf : Wd 9218868437227405312 := ⟨by omega, by omega⟩
theorem wn_inf : Wd 18442240474082181120 := ⟨by omega, by omega⟩
theorem upTo {a : SP} {A : IV} (hA : GI A) (ha : sp_norm a = enc A) {x K : Int} (hx : Wd x) (hk : kz x = some K) : Tr.Is (.ast (sp_Meet_s a (sp_Make x sp_inf)) (.leaf (sp_Meet a (sp_Make x sp_inf)))) (enc (meetI A (mk K 9218868437227405312))) := by
  have r := kz_rng hx hk
  have e : sp_Make x sp_inf = enc (mk K 9218868437227405312) := by rw [sp_inf_val, Make_kz hx wp_inf, hk, kp_inf]; rfl
  have g : GI (mk K 9218868437227405312) := GI.mk (by omega) (by omega) (by omega) (by omega)
  have m := Meet_is (a := a) (b := sp_Make x sp_inf) hA g ha (by rw [e]; exact norm_enc g)
  exact Tr.is_ast m.1 (Tr.is_leaf m.2)
theorem downTo {a : SP} {A : IV} (hA : GI A) (ha : sp_norm a = enc A) {x K : Int} (hx : Wd x) (hk : kz x = some K) : Tr.Is (.ast (sp_Meet_s a (sp_Make sp_ninf x)) (.leaf (sp_Meet a (sp_Make sp_ninf x)))) (enc (meetI A (mk (-9218868437227405312) K))) := by
  have r := kz_rng hx hk
  have e : sp_Make sp_ninf x = enc (mk (-9218868437227405312) K) := by rw [sp_ninf_val, Make_kz wn_inf hx, hk, kn_inf]; rfl
  have g : GI (mk (-9218868437227405312) K) := GI.mk (by omega) (by omega) (by omega) (by omega)
  have m := Meet_is (a := a) (b := sp_Make sp_ninf x) hA g ha (by rw [e]; exact norm_enc g)
  exact Tr.is_ast m.1 (Tr.is_leaf m.2)
theorem side_is {a : SP} {A : IV} (hA : GI A) (ha : sp_norm a = enc A) {z : Int} (h : -9218868437227405312 ≤ z) (g : z ≤ 9218868437227405312) (up strict : Bool) : sp_side_s a (kf z) up strict = true ∧ sp_side a (kf z) up strict = enc (sideI A z up strict) := by
  suffices h : Tr.Is (sp_side_t a (kf z) up strict) (enc (sideI A z up strict)) from ⟨h.2, h.1⟩
  have hc := (class_kf h g).1
  have wz : Wd (kf z) := kf_wd h g
  have kzz := kz_kf h g
  by_cases hf : z ≠ 9218868437227405312 ∧ z ≠ -9218868437227405312
  · rw [dt hf] at hc
    have n := next_kf (z := z) h (by omega)
    have p := prev_kf (z := z) (by omega) g
    cases up <;> cases strict
    · exact Tr.is_br_f rfl (Tr.is_br_f rfl (Tr.is_br_f rfl (downTo hA ha wz kzz)))
    · refine Tr.is_br_f rfl (Tr.is_br_t rfl (Tr.is_br_t hc (Tr.is_br_f rfl ?_)))
      have := downTo hA ha p.1 p.2.1
      unfold sideI stepK; rw [if_neg (by simp), if_pos ⟨rfl, hf⟩, if_neg (by simp)]; exact this
    · exact Tr.is_br_t rfl (Tr.is_br_f rfl (Tr.is_br_f rfl (Tr.is_br_t rfl (upTo hA ha wz kzz))))
    · refine Tr.is_br_t rfl (Tr.is_br_t rfl (Tr.is_br_t hc (Tr.is_br_t rfl ?_)))
      have := upTo hA ha n.1 n.2.1
      unfold sideI stepK; rw [if_pos rfl, if_pos ⟨rfl, hf⟩, if_pos rfl]; exact this
  · rw [df hf] at hc
    have hs : ∀ up, stepK z up strict = z := fun up => by unfold stepK; rw [if_neg (by omega)]
    unfold sideI; rw [hs]
    cases up <;> cases strict
    · exact Tr.is_br_f rfl (Tr.is_br_f rfl (Tr.is_br_f rfl (downTo hA ha wz kzz)))
    · exact Tr.is_br_f rfl (Tr.is_br_t rfl (Tr.is_br_f hc (Tr.is_br_f rfl (downTo hA ha wz kzz))))
    · exact Tr.is_br_t rfl (Tr.is_br_f rfl (Tr.is_br_f rfl (Tr.is_br_t rfl (upTo hA ha wz kzz))))
    · exact Tr.is_br_t rfl (Tr.is_br_t rfl (Tr.is_br_f hc (Tr.is_br_t rfl (Tr.is_br_f hc (Tr.is_br_t rfl (upTo hA ha wz kzz))))))
theorem rside {a : SP} {A : IV} (hA : GI A) (ha : r16_Norm a = enc A) {z : Int} (h : -9218868437227405312 ≤ z) (g : z ≤ 9218868437227405312) (strict : Bool) : r16_below a (kf z) strict = enc (sideI A z false strict) ∧ r16_from a (kf z) strict = enc (sideI A z true strict) := by
  have hc := (class_kf h g).2
  have wz : Wd (kf z) := kf_wd h g
  have kzz := kz_kf h g
  have up : ∀ (x K : Int), Wd x → kz x = some K → r16_Meet a (SP.mk false x 9218868437227405312) = enc (meetI A (mk K 9218868437227405312)) := fun x K hx hk => by
    have r := kz_rng hx hk
    have gm : GI (mk K 9218868437227405312) := GI.mk (by omega) (by omega) (by omega) (by omega)
    refine rMeet_is hA gm ha ?_
    have e : r16_Norm (SP.mk false x 9218868437227405312) = _ := rMake_kz hx wp_inf
    rw [e, hk, kp_inf]; rfl
  have dn : ∀ (x K : Int), Wd x → kz x = some K → r16_Meet a (SP.mk false 18442240474082181120 x) = enc (meetI A (mk (-9218868437227405312) K)) := fun x K hx hk => by
    have r := kz_rng hx hk
    have gm : GI (mk (-9218868437227405312) K) := GI.mk (by omega) (by omega) (by omega) (by omega)
    refine rMeet_is hA gm ha ?_
    have e : r16_Norm (SP.mk false 18442240474082181120 x) = _ := rMake_kz wn_inf hx
    rw [e, hk, kn_inf]; rfl
  suffices hh : Tr.Is (r16_below_t a (kf z) strict) (enc (sideI A z false strict)) ∧ Tr.Is (r16_from_t a (kf z) strict) (enc (sideI A z true strict)) from ⟨hh.1.1, hh.2.1⟩
  cases strict with
  | false => exact ⟨Tr.is_br_f rfl (Tr.is_leaf (dn _ _ wz kzz)), Tr.is_br_f rfl (Tr.is_leaf (up _ _ wz kzz))⟩
  | true =>
    by_cases hf : z ≠ 9218868437227405312 ∧ z ≠ -9218868437227405312
    · rw [dt hf] at hc
      have n := next_kf (z := z) h (by omega)
      have p := prev_kf (z := z) (by omega) g
      refine ⟨Tr.is_br_t rfl (Tr.is_br_t hc (Tr.is_leaf ?_)), Tr.is_br_t rfl (Tr.is_br_t hc (Tr.is_leaf ?_))⟩
      · rw [p.2.2, dn _ _ p.1 p.2.1]; unfold sideI stepK; rw [if_neg (by simp), if_pos ⟨rfl, hf⟩, if_neg (by simp)]
      · rw [n.2.2, up _ _ n.1 n.2.1]; unfold sideI stepK; rw [if_pos rfl, if_pos ⟨rfl, hf⟩, if_pos rfl]
    · rw [df hf] at hc
      have hs : ∀ up, stepK z up true = z := fun up => by unfold stepK; rw [if_neg (by simp only [true_and]; exact hf)]
      refine ⟨Tr.is_br_t rfl (Tr.is_br_f hc (Tr.is_leaf ?_)), Tr.is_br_t rfl (Tr.is_br_f hc (Tr.is_leaf ?_))⟩
      · rw [dn _ _ wz kzz]; unfold sideI; rw [hs]; rfl
      · rw [up _ _ wz kzz]; unfold sideI; rw [hs]; rfl
/-- without a point: at its ends -/
def withoutI (al ah f : Int) : IV := if al = f then (if ah = f then none else sideI (some (al, ah)) f true true) else if ah = f then sideI (some (al, ah)) f false true else some (al, ah)
theorem GI.without {al ah f : Int} (hA : GI (some (al, ah))) (h : -9218868437227405312 ≤ f) (g : f ≤ 9218868437227405312) : GI (withoutI al ah f) := by
  unfold withoutI; split
  · split
    · exact GI.nil
    · exact GI.side hA h g _ _
  · split
    · exact GI.side hA h g _ _
    · exact hA
theorem side_gone {al ah f : Int} (hA : GI (some (al, ah))) (e1 : al = f) (hf : f ≠ 9218868437227405312 ∧ f ≠ -9218868437227405312) : sideI (some (al, ah)) f true true = mk (f + 1) ah := by
  have p := hA _ _ rfl
  unfold sideI stepK
  rw [if_pos rfl, if_pos ⟨rfl, hf⟩, if_pos rfl]
  by_cases c : f + 1 = 9218868437227405312
  · have e : mk (f + 1) 9218868437227405312 = none := by unfold mk; rw [if_neg (by omega)]
    have e2 : mk (f + 1) ah = none := by unfold mk; rw [if_neg (by omega)]
    rw [e, e2]; rfl
  · rw [mk_of (l := f + 1) (h := 9218868437227405312) ⟨by omega, by omega, by omega, by omega, by omega⟩]
    show mk (if al ≤ f + 1 then f + 1 else al) (if 9218868437227405312 ≤ ah then 9218868437227405312 else ah) = _
    rw [if_pos (by omega)]
    congr 1
    split <;> omega
theorem mk_cases (l h : Int) : (mk l h = none) ∨ (mk l h = some (l, h) ∧ l ≤ h) := by
  unfold mk; split
  · rename_i c; exact .inr ⟨rfl, c.1⟩
  · exact .inl rfl
theorem without_is {al ah bl bh : Int} (hA : GI (some (al, ah))) (hB : GI (some (bl, bh))) : sp_without_s (enc (some (al, ah))) (enc (some (bl, bh))) = true ∧ sp_without (enc (some (al, ah))) (enc (some (bl, bh))) = enc (if bl = bh then withoutI al ah bl else some (al, ah)) := by
  suffices h : Tr.Is (sp_without_t (enc (some (al, ah))) (enc (some (bl, bh)))) (enc (if bl = bh then withoutI al ah bl else some (al, ah))) from ⟨h.2, h.1⟩
  have p := hA _ _ rfl; have q := hB _ _ rfl
  have e1 : (kf bl == kf bh) = decide (bl = bh) := kf_eq (by omega) (by omega) (by omega) (by omega)
  have e2 : (kf al == kf bl) = decide (al = bl) := kf_eq (by omega) (by omega) (by omega) (by omega)
  have e3 : (kf ah == kf bl) = decide (ah = bl) := kf_eq (by omega) (by omega) (by omega) (by omega)
  have e1' : (kf bl != kf bh) = !decide (bl = bh) := by rw [← e1]; rfl
  by_cases c : bl = bh
  · refine Tr.is_br_f (e1'.trans (by rw [dt c]; rfl)) ?_
    rw [if_pos c]
    have hf : bl ≠ 9218868437227405312 ∧ bl ≠ -9218868437227405312 := ⟨by omega, by omega⟩
    have sU := side_is hA (norm_enc hA) (z := bl) (by omega) (by omega) true true
    have sD := side_is hA (norm_enc hA) (z := bl) (by omega) (by omega) false true
    show Tr.Is (.br (kf al == kf bl) (.ast (sp_side_s (enc (some (al, ah))) (kf bl) true true)
      (.br ((sp_side (enc (some (al, ah))) (kf bl) true true).hi == kf bl)
        (.br (!(sp_side (enc (some (al, ah))) (kf bl) true true).empty) (.ast (sp_side_s (sp_side (enc (some (al, ah))) (kf bl) true true) (kf bl) false true) (.leaf (sp_side (sp_side (enc (some (al, ah))) (kf bl) true true) (kf bl) false true)))
          (.leaf (sp_side (enc (some (al, ah))) (kf bl) true true)))
        (.leaf (sp_side (enc (some (al, ah))) (kf bl) true true))))
      (.br (kf ah == kf bl) (.br true (.ast (sp_side_s (enc (some (al, ah))) (kf bl) false true) (.leaf (sp_side (enc (some (al, ah))) (kf bl) false true))) (.leaf (enc (some (al, ah))))) (.leaf (enc (some (al, ah)))))) _
    by_cases d : al = bl
    · have sg := side_gone hA d hf
      refine Tr.is_br_t (e2.trans (dt d)) (Tr.is_ast sU.1 ?_)
      rw [sU.2]
      unfold withoutI; rw [if_pos d]
      have e : (if ah = bl then none else sideI (some (al, ah)) bl true true) = mk (bl + 1) ah := by
        rw [sg]; split
        · unfold mk; rw [if_neg (by omega)]
        · rfl
      rw [e, sg]
      rcases mk_cases (bl + 1) ah with m | ⟨m, ml⟩
      · rw [m]
        cases ((enc none).hi == kf bl)
        · exact Tr.is_br_f rfl (Tr.is_leaf rfl)
        · exact Tr.is_br_t rfl (Tr.is_br_f rfl (Tr.is_leaf rfl))
      · rw [m]
        exact Tr.is_br_f (e3.trans (df (by omega))) (Tr.is_leaf rfl)
    · refine Tr.is_br_f (e2.trans (df d)) ?_
      unfold withoutI; rw [if_neg d]
      by_cases g : ah = bl
      · rw [if_pos g]; exact Tr.is_br_t (e3.trans (dt g)) (Tr.is_br_t rfl (Tr.is_ast sD.1 (Tr.is_leaf sD.2)))
      · rw [if_neg g]; exact Tr.is_br_f (e3.trans (df g)) (Tr.is_leaf rfl)
  · rw [if_neg c]; exact Tr.is_br_t (e1'.trans (by rw [df c]; rfl)) (Tr.is_leaf rfl)
theorem rwithout_is {al ah bl : Int} (hA : GI (some (al, ah))) (h : -9218868437227405312 ≤ bl) (g : bl ≤ 9218868437227405312) : r16_without (enc (some (al, ah))) (kf bl) = enc (withoutI al ah bl) := by
  suffices h : Tr.Is (r16_without_t (enc (some (al, ah))) (kf bl)) (enc (withoutI al ah bl)) from h.1
  have p := hA _ _ rfl
  have e2 : (kf al == kf bl) = decide (al = bl) := kf_eq (by omega) (by omega) (by omega) (by omega)
  have e3 : (kf ah == kf bl) = decide (ah = bl) := kf_eq (by omega) (by omega) (by omega) (by omega)
  have s := rside hA (Norm_enc hA) h g true
  unfold withoutI
  by_cases d : al = bl
  · rw [if_pos d]
    by_cases f : ah = bl
    · rw [if_pos f]; exact Tr.is_br_t (e2.trans (dt d)) (Tr.is_br_t (e3.trans (dt f)) (Tr.is_leaf rfl))
    · rw [if_neg f]; exact Tr.is_br_t (e2.trans (dt d)) (Tr.is_br_f (e3.trans (df f)) (Tr.is_br_t (e2.trans (dt d)) (Tr.is_leaf s.2)))
  · rw [if_neg d]
    by_cases f : ah = bl
    · rw [if_pos f]; exact Tr.is_br_f (e2.trans (df d)) (Tr.is_br_f (e2.trans (df d)) (Tr.is_br_t (e3.trans (dt f)) (Tr.is_leaf s.1)))
    · rw [if_neg f]; exact Tr.is_br_f (e2.trans (df d)) (Tr.is_br_f (e2.trans (df d)) (Tr.is_br_f (e3.trans (df f)) (Tr.is_leaf rfl)))
/-- either is empty: both are -/
def bothI : IV → IV → IV × IV
  | some a, some b => (some a, some b)
  | _, _ => (none, none)
def encP (p : IV × IV) : SP × SP := (enc p.1, enc p.2)
theorem both_is {x y : SP} {X Y : IV} (hx : x = enc X) (hy : y = enc Y) {e1 e2 : SP} (h1 : e1 = enc none) (h2 : e2 = enc none) : Tr.Is (.br x.empty (.leaf (e1, e2)) (.br y.empty (.leaf (e1, e2)) (.leaf (x, y)))) (encP (bothI X Y)) := by
  subst hx hy h1 h2
  match X, Y with
  | none, _ => exact Tr.is_br_t rfl (Tr.is_leaf rfl)
  | some _, none => exact Tr.is_br_f rfl (Tr.is_br_t rfl (Tr.is_leaf rfl))
  | some _, some _ => exact Tr.is_br_f rfl (Tr.is_br_f rfl (Tr.is_leaf rfl))
def testI (op : Int) : IV → IV → IV × IV
  | some (al, ah), some (bl, bh) =>
    if op = 9 ∨ op = 10 then bothI (sideI (some (al, ah)) bh false (op == 9)) (sideI (some (bl, bh)) al true (op == 9))
    else if op = 13 ∨ op = 14 then bothI (sideI (some (al, ah)) bl true (op == 13)) (sideI (some (bl, bh)) ah false (op == 13))
    else if op = 11 then bothI (meetI (some (al, ah)) (some (bl, bh))) (meetI (some (al, ah)) (some (bl, bh)))
    else if op = 12 then bothI (if bl = bh then withoutI al ah bl else some (al, ah)) (if al = ah then withoutI bl bh al else some (bl, bh))
    else (some (al, ah), some (bl, bh))
  | _, _ => (none, none)
theorem testI_some (op al ah bl bh : Int) : testI op (some (al, ah)) (some (bl, bh)) = if op = 9 ∨ op = 10 then bothI (sideI (some (al, ah)) bh false (op == 9)) (sideI (some (bl, bh)) al true (op == 9))
    else if op = 13 ∨ op = 14 then bothI (sideI (some (al, ah)) bl true (op == 13)) (sideI (some (bl, bh)) ah false (op == 13))
    else if op = 11 then bothI (meetI (some (al, ah)) (some (bl, bh))) (meetI (some (al, ah)) (some (bl, bh)))
    else if op = 12 then bothI (if bl = bh then withoutI al ah bl else some (al, ah)) (if al = ah then withoutI bl bh al else some (bl, bh))
    else (some (al, ah), some (bl, bh)) := rfl
theorem Test_ws {op : Int} {a b : SP} (ha : WS a) (hb : WS b) : Tr.Is (sp_Test_t op a b) (encP (testI op (nI a) (nI b))) := by
  have gA := GI.nI ha; have gB := GI.nI hb
  unfold sp_Test_t sp_Test_T
  rw [sp_norm_spec ha, sp_norm_spec hb]
  match nI a, nI b, gA, gB with
  | none, _, _, _ => exact Tr.is_br_t rfl (Tr.is_leaf rfl)
  | some (al, ah), none, _, _ => exact Tr.is_br_f rfl (Tr.is_br_t rfl (Tr.is_leaf rfl))
  | some (al, ah), some (bl, bh), gA, gB =>
    have p := gA _ _ rfl; have q := gB _ _ rfl
    have nA := norm_enc gA; have nB := norm_enc gB
    have sA1 := fun s => side_is gA nA (z := bh) (by omega) (by omega) false s
    have sA2 := fun s => side_is gA nA (z := bl) (by omega) (by omega) true s
    have sB1 := fun s => side_is gB nB (z := al) (by omega) (by omega) true s
    have sB2 := fun s => side_is gB nB (z := ah) (by omega) (by omega) false s
    have m := Meet_is gA gB nA nB
    have w1 := without_is gA gB; have w2 := without_is gB gA
    extract_lets t0 t1 t2 t3 t4 t5 t6 t7 t8 t9 t10 t11
    refine Tr.is_br_f rfl (Tr.is_br_f rfl ?_)
    rw [testI_some]
    by_cases o9 : op = 9
    · have c : t7 = true := bt o9
      rw [if_pos (.inl o9), show (op == 9) = true from bt o9]
      exact Tr.is_br_t c (Tr.is_br_t c (Tr.is_ast (sA1 true).1 (Tr.is_ast (sB1 true).1 (both_is (sA1 true).2 (sB1 true).2 rfl rfl))))
    have c7 : t7 = false := bf o9
    refine Tr.is_br_f c7 (Tr.is_br_f c7 ?_)
    by_cases o10 : op = 10
    · have h5 : t5 = false := bf (by omega)
      rw [if_pos (.inr o10), show (op == 9) = false from bf o9]
      refine Tr.is_br_t (bt o10) (Tr.is_ast ?_ (Tr.is_ast ?_ (both_is ?_ ?_ rfl rfl)))
      · rw [h5]; exact (sA1 false).1
      · rw [h5]; exact (sB1 false).1
      · show sp_side _ _ _ t5 = _; rw [h5]; exact (sA1 false).2
      · show sp_side _ _ _ t5 = _; rw [h5]; exact (sB1 false).2
    refine Tr.is_br_f (bf o10) ?_
    rw [if_neg (by omega)]
    by_cases o13 : op = 13
    · have h5 : t5 = true := bt o13
      rw [if_pos (.inl o13), show (op == 13) = true from bt o13]
      refine Tr.is_br_t h5 (Tr.is_ast ?_ (Tr.is_ast ?_ (both_is ?_ ?_ rfl rfl)))
      · rw [h5]; exact (sA2 true).1
      · rw [h5]; exact (sB2 true).1
      · show sp_side _ _ _ t5 = _; rw [h5]; exact (sA2 true).2
      · show sp_side _ _ _ t5 = _; rw [h5]; exact (sB2 true).2
    have h5 : t5 = false := bf o13
    refine Tr.is_br_f h5 ?_
    by_cases o14 : op = 14
    · rw [if_pos (.inr o14), show (op == 13) = false from bf o13]
      refine Tr.is_br_t (bt o14) (Tr.is_ast ?_ (Tr.is_ast ?_ (both_is ?_ ?_ rfl rfl)))
      · rw [h5]; exact (sA2 false).1
      · rw [h5]; exact (sB2 false).1
      · show sp_side _ _ _ t5 = _; rw [h5]; exact (sA2 false).2
      · show sp_side _ _ _ t5 = _; rw [h5]; exact (sB2 false).2
    refine Tr.is_br_f (bf o14) ?_
    rw [if_neg (by omega)]
    by_cases o11 : op = 11
    · rw [if_pos o11]
      exact Tr.is_br_t (bt o11) (Tr.is_ast m.1 (both_is m.2 m.2 rfl rfl))
    refine Tr.is_br_f (bf o11) ?_
    rw [if_neg o11]
    by_cases o12 : op = 12
    · rw [if_pos o12]
      exact Tr.is_br_t (bt o12) (Tr.is_ast w1.1 (Tr.is_ast w2.1 (both_is w1.2 w2.2 rfl rfl)))
    rw [if_neg o12]
    exact Tr.is_br_f (bf o12) (Tr.is_br_f rfl (Tr.is_br_f rfl (Tr.is_leaf rfl)))
theorem rTest_ws {op : Int} {a b : SP} (ha : WS a) (hb : WS b) : Tr.Is (r16_Test_t op a b) (encP (testI op (nI a) (nI b))) := by
  have gA := GI.nI ha; have gB := GI.nI hb
  unfold r16_Test_t r16_Test_T
  rw [r16_Norm_spec ha, r16_Norm_spec hb]
  match nI a, nI b, gA, gB with
  | none, _, _, _ => exact Tr.is_br_t rfl (Tr.is_leaf rfl)
  | some (al, ah), none, _, _ => exact Tr.is_br_f rfl (Tr.is_br_t rfl (Tr.is_leaf rfl))
  | some (al, ah), some (bl, bh), gA, gB =>
    have p := gA _ _ rfl; have q := gB _ _ rfl
    have nA := Norm_enc gA; have nB := Norm_enc gB
    have sA1 := fun s => (rside gA nA (z := bh) (by omega) (by omega) s).1
    have sA2 := fun s => (rside gA nA (z := bl) (by omega) (by omega) s).2
    have sB1 := fun s => (rside gB nB (z := al) (by omega) (by omega) s).2
    have sB2 := fun s => (rside gB nB (z := ah) (by omega) (by omega) s).1
    have m := rMeet_is gA gB nA nB
    refine Tr.is_br_f rfl (Tr.is_br_f rfl ?_)
    rw [testI_some]
    by_cases o9 : op = 9
    · rw [if_pos (.inl o9)]
      exact Tr.is_br_t (bt o9) (both_is (sA1 _) (sB1 _) rfl rfl)
    refine Tr.is_br_f (bf o9) ?_
    by_cases o10 : op = 10
    · rw [if_pos (.inr o10)]
      exact Tr.is_br_t (bt o10) (both_is (sA1 _) (sB1 _) rfl rfl)
    refine Tr.is_br_f (bf o10) ?_
    rw [if_neg (by omega)]
    by_cases o13 : op = 13
    · rw [if_pos (.inl o13)]
      exact Tr.is_br_t (bt o13) (both_is (sA2 _) (sB2 _) rfl rfl)
    refine Tr.is_br_f (bf o13) ?_
    by_cases o14 : op = 14
    · rw [if_pos (.inr o14)]
      exact Tr.is_br_t (bt o14) (both_is (sA2 _) (sB2 _) rfl rfl)
    refine Tr.is_br_f (bf o14) ?_
    rw [if_neg (by omega)]
    by_cases o11 : op = 11
    · rw [if_pos o11]
      exact Tr.is_br_t (bt o11) (both_is m m rfl rfl)
    refine Tr.is_br_f (bf o11) ?_
    rw [if_neg o11]
    by_cases o12 : op = 12
    · rw [if_pos o12]
      refine Tr.is_br_t (bt o12) ?_
      have e1 : (kf bl == kf bh) = decide (bl = bh) := kf_eq (by omega) (by omega) (by omega) (by omega)
      have e2 : (kf al == kf ah) = decide (al = ah) := kf_eq (by omega) (by omega) (by omega) (by omega)
      have w1 := rwithout_is gA (bl := bl) (by omega) (by omega)
      have w2 := rwithout_is gB (bl := al) (by omega) (by omega)
      by_cases d1 : bl = bh <;> by_cases d2 : al = ah
      · rw [if_pos d1, if_pos d2]
        exact Tr.is_br_t (e1.trans (dt d1)) (Tr.is_br_t (e2.trans (dt d2)) (both_is w1 w2 rfl rfl))
      · rw [if_pos d1, if_neg d2]
        exact Tr.is_br_t (e1.trans (dt d1)) (Tr.is_br_f (e2.trans (df d2)) (both_is w1 rfl rfl rfl))
      · rw [if_neg d1, if_pos d2]
        exact Tr.is_br_f (e1.trans (df d1)) (Tr.is_br_t (e2.trans (dt d2)) (both_is rfl w2 rfl rfl))
      · rw [if_neg d1, if_neg d2]
        exact Tr.is_br_f (e1.trans (df d1)) (Tr.is_br_f (e2.trans (df d2)) (both_is rfl rfl rfl rfl))
    rw [if_neg o12]
    exact Tr.is_br_f (bf o12) (Tr.is_br_f rfl (Tr.is_br_f rfl (Tr.is_leaf rfl)))
theorem SpanTests_both {op : Int} {a b : SP} (ha : WS a) (hb : WS b) : l_SpanTests op a b = true ∧ l_SpanTests_s op a b = true := by
  suffices h : Tr.Is (l_SpanTests_t op a b) true from ⟨h.1, h.2⟩
  have t1 := Test_ws (op := op) ha hb
  have t2 := rTest_ws (op := op) ha hb
  have e1 : sp_Test op a b = encP (testI op (nI a) (nI b)) := t1.1
  have e2 : r16_Test op a b = encP (testI op (nI a) (nI b)) := t2.1
  unfold l_SpanTests_t l_SpanTests_T
  refine pre16 (Tr.is_ast t1.2 (Tr.is_br_t works16.1 ?_))
  rw [e1, e2]
  exact Tr.is_br_t (sp_same rfl) (Tr.is_leaf (sp_same rfl))
end Go.Fb
namespace Go.Fb
open Go.Ev
theorem hasI_some {A : IV} {x : Int} : hasI A (some x) = true ↔ ∃ l h, A = some (l, h) ∧ l ≤ x ∧ x ≤ h ∧ x ≠ 9218868437227405312 ∧ x ≠ -9218868437227405312 := by
  show (match mk x x with | none => false | some p => insI (some p) A) = true ↔ _
  unfold mk
  by_cases c : x ≤ x ∧ x ≠ 9218868437227405312 ∧ x ≠ -9218868437227405312
  · rw [if_pos c]
    constructor
    · intro h
      obtain ⟨l, u, e, h1, h2⟩ := insI_some h
      exact ⟨l, u, e, h1, h2, c.2⟩
    · rintro ⟨l, h, rfl, h1, h2, _⟩; exact insI_of h1 h2
  · rw [if_neg c]
    constructor
    · intro h; cases h
    · rintro ⟨l, h, rfl, h1, h2, h3, h4⟩; exact absurd ⟨Int.le_refl _, h3, h4⟩ c
theorem hasI_none {A : IV} : hasI A none = false := rfl
theorem has_mk {l h x : Int} (h1 : l ≤ x) (h2 : x ≤ h) (h3 : x < 9218868437227405312) (h4 : -9218868437227405312 < x) : hasI (mk l h) (some x) = true := by
  have e : mk l h = some (l, h) := by unfold mk; rw [if_pos (by omega)]
  rw [e]; exact hasI_some.2 ⟨_, _, rfl, h1, h2, by omega, by omega⟩
theorem has_rng {A : IV} (hA : GI A) {x : Int} (h : hasI A (some x) = true) : x < 9218868437227405312 ∧ -9218868437227405312 < x := by
  obtain ⟨l, u, rfl, h1, h2, h3, h4⟩ := hasI_some.1 h
  have := hA _ _ rfl; omega
theorem has_meet {A C : IV} (hA : GI A) {x : Int} (h : hasI A (some x) = true) (g : hasI C (some x) = true) : hasI (meetI A C) (some x) = true := by
  have r := has_rng hA h
  obtain ⟨l, u, rfl, h1, h2, h3, h4⟩ := hasI_some.1 h
  obtain ⟨l', u', rfl, g1, g2, _⟩ := hasI_some.1 g
  exact has_mk (by split <;> omega) (by split <;> omega) r.1 r.2
theorem insI_meet_l (A C : IV) : insI (meetI A C) A = true := by
  match A, C with
  | none, _ => rfl
  | some _, none => rfl
  | some (l, h), some (l', h') =>
    rcases mk_cases (if l ≤ l' then l' else l) (if h' ≤ h then h' else h) with m | ⟨m, _⟩
    · show insI (mk (if l ≤ l' then l' else l) (if h' ≤ h then h' else h)) _ = true
      rw [m]; rfl
    · show insI (mk (if l ≤ l' then l' else l) (if h' ≤ h then h' else h)) _ = true
      rw [m]; exact insI_of (by split <;> omega) (by split <;> omega)
theorem insI_meet_r (A C : IV) : insI (meetI A C) C = true := by
  match A, C with
  | none, _ => rfl
  | some _, none => rfl
  | some (l, h), some (l', h') =>
    rcases mk_cases (if l ≤ l' then l' else l) (if h' ≤ h then h' else h) with m | ⟨m, _⟩
    · show insI (mk (if l ≤ l' then l' else l) (if h' ≤ h then h' else h)) _ = true
      rw [m]; rfl
    · show insI (mk (if l ≤ l' then l' else l) (if h' ≤ h then h' else h)) _ = true
      rw [m]; exact insI_of (by split <;> omega) (by split <;> omega)
theorem insI_side (A : IV) (z : Int) (up s : Bool) : insI (sideI A z up s) A = true := by
  unfold sideI; split <;> exact insI_meet_l _ _
theorem has_side {A : IV} (hA : GI A) {x z : Int} (h : hasI A (some x) = true) {up s : Bool} (hk : if up then stepK z up s ≤ x else x ≤ stepK z up s) : hasI (sideI A z up s) (some x) = true := by
  have r := has_rng hA h
  unfold sideI
  cases up with
  | true => rw [if_pos rfl] at *; exact has_meet hA h (has_mk hk (by omega) r.1 r.2)
  | false => rw [if_neg (by simp)] at *; exact has_meet hA h (has_mk (by omega) hk r.1 r.2)
theorem insI_without {al ah f : Int} : insI (withoutI al ah f) (some (al, ah)) = true := by
  unfold withoutI; split
  · split
    · rfl
    · exact insI_side _ _ _ _
  · split
    · exact insI_side _ _ _ _
    · exact insI_refl _
theorem has_without {al ah f x : Int} (hA : GI (some (al, ah))) (h : hasI (some (al, ah)) (some x) = true) (hx : x ≠ f) : hasI (withoutI al ah f) (some x) = true := by
  have p := hA _ _ rfl
  have r := has_rng hA h
  obtain ⟨l, u, e, h1, h2, h3, h4⟩ := hasI_some.1 h
  cases e
  unfold withoutI; split
  · split
    · omega
    · refine has_side hA h ?_
      rw [if_pos rfl]; unfold stepK; split
      · rw [if_pos rfl]; omega
      · omega
  · split
    · refine has_side hA h ?_
      rw [if_neg (by simp)]; unfold stepK; split
      · rw [if_neg (by simp)]; omega
      · omega
    · exact h
theorem both_has {X Y : IV} {x y : Int} (h : hasI X (some x) = true) (g : hasI Y (some y) = true) : bothI X Y = (X, Y) := by
  obtain ⟨_, _, rfl, _⟩ := hasI_some.1 h
  obtain ⟨_, _, rfl, _⟩ := hasI_some.1 g
  rfl
theorem both_in {X Y A B : IV} (h : insI X A = true) (g : insI Y B = true) : insI (bothI X Y).1 A = true ∧ insI (bothI X Y).2 B = true := by
  match X, Y with
  | none, _ => exact ⟨rfl, rfl⟩
  | some _, none => exact ⟨rfl, rfl⟩
  | some _, some _ => exact ⟨h, g⟩
theorem both_good {X Y : IV} (h : GI X) (g : GI Y) : GI (bothI X Y).1 ∧ GI (bothI X Y).2 := by
  match X, Y with
  | none, _ => exact ⟨GI.nil, GI.nil⟩
  | some _, none => exact ⟨GI.nil, GI.nil⟩
  | some _, some _ => exact ⟨h, g⟩
structure TestOk (A B X Y : IV) (R : Int → Int → Prop) : Prop where
  g1 : GI X
  g2 : GI Y
  i1 : insI X A = true
  i2 : insI Y B = true
  k : ∀ x y, hasI A (some x) = true → hasI B (some y) = true → R x y → hasI X (some x) = true ∧ hasI Y (some y) = true
theorem TestOk.both {A B X Y : IV} {R : Int → Int → Prop} (h : TestOk A B X Y R) : TestOk A B (bothI X Y).1 (bothI X Y).2 R :=
  ⟨(both_good h.g1 h.g2).1, (both_good h.g1 h.g2).2, (both_in h.i1 h.i2).1, (both_in h.i1 h.i2).2, fun x y hx hy r => by
    have := h.k x y hx hy r; rw [both_has this.1 this.2]; exact this⟩
def opRel (op x y : Int) : Prop := (op = 9 → x < y) ∧ (op = 10 → x ≤ y) ∧ (op = 13 → y < x) ∧ (op = 14 → y ≤ x) ∧ (op = 11 → x = y) ∧ (op = 12 → x ≠ y)
theorem stepK_le {z : Int} (up : Bool) : stepK z up false = z := by unfold stepK; rw [if_neg (by simp)]
theorem test_ok {A B : IV} (op : Int) (hA : GI A) (hB : GI B) : TestOk A B (testI op A B).1 (testI op A B).2 (opRel op) := by
  match A, B, hA, hB with
  | none, _, _, _ => exact ⟨GI.nil, GI.nil, rfl, rfl, fun x y hx => by obtain ⟨_, _, e, _⟩ := hasI_some.1 hx; cases e⟩
  | some (al, ah), none, _, _ => exact ⟨GI.nil, GI.nil, rfl, rfl, fun x y _ hy => by obtain ⟨_, _, e, _⟩ := hasI_some.1 hy; cases e⟩
  | some (al, ah), some (bl, bh), hA, hB =>
    have p := hA _ _ rfl; have q := hB _ _ rfl
    rw [testI_some]
    by_cases o1 : op = 9 ∨ op = 10
    · rw [if_pos o1]
      refine TestOk.both ⟨GI.side hA (by omega) (by omega) _ _, GI.side hB (by omega) (by omega) _ _, insI_side _ _ _ _, insI_side _ _ _ _, fun x y hx hy r => ?_⟩
      have rx := has_rng hA hx; have ry := has_rng hB hy
      obtain ⟨_, _, e1, x1, x2, _⟩ := hasI_some.1 hx; cases e1
      obtain ⟨_, _, e2, y1, y2, _⟩ := hasI_some.1 hy; cases e2
      rcases o1 with o | o
      · have := r.1 o
        rw [show (op == 9) = true from bt o]
        refine ⟨has_side hA hx ?_, has_side hB hy ?_⟩
        · rw [if_neg (by simp)]; unfold stepK; split
          · rw [if_neg (by simp)]; omega
          · omega
        · rw [if_pos rfl]; unfold stepK; split
          · rw [if_pos rfl]; omega
          · omega
      · have := r.2.1 o
        rw [show (op == 9) = false from bf (by omega)]
        exact ⟨has_side hA hx (by rw [if_neg (by simp), stepK_le]; omega), has_side hB hy (by rw [if_pos rfl, stepK_le]; omega)⟩
    rw [if_neg o1]
    by_cases o2 : op = 13 ∨ op = 14
    · rw [if_pos o2]
      refine TestOk.both ⟨GI.side hA (by omega) (by omega) _ _, GI.side hB (by omega) (by omega) _ _, insI_side _ _ _ _, insI_side _ _ _ _, fun x y hx hy r => ?_⟩
      have rx := has_rng hA hx; have ry := has_rng hB hy
      obtain ⟨_, _, e1, x1, x2, _⟩ := hasI_some.1 hx; cases e1
      obtain ⟨_, _, e2, y1, y2, _⟩ := hasI_some.1 hy; cases e2
      rcases o2 with o | o
      · have := r.2.2.1 o
        rw [show (op == 13) = true from bt o]
        refine ⟨has_side hA hx ?_, has_side hB hy ?_⟩
        · rw [if_pos rfl]; unfold stepK; split
          · rw [if_pos rfl]; omega
          · omega
        · rw [if_neg (by simp)]; unfold stepK; split
          · rw [if_neg (by simp)]; omega
          · omega
      · have := r.2.2.2.1 o
        rw [show (op == 13) = false from bf (by omega)]
        exact ⟨has_side hA hx (by rw [if_pos rfl, stepK_le]; omega), has_side hB hy (by rw [if_neg (by simp), stepK_le]; omega)⟩
    rw [if_neg o2]
    by_cases o3 : op = 11
    · rw [if_pos o3]
      refine TestOk.both ⟨GI.meet hA hB, GI.meet hA hB, insI_meet_l _ _, insI_meet_r _ _, fun x y hx hy r => ?_⟩
      have := r.2.2.2.2.1 o3; subst this
      exact ⟨has_meet hA hx hy, has_meet hA hx hy⟩
    rw [if_neg o3]
    by_cases o4 : op = 12
    · rw [if_pos o4]
      refine TestOk.both ⟨?_, ?_, ?_, ?_, fun x y hx hy r => ?_⟩
      · split
        · exact GI.without hA (by omega) (by omega)
        · exact hA
      · split
        · exact GI.without hB (by omega) (by omega)
        · exact hB
      · split
        · exact insI_without
        · exact insI_refl _
      · split
        · exact insI_without
        · exact insI_refl _
      · have hne := r.2.2.2.2.2 o4
        obtain ⟨_, _, e1, x1, x2, _⟩ := hasI_some.1 hx; cases e1
        obtain ⟨_, _, e2, y1, y2, _⟩ := hasI_some.1 hy; cases e2
        constructor
        · split
          · exact has_without hA hx (by omega)
          · exact hx
        · split
          · exact has_without hB hy (by omega)
          · exact hy
    rw [if_neg o4]
    exact ⟨hA, hB, insI_refl _, insI_refl _, fun x y hx hy _ => ⟨hx, hy⟩⟩
theorem inside_is {s : SP} {f : Int} (h : WS s) (hf : Wd f) : ∃ v b, Tr.Is (l16_inside_t s f) (v, b) ∧ Wd v ∧ b = sp_Has s v := by
  unfold l16_inside_t l16_inside_T
  cases h1 : sp_Has s f with
  | true => exact ⟨f, true, Tr.is_br_t rfl (Tr.is_leaf rfl), hf, h1.symm⟩
  | false => cases h2 : sp_Has s s.lo with
    | true => exact ⟨s.lo, true, Tr.is_br_f rfl (Tr.is_br_t rfl (Tr.is_leaf rfl)), h.1, h2.symm⟩
    | false => cases h3 : sp_Has s s.hi with
      | true => exact ⟨s.hi, true, Tr.is_br_f rfl (Tr.is_br_f rfl (Tr.is_br_t rfl (Tr.is_leaf rfl))), h.2, h3.symm⟩
      | false => exact ⟨0, _, Tr.is_br_f rfl (Tr.is_br_f rfl (Tr.is_br_f rfl (Tr.is_leaf rfl))), zero_wd, rfl⟩
theorem cmpZ_lt {x y : Int} : decide (cmpZ x y < 0) = decide (x < y) := by
  rw [decide_eq_decide]; unfold cmpZ; split
  · omega
  · split <;> omega
theorem cmpZ_gt {x y : Int} : decide (cmpZ x y > 0) = decide (y < x) := by
  rw [decide_eq_decide]; unfold cmpZ; split
  · omega
  · split <;> omega
theorem cmpZ_ge {x y : Int} : decide (cmpZ x y ≥ 0) = decide (y ≤ x) := by
  rw [decide_eq_decide]; unfold cmpZ; split
  · omega
  · split <;> omega
theorem cmpZ_eq {x y : Int} : (cmpZ x y == 0) = decide (x = y) := by
  rw [Bool.eq_iff_iff, beq_iff_eq, decide_eq_true_eq]; unfold cmpZ; split
  · omega
  · split <;> omega
theorem SpanKeeps_both {op : Int} {a b : SP} {f g : Int} (ha : WS a) (hb : WS b) (hf : Wd f) (hg : Wd g) : l_SpanKeeps op a b f g = true ∧ l_SpanKeeps_s op a b f g = true := by
  suffices h : Tr.Is (l_SpanKeeps_t op a b f g) true from ⟨h.1, h.2⟩
  have gA := GI.nI ha; have gB := GI.nI hb
  have t := Test_ws (op := op) ha hb
  have e : sp_Test op a b = encP (testI op (nI a) (nI b)) := t.1
  have ok := test_ok op gA gB
  obtain ⟨v, x, l1, wv, hx⟩ := inside_is ha hf
  obtain ⟨w, y, l2, ww, hy⟩ := inside_is hb hg
  have q1 : l16_inside a f = (v, x) := l1.1
  have q2 : l16_inside b g = (w, y) := l2.1
  unfold l_SpanKeeps_t l_SpanKeeps_T
  refine pre16 (Tr.is_ast t.2 ?_)
  rw [e, q1, q2]
  have i1 : sp_Inside (encP (testI op (nI a) (nI b))).fst a = true := (Inside_is ok.g1 gA (norm_enc ok.g1) (sp_norm_spec ha)).trans ok.i1
  have i2 : sp_Inside (encP (testI op (nI a) (nI b))).snd b = true := (Inside_is ok.g2 gB (norm_enc ok.g2) (sp_norm_spec hb)).trans ok.i2
  refine Tr.is_br_f (by rw [i1]; rfl) (Tr.is_br_f (by rw [i2]; rfl) ?_)
  have c1 : sp_Has (encP (testI op (nI a) (nI b))).fst v = hasI (testI op (nI a) (nI b)).1 (kz v) := by
    have := Has_ws (enc_ws ok.g1) wv; rw [nI_enc ok.g1] at this; exact this
  have c2 : sp_Has (encP (testI op (nI a) (nI b))).snd w = hasI (testI op (nI a) (nI b)).2 (kz w) := by
    have := Has_ws (enc_ws ok.g2) ww; rw [nI_enc ok.g2] at this; exact this
  rw [Has_ws ha wv] at hx; rw [Has_ws hb ww] at hy
  show Tr.Is (.br (!x) _ (.br (!y) _ _)) _
  cases x with
  | false => exact Tr.is_br_t rfl (Tr.is_leaf works16.1)
  | true =>
    refine Tr.is_br_f rfl ?_
    cases y with
    | false => exact Tr.is_br_t rfl (Tr.is_leaf works16.1)
    | true =>
      refine Tr.is_br_f rfl ?_
      show Tr.Is (.br (op == 9) (.br l16_works (.br (!decide ((p_Cmp v w).fst < 0)) _ (.br (sp_Has (encP (testI op (nI a) (nI b))).fst v) (.leaf (sp_Has (encP (testI op (nI a) (nI b))).snd w)) _)) _) (.br _ (.br _ (.br (!decide ((p_Cmp v w).fst ≤ 0)) _ _) _)
        (.br _ (.br _ (.br (!decide ((p_Cmp v w).fst > 0)) _ _) _) (.br _ (.br _ (.br (!decide ((p_Cmp v w).fst ≥ 0)) _ _) _) (.br _ (.br _ (.br (!(p_Cmp v w).fst == 0) _ _) _) (.br _ (.br _ (.br (!(p_Cmp v w).fst != 0) _ _) _) _)))))) _
      rw [c1, c2]
      have hv : ∃ z, kz v = some z := by
        cases h : kz v with
        | none => rw [h, hasI_none] at hx; cases hx
        | some z => exact ⟨z, rfl⟩
      have hw : ∃ z, kz w = some z := by
        cases h : kz w with
        | none => rw [h, hasI_none] at hy; cases hy
        | some z => exact ⟨z, rfl⟩
      obtain ⟨z, hv⟩ := hv
      obtain ⟨u, hw⟩ := hw
      have hc : p_Cmp v w = (cmpZ z u, true) := by rw [(cmp_kz wv ww).1, hv, hw]; rfl
      rw [hv] at hx ⊢; rw [hw] at hy ⊢; rw [hc]
      have fin : opRel op z u → Tr.Is (.br (hasI (testI op (nI a) (nI b)).1 (some z)) (.leaf (hasI (testI op (nI a) (nI b)).2 (some u))) (.leaf false)) true := fun r => by
        have := ok.k z u hx.symm hy.symm r
        exact Tr.is_br_t this.1 (Tr.is_leaf this.2)
      by_cases o9 : op = 9
      · refine Tr.is_br_t (bt o9) (Tr.is_br_t works16.1 ?_)
        by_cases c : z < u
        · exact Tr.is_br_f (by show (!decide (cmpZ z u < 0)) = _; rw [cmpZ_lt, dt c]; rfl) (fin ⟨fun _ => c, fun h => by omega, fun h => by omega, fun h => by omega, fun h => by omega, fun h => by omega⟩)
        · exact Tr.is_br_t (by show (!decide (cmpZ z u < 0)) = _; rw [cmpZ_lt, df c]; rfl) (Tr.is_leaf rfl)
      refine Tr.is_br_f (bf o9) ?_
      by_cases o10 : op = 10
      · refine Tr.is_br_t (bt o10) (Tr.is_br_t works16.1 ?_)
        by_cases c : z ≤ u
        · exact Tr.is_br_f (by show (!decide (cmpZ z u ≤ 0)) = _; rw [cmpZ_le, dt c]; rfl) (fin ⟨fun h => by omega, fun _ => c, fun h => by omega, fun h => by omega, fun h => by omega, fun h => by omega⟩)
        · exact Tr.is_br_t (by show (!decide (cmpZ z u ≤ 0)) = _; rw [cmpZ_le, df c]; rfl) (Tr.is_leaf rfl)
      refine Tr.is_br_f (bf o10) ?_
      by_cases o13 : op = 13
      · refine Tr.is_br_t (bt o13) (Tr.is_br_t works16.1 ?_)
        by_cases c : u < z
        · exact Tr.is_br_f (by show (!decide (cmpZ z u > 0)) = _; rw [cmpZ_gt, dt c]; rfl) (fin ⟨fun h => by omega, fun h => by omega, fun _ => c, fun h => by omega, fun h => by omega, fun h => by omega⟩)
        · exact Tr.is_br_t (by show (!decide (cmpZ z u > 0)) = _; rw [cmpZ_gt, df c]; rfl) (Tr.is_leaf rfl)
      refine Tr.is_br_f (bf o13) ?_
      by_cases o14 : op = 14
      · refine Tr.is_br_t (bt o14) (Tr.is_br_t works16.1 ?_)
        by_cases c : u ≤ z
        · exact Tr.is_br_f (by show (!decide (cmpZ z u ≥ 0)) = _; rw [cmpZ_ge, dt c]; rfl) (fin ⟨fun h => by omega, fun h => by omega, fun h => by omega, fun _ => c, fun h => by omega, fun h => by omega⟩)
        · exact Tr.is_br_t (by show (!decide (cmpZ z u ≥ 0)) = _; rw [cmpZ_ge, df c]; rfl) (Tr.is_leaf rfl)
      refine Tr.is_br_f (bf o14) ?_
      by_cases o11 : op = 11
      · refine Tr.is_br_t (bt o11) (Tr.is_br_t works16.1 ?_)
        by_cases c : z = u
        · exact Tr.is_br_f (by show (!(cmpZ z u == 0)) = _; rw [cmpZ_eq, dt c]; rfl) (fin ⟨fun h => by omega, fun h => by omega, fun h => by omega, fun h => by omega, fun _ => c, fun h => by omega⟩)
        · exact Tr.is_br_t (by show (!(cmpZ z u == 0)) = _; rw [cmpZ_eq, df c]; rfl) (Tr.is_leaf rfl)
      refine Tr.is_br_f (bf o11) ?_
      by_cases o12 : op = 12
      · refine Tr.is_br_t (bt o12) (Tr.is_br_t works16.1 ?_)
        by_cases c : z = u
        · exact Tr.is_br_t (by show (!(!(cmpZ z u == 0))) = _; rw [cmpZ_eq, dt c]; rfl) (Tr.is_leaf rfl)
        · exact Tr.is_br_f (by show (!(!(cmpZ z u == 0))) = _; rw [cmpZ_eq, df c]; rfl) (fin ⟨fun h => by omega, fun h => by omega, fun h => by omega, fun h => by omega, fun h => by omega, fun _ => c⟩)
      · exact Tr.is_br_f (bf o12) (Tr.is_br_t works16.1 (fin ⟨fun h => by omega, fun h => by omega, fun h => by omega, fun h => by omega, fun h => by omega, fun h => by omega⟩))
end Go.Fb
