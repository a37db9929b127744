/- Spans: plain laws of what the functions compute. Conditions: as each theorem states. -/
import Derived.Test.YtdkbeajkedffeaaGreatSq
import Derived.Test.YtdkbeajkedffeaaGreatFd
namespace Go.Fb
open Go.Ev
def kz (f : Int) : Option Int := if p_nan f then none else some (p_key f)
def kf (z : Int) : Int := fl (decide (z < 0)) z.natAbs
theorem kz_fl {s : Bool} {k : Nat} (h : k ≤ 9218868437227405312) : kz (fl s k) = some (ky s k) := by
  unfold kz; rw [nan_spec (by omega), df (by omega), key_spec (by omega)]; rfl
theorem kz_nan {s : Bool} {k : Nat} (h : 9218868437227405312 < k) (g : k < 9223372036854775808) : kz (fl s k) = none := by
  unfold kz; rw [nan_spec g, dt h]; rfl
theorem ky_rng {s : Bool} {k : Nat} (h : k ≤ 9218868437227405312) : -9218868437227405312 ≤ ky s k ∧ ky s k ≤ 9218868437227405312 := by
  unfold ky; split <;> omega
theorem kf_ky (s : Bool) (k : Nat) : kf (ky s k) = if k = 0 then 0 else fl s k := by
  cases s with
  | false => simp only [kf, ky, fl, flN, Bool.false_eq_true, if_false]; rw [df (by omega)]; simp only [Bool.false_eq_true, if_false]; split <;> omega
  | true =>
    simp only [kf, ky, fl, flN, if_true]
    by_cases h : k = 0
    · subst h; rfl
    · rw [dt (by omega), if_neg h]; simp only [if_true]; omega
theorem ky_kf {z : Int} : ky (decide (z < 0)) z.natAbs = z := by
  by_cases h : z < 0
  · rw [dt h]; simp only [ky, if_true]; omega
  · rw [df h]; simp only [ky, Bool.false_eq_true, if_false]; omega
theorem kz_kf {z : Int} (h : -9218868437227405312 ≤ z) (g : z ≤ 9218868437227405312) : kz (kf z) = some z := by
  unfold kf; rw [kz_fl (by omega), ky_kf]
theorem kf_wd {z : Int} (h : -9218868437227405312 ≤ z) (g : z ≤ 9218868437227405312) : Wd (kf z) := fl_wd (by omega)
theorem kz_cases {f : Int} (h : Wd f) : (kz f = none ∧ ∃ s k, 9218868437227405312 < k ∧ k < 9223372036854775808 ∧ f = fl s k) ∨ (∃ s k, k ≤ 9218868437227405312 ∧ f = fl s k ∧ kz f = some (ky s k)) := by
  obtain ⟨s, k, hk, rfl⟩ := fl_of h
  by_cases hn : 9218868437227405312 < k
  · exact .inl ⟨kz_nan hn hk, s, k, hn, hk, rfl⟩
  · exact .inr ⟨s, k, by omega, rfl, kz_fl (by omega)⟩
theorem kz_rng {f z : Int} (h : Wd f) (g : kz f = some z) : -9218868437227405312 ≤ z ∧ z ≤ 9218868437227405312 := by
  rcases kz_cases h with ⟨e, _⟩ | ⟨s, k, hk, rfl, e⟩
  · rw [e] at g; cases g
  · rw [e] at g; injection g with g; subst g; exact ky_rng hk
def cmpO : Option Int → Option Int → Int × Bool
  | some x, some y => (cmpZ x y, true)
  | _, _ => (0, false)
theorem cmp_kz {a b : Int} (ha : Wd a) (hb : Wd b) : p_Cmp a b = cmpO (kz a) (kz b) ∧ r4_Cmp a b = cmpO (kz a) (kz b) := by
  suffices h : ∀ v : Int × Bool, (∀ s k t j, k < 9223372036854775808 → j < 9223372036854775808 → a = fl s k → b = fl t j → v = fcmp s k t j) → v = cmpO (kz a) (kz b) from
    ⟨h _ fun s k t j hk hj e1 e2 => by rw [e1, e2]; exact fcmp_spec hk hj, h _ fun s k t j hk hj e1 e2 => by rw [e1, e2]; exact rfcmp_spec hk hj⟩
  intro v hv
  rcases kz_cases ha with ⟨e, s, k, h1, h2, rfl⟩ | ⟨s, k, h1, rfl, e⟩
  · rcases kz_cases hb with ⟨e', t, j, h3, h4, rfl⟩ | ⟨t, j, h3, rfl, e'⟩
    · rw [hv s k t j h2 h4 rfl rfl, e, e']; unfold fcmp; rw [if_pos (.inl h1)]; rfl
    · rw [hv s k t j h2 (by omega) rfl rfl, e, e']; unfold fcmp; rw [if_pos (.inl h1)]; rfl
  · rcases kz_cases hb with ⟨e', t, j, h3, h4, rfl⟩ | ⟨t, j, h3, rfl, e'⟩
    · rw [hv s k t j (by omega) h4 rfl rfl, e, e']; unfold fcmp; rw [if_pos (.inr h3)]; rfl
    · rw [hv s k t j (by omega) (by omega) rfl rfl, e, e']; unfold fcmp; rw [if_neg (by omega)]; rfl
theorem cmpZ_le {x y : Int} : decide (cmpZ x y ≤ 0) = decide (x ≤ y) := by
  unfold cmpZ; by_cases h : x < y
  · rw [if_pos h, dt (by omega), dt (by omega)]
  · rw [if_neg h]; by_cases g : x > y
    · rw [if_pos g, df (by omega), df (by omega)]
    · rw [if_neg g, dt (by omega), dt (by omega)]
def leO : Option Int → Option Int → Bool
  | some x, some y => decide (x ≤ y)
  | _, _ => false
theorem le_tree {c : Int × Bool} {o p : Option Int} (h : c = cmpO o p) : Tr.Is (.br c.snd (.leaf (decide (c.fst ≤ 0))) (.leaf false)) (leO o p) := by
  subst h
  cases o with
  | none => exact Tr.is_br_f rfl (Tr.is_leaf rfl)
  | some x => cases p with
    | none => exact Tr.is_br_f rfl (Tr.is_leaf rfl)
    | some y => exact Tr.is_br_t rfl (Tr.is_leaf cmpZ_le)
theorem atMost_kz {a b : Int} (ha : Wd a) (hb : Wd b) : sp_atMost a b = leO (kz a) (kz b) := (le_tree (cmp_kz ha hb).1).1
abbrev IV := Option (Int × Int)
def mk (l h : Int) : IV := if l ≤ h ∧ l ≠ 9218868437227405312 ∧ h ≠ -9218868437227405312 then some (l, h) else none
def mkO : Option Int → Option Int → IV
  | some l, some h => mk l h
  | _, _ => none
def enc : IV → SP
  | none => ⟨true, 0, 0⟩
  | some (l, h) => ⟨false, kf l, kf h⟩
def nI (s : SP) : IV := if s.empty then none else mkO (kz s.lo) (kz s.hi)
def WS (s : SP) : Prop := Wd s.lo ∧ Wd s.hi
def GI (o : IV) : Prop := ∀ l h, o = some (l, h) → l ≤ h ∧ -9218868437227405312 ≤ l ∧ l < 9218868437227405312 ∧ -9218868437227405312 < h ∧ h ≤ 9218868437227405312
theorem GI.nil : GI none := fun _ _ h => by cases h
theorem GI.mk {l h : Int} (h1 : -9218868437227405312 ≤ l) (h2 : l ≤ 9218868437227405312) (h3 : -9218868437227405312 ≤ h) (h4 : h ≤ 9218868437227405312) : GI (mk l h) := fun a b e => by
  unfold Go.Fb.mk at e; split at e
  · cases e; omega
  · cases e
theorem GI.nI {s : SP} (h : WS s) : GI (nI s) := by
  unfold Go.Fb.nI; split
  · exact GI.nil
  · cases h1 : kz s.lo with
    | none => exact GI.nil
    | some l => cases h2 : kz s.hi with
      | none => exact GI.nil
      | some k => exact GI.mk (kz_rng h.1 h1).1 (kz_rng h.1 h1).2 (kz_rng h.2 h2).1 (kz_rng h.2 h2).2
theorem zero_wd : Wd 0 := ⟨by omega, by omega⟩
theorem enc_ws {o : IV} (h : GI o) : WS (enc o) := by
  cases o with
  | none => exact ⟨zero_wd, zero_wd⟩
  | some p => have := h p.1 p.2 rfl; exact ⟨kf_wd (by omega) (by omega), kf_wd (by omega) (by omega)⟩
theorem mk_of {l h : Int} (g : l ≤ h ∧ -9218868437227405312 ≤ l ∧ l < 9218868437227405312 ∧ -9218868437227405312 < h ∧ h ≤ 9218868437227405312) : mk l h = some (l, h) := by
  unfold mk; rw [if_pos (by omega)]
theorem nI_enc {o : IV} (h : GI o) : nI (enc o) = o := by
  cases o with
  | none => rfl
  | some p =>
    have := h p.1 p.2 rfl
    show mkO (kz (kf p.1)) (kz (kf p.2)) = _
    rw [kz_kf (by omega) (by omega), kz_kf (by omega) (by omega)]; exact mk_of this
theorem fl_inf {p : Bool} {k : Nat} (h : k ≤ 9218868437227405312) : (fl p k == 9218868437227405312) = decide (ky p k = 9218868437227405312) := by
  rw [Bool.eq_iff_iff, beq_iff_eq, decide_eq_true_eq]
  cases p <;> simp only [fl, flN, ky, if_true, Bool.false_eq_true, if_false] <;> omega
theorem fl_ninf {p : Bool} {k : Nat} (h : k ≤ 9218868437227405312) : (fl p k == 18442240474082181120) = decide (ky p k = -9218868437227405312) := by
  rw [Bool.eq_iff_iff, beq_iff_eq, decide_eq_true_eq]
  cases p <;> simp only [fl, flN, ky, if_true, Bool.false_eq_true, if_false] <;> omega
theorem sp_inf_val : sp_inf = 9218868437227405312 := inf_spec false
theorem sp_ninf_val : sp_ninf = 18442240474082181120 := inf_spec true
theorem cls0 {k : Nat} : (cls k == 0) = decide (k = 0) := by
  rw [Bool.eq_iff_iff, beq_iff_eq, decide_eq_true_eq]
  rcases cls_cases k with h | h | h | h | h <;> omega
theorem sp_norm_spec {s : SP} (h : WS s) : sp_norm s = enc (nI s) := by
  obtain ⟨e, lo, hi⟩ := s
  obtain ⟨h1, h2⟩ : Wd lo ∧ Wd hi := h
  suffices Tr.Is (sp_norm_t ⟨e, lo, hi⟩) (enc (nI ⟨e, lo, hi⟩)) from this.1
  cases e with
  | true => exact Tr.is_br_t rfl (Tr.is_leaf rfl)
  | false =>
    refine Tr.is_br_f rfl ?_
    show Tr.Is _ (enc (mkO (kz lo) (kz hi)))
    have ha : sp_atMost lo hi = leO (kz lo) (kz hi) := atMost_kz h1 h2
    rcases kz_cases h1 with ⟨e1, s, k, g1, g2, rfl⟩ | ⟨s, k, g1, rfl, e1⟩
    · rw [e1] at ha ⊢; exact Tr.is_br_t (by show (!sp_atMost _ _) = true; rw [ha]; rfl) (Tr.is_leaf rfl)
    · rcases kz_cases h2 with ⟨e2, t, j, g3, g4, rfl⟩ | ⟨t, j, g3, rfl, e2⟩
      · rw [e1, e2] at ha; rw [e1, e2]; exact Tr.is_br_t (by show (!sp_atMost _ _) = true; rw [ha]; rfl) (Tr.is_leaf rfl)
      · rw [e1, e2] at ha; rw [e1, e2]
        have r1 := ky_rng (s := s) g1
        have r2 := ky_rng (s := t) g3
        by_cases hle : ky s k ≤ ky t j
        · refine Tr.is_br_f (by show (!sp_atMost _ _) = false; rw [ha]; show (!decide _) = false; rw [dt hle]; rfl) ?_
          show Tr.Is _ (enc (mk (ky s k) (ky t j)))
          have i1 : (fl s k == sp_inf) = decide (ky s k = 9218868437227405312) := by rw [sp_inf_val]; exact fl_inf g1
          have i2 : (fl t j == sp_ninf) = decide (ky t j = -9218868437227405312) := by rw [sp_ninf_val]; exact fl_ninf g3
          by_cases q1 : ky s k = 9218868437227405312
          · exact Tr.is_br_t (i1.trans (dt q1)) (Tr.is_leaf (by unfold mk; rw [if_neg (by omega)]; rfl))
          · refine Tr.is_br_f (i1.trans (df q1)) ?_
            by_cases q2 : ky t j = -9218868437227405312
            · exact Tr.is_br_t (i2.trans (dt q2)) (Tr.is_leaf (by unfold mk; rw [if_neg (by omega)]; rfl))
            · refine Tr.is_br_f (i2.trans (df q2)) ?_
              rw [mk_of ⟨hle, by omega, by omega, by omega, by omega⟩]
              have c1 : (p_Class (fl s k) == 0) = decide (k = 0) := by rw [class_spec (by omega), cls0]
              have c2 : (p_Class (fl t j) == 0) = decide (j = 0) := by rw [class_spec (by omega), cls0]
              have f1 := kf_ky s k
              have f2 := kf_ky t j
              by_cases z1 : k = 0
              · refine Tr.is_br_t (c1.trans (dt z1)) ?_
                rw [if_pos z1] at f1
                by_cases z2 : j = 0
                · rw [if_pos z2] at f2
                  exact Tr.is_br_t (c2.trans (dt z2)) (Tr.is_leaf (by show _ = SP.mk false (kf (ky s k)) (kf (ky t j)); rw [f1, f2]))
                · rw [if_neg z2] at f2
                  exact Tr.is_br_f (c2.trans (df z2)) (Tr.is_leaf (by show _ = SP.mk false (kf (ky s k)) (kf (ky t j)); rw [f1, f2]))
              · refine Tr.is_br_f (c1.trans (df z1)) ?_
                rw [if_neg z1] at f1
                by_cases z2 : j = 0
                · rw [if_pos z2] at f2
                  exact Tr.is_br_t (c2.trans (dt z2)) (Tr.is_leaf (by show _ = SP.mk false (kf (ky s k)) (kf (ky t j)); rw [f1, f2]))
                · rw [if_neg z2] at f2
                  exact Tr.is_br_f (c2.trans (df z2)) (Tr.is_leaf (by show _ = SP.mk false (kf (ky s k)) (kf (ky t j)); rw [f1, f2]))
        · refine Tr.is_br_t (by show (!sp_atMost _ _) = true; rw [ha]; show (!decide _) = true; rw [df hle]; rfl) (Tr.is_leaf ?_)
          show _ = enc (mk _ _); unfold mk; rw [if_neg (by omega)]; rfl
theorem norm_enc {o : IV} (h : GI o) : sp_norm (enc o) = enc o := by rw [sp_norm_spec (enc_ws h), nI_enc h]
theorem Make_kz {a b : Int} (ha : Wd a) (hb : Wd b) : sp_Make a b = enc (mkO (kz a) (kz b)) := sp_norm_spec (s := ⟨false, a, b⟩) ⟨ha, hb⟩
theorem Make_kf {l h : Int} (h1 : -9218868437227405312 ≤ l) (h2 : l ≤ 9218868437227405312) (h3 : -9218868437227405312 ≤ h) (h4 : h ≤ 9218868437227405312) : sp_Make (kf l) (kf h) = enc (mk l h) := by
  rw [Make_kz (kf_wd h1 h2) (kf_wd h3 h4), kz_kf h1 h2, kz_kf h3 h4]; rfl
end Go.Fb
namespace Go.Fb
open Go.Ev
def insI : IV → IV → Bool
  | none, _ => true
  | some _, none => false
  | some (l, h), some (l', h') => decide (l' ≤ l) && decide (h ≤ h')
def joinI : IV → IV → IV
  | none, b => b
  | some a, none => some a
  | some (l, h), some (l', h') => some (if l' ≤ l then l' else l, if h ≤ h' then h' else h)
def meetI : IV → IV → IV
  | some (l, h), some (l', h') => mk (if l ≤ l' then l' else l) (if h' ≤ h then h' else h)
  | _, _ => none
def negI : IV → IV
  | none => none
  | some (l, h) => some (-h, -l)
def absI : IV → IV
  | none => none
  | some (l, h) => if 0 ≤ l then some (l, h) else if h ≤ 0 then some (-h, -l) else some (0, if -l ≤ h then h else -l)
theorem GI.join {a b : IV} (ha : GI a) (hb : GI b) : GI (joinI a b) := fun l h e => by
  match a, b with
  | none, b => exact hb l h e
  | some a, none => exact ha l h e
  | some (l1, h1), some (l2, h2) =>
    have p := ha _ _ rfl; have q := hb _ _ rfl
    simp only [joinI, Option.some.injEq, Prod.mk.injEq] at e
    obtain ⟨e1, e2⟩ := e
    split at e1 <;> split at e2 <;> omega
theorem GI.meet {a b : IV} (ha : GI a) (hb : GI b) : GI (meetI a b) := by
  match a, b with
  | none, b => exact GI.nil
  | some a, none => exact GI.nil
  | some (l1, h1), some (l2, h2) =>
    have p := ha _ _ rfl; have q := hb _ _ rfl
    show GI (Go.Fb.mk _ _)
    apply GI.mk <;> split <;> omega
theorem GI.neg {a : IV} (ha : GI a) : GI (negI a) := fun l h e => by
  match a with
  | none => cases e
  | some (l1, h1) =>
    have p := ha _ _ rfl
    simp only [negI, Option.some.injEq, Prod.mk.injEq] at e
    omega
theorem GI.abs {a : IV} (ha : GI a) : GI (absI a) := fun l h e => by
  match a with
  | none => cases e
  | some (l1, h1) =>
    have p := ha _ _ rfl
    simp only [absI] at e
    split at e
    · cases e; omega
    · split at e
      · cases e; omega
      · simp only [Option.some.injEq, Prod.mk.injEq] at e
        obtain ⟨e1, e2⟩ := e
        split at e2 <;> omega
theorem atMost_kf {z w : Int} (h : -9218868437227405312 ≤ z) (g : z ≤ 9218868437227405312) (h' : -9218868437227405312 ≤ w) (g' : w ≤ 9218868437227405312) : sp_atMost (kf z) (kf w) = decide (z ≤ w) := by
  rw [atMost_kz (kf_wd h g) (kf_wd h' g'), kz_kf h g, kz_kf h' g']; rfl
theorem Inside_is {a b : SP} {A B : IV} (hA : GI A) (hB : GI B) (ha : sp_norm a = enc A) (hb : sp_norm b = enc B) : sp_Inside a b = insI A B := by
  suffices Tr.Is (sp_Inside_t a b) (insI A B) from this.1
  unfold sp_Inside_t sp_Inside_T; rw [ha, hb]
  match A, B with
  | none, B => exact Tr.is_br_t rfl (Tr.is_leaf rfl)
  | some (l, h), none => exact Tr.is_br_f rfl (Tr.is_br_f rfl (Tr.is_leaf rfl))
  | some (l, h), some (l', h') =>
    have p := hA _ _ rfl; have q := hB _ _ rfl
    refine Tr.is_br_f rfl (Tr.is_br_t rfl ?_)
    show Tr.Is (.br (sp_atMost (kf l') (kf l)) (.leaf (sp_atMost (kf h) (kf h'))) (.leaf false)) (decide (l' ≤ l) && decide (h ≤ h'))
    rw [atMost_kf (by omega) (by omega) (by omega) (by omega), atMost_kf (by omega) (by omega) (by omega) (by omega)]
    cases decide (l' ≤ l) <;> exact ⟨rfl, rfl⟩
def pt : Option Int → IV
  | none => none
  | some z => mk z z
theorem Point_kz {f : Int} (h : Wd f) : sp_Point f = enc (pt (kz f)) := by
  show sp_Make f f = _
  rw [Make_kz h h]; cases kz f <;> rfl
theorem pt_good {o : Option Int} (h : ∀ z, o = some z → -9218868437227405312 ≤ z ∧ z ≤ 9218868437227405312) : GI (pt o) := by
  cases o with
  | none => exact GI.nil
  | some z => have := h z rfl; exact GI.mk this.1 this.2 this.1 this.2
theorem pt_kz {f : Int} (h : Wd f) : GI (pt (kz f)) := pt_good fun _ e => kz_rng h e
def hasI (A : IV) (o : Option Int) : Bool := match pt o with
  | none => false
  | some p => insI (some p) A
theorem class_ky {s : Bool} {k : Nat} (h : k < 9223372036854775808) : (p_Class (fl s k) != 3) = decide (k ≠ 9218868437227405312) := by
  rw [class_spec h, Bool.eq_iff_iff, bne_iff_ne, decide_eq_true_eq]
  rcases cls_cases k with h | h | h | h | h <;> omega
theorem ky_abs {s : Bool} {k : Nat} : ky s k = 9218868437227405312 ∨ ky s k = -9218868437227405312 ↔ k = 9218868437227405312 := by
  unfold ky; split <;> omega
theorem Has_ws {s : SP} {f : Int} (h : WS s) (hf : Wd f) : sp_Has s f = hasI (nI s) (kz f) := by
  suffices Tr.Is (sp_Has_t s f) (hasI (nI s) (kz f)) from this.1
  have hp := Point_kz hf
  have hi : sp_Inside (sp_Point f) s = insI (pt (kz f)) (nI s) := by
    rw [hp]; exact Inside_is (pt_kz hf) (GI.nI h) (norm_enc (pt_kz hf)) (sp_norm_spec h)
  unfold sp_Has_t sp_Has_T hasI
  rw [hi, hp]
  rcases kz_cases hf with ⟨e, s, k, g1, g2, rfl⟩ | ⟨s, k, g1, rfl, e⟩
  · rw [e, class_ky g2]; exact Tr.is_br_t (dt (by omega)) (Tr.is_br_f rfl (Tr.is_leaf rfl))
  · rw [e, class_ky (by omega)]
    have hk := ky_abs (s := s) (k := k)
    have hr := ky_rng (s := s) g1
    by_cases hi : k = 9218868437227405312
    · refine Tr.is_br_f (df (by omega)) (Tr.is_leaf ?_)
      show false = (match Go.Fb.mk (ky s k) (ky s k) with | none => false | some p => insI (some p) _)
      unfold Go.Fb.mk; rw [if_neg (by omega)]
    · refine Tr.is_br_t (dt hi) ?_
      show Tr.Is (.br (!(enc (Go.Fb.mk (ky s k) (ky s k))).empty) (.leaf (insI (Go.Fb.mk (ky s k) (ky s k)) (nI _))) (.leaf false)) (match Go.Fb.mk (ky s k) (ky s k) with | none => false | some p => insI (some p) _)
      rw [mk_of ⟨Int.le_refl _, by omega, by omega, by omega, by omega⟩]
      exact Tr.is_br_t rfl (Tr.is_leaf rfl)
theorem two_wd {z w : Int} (h1 : Wd (kf z)) (h2 : Wd (kf w)) : WdL [kf z, kf w] := fun x hx => by
  rcases List.mem_cons.1 hx with e | hx
  · subst e; exact h1
  · rcases List.mem_cons.1 hx with e | hx
    · subst e; exact h2
    · cases hx
theorem kz_key {f z : Int} (h : kz f = some z) : p_nan f = false ∧ p_key f = z := by
  unfold kz at h; split at h
  · cases h
  · rename_i g; exact ⟨by simpa using g, by injection h⟩
theorem pmax_kf {z w : Int} (h : -9218868437227405312 ≤ z) (g : z ≤ 9218868437227405312) (h' : -9218868437227405312 ≤ w) (g' : w ≤ 9218868437227405312) : p_Max_s [kf z, kf w] = true ∧ p_Max [kf z, kf w] = kf (if z ≤ w then w else z) := by
  obtain ⟨s, m⟩ := pmax_spec (two_wd (kf_wd h g) (kf_wd h' g')) (show 2 ≤ 1000000 by omega)
  refine ⟨s, ?_⟩
  have k1 := kz_key (kz_kf h g)
  have k2 := kz_key (kz_kf h' g')
  rcases m with ⟨_, m | ⟨j, hj, m⟩⟩ | ⟨t, ht, hv, m⟩
  · cases m
  · match j, hj with
    | 0, _ => rw [show [kf z, kf w].getD 0 0 = kf z from rfl, k1.1] at m; cases m
    | 1, _ => rw [show [kf z, kf w].getD 1 0 = kf w from rfl, k2.1] at m; cases m
  · have m0 := of_decide_eq_false (m 0 (show 0 < 2 by omega)).2
    have m1 := of_decide_eq_false (m 1 (show 1 < 2 by omega)).2
    rw [show [kf z, kf w].getD 0 0 = kf z from rfl, k1.2] at m0
    rw [show [kf z, kf w].getD 1 0 = kf w from rfl, k2.2] at m1
    match t, ht, hv with
    | 0, _, hv =>
      rw [show [kf z, kf w].getD 0 0 = kf z from rfl] at hv
      rw [hv, k1.2] at m1; rw [hv]
      by_cases q : z ≤ w
      · rw [if_pos q, show z = w by omega]
      · rw [if_neg q]
    | 1, _, hv =>
      rw [show [kf z, kf w].getD 1 0 = kf w from rfl] at hv
      rw [hv, k2.2] at m0; rw [hv]
      rw [if_pos (by omega)]
theorem pmin_kf {z w : Int} (h : -9218868437227405312 ≤ z) (g : z ≤ 9218868437227405312) (h' : -9218868437227405312 ≤ w) (g' : w ≤ 9218868437227405312) : p_Min_s [kf z, kf w] = true ∧ p_Min [kf z, kf w] = kf (if w ≤ z then w else z) := by
  obtain ⟨s, m⟩ := pmin_spec (two_wd (kf_wd h g) (kf_wd h' g')) (show 2 ≤ 1000000 by omega)
  refine ⟨s, ?_⟩
  have k1 := kz_key (kz_kf h g)
  have k2 := kz_key (kz_kf h' g')
  rcases m with ⟨_, m | ⟨j, hj, m⟩⟩ | ⟨t, ht, hv, m⟩
  · cases m
  · match j, hj with
    | 0, _ => rw [show [kf z, kf w].getD 0 0 = kf z from rfl, k1.1] at m; cases m
    | 1, _ => rw [show [kf z, kf w].getD 1 0 = kf w from rfl, k2.1] at m; cases m
  · have m0 := of_decide_eq_false (m 0 (show 0 < 2 by omega)).2
    have m1 := of_decide_eq_false (m 1 (show 1 < 2 by omega)).2
    rw [show [kf z, kf w].getD 0 0 = kf z from rfl, k1.2] at m0
    rw [show [kf z, kf w].getD 1 0 = kf w from rfl, k2.2] at m1
    match t, ht, hv with
    | 0, _, hv =>
      rw [show [kf z, kf w].getD 0 0 = kf z from rfl] at hv
      rw [hv, k1.2] at m1; rw [hv]
      by_cases q : w ≤ z
      · rw [if_pos q, show z = w by omega]
      · rw [if_neg q]
    | 1, _, hv =>
      rw [show [kf z, kf w].getD 1 0 = kf w from rfl] at hv
      rw [hv, k2.2] at m0; rw [hv]
      rw [if_pos (by omega)]
def jrow (s : SP) : List Cv := [Cv.b s.empty, Cv.i s.lo, Cv.i s.hi]
def joinL (A : IV) (l : List SP) : IV := l.foldl (fun A s => joinI A (nI s)) A
theorem GI.joinL {A : IV} (hA : GI A) : ∀ {l : List SP}, (∀ s ∈ l, WS s) → GI (joinL A l)
  | [], _ => hA
  | s :: l, h => GI.joinL (GI.join hA (GI.nI (h s (by simp)))) (l := l) fun x hx => h x (by simp [hx])
theorem join_run {l : List SP} (hl : l.length ≤ 1000000) (hw : ∀ s ∈ l, WS s) (b : Bool) (c d : Int) : ∀ (m i : Nat) (A : IV), i + m = l.length → GI A →
    runL (sp_Join_L0_step (l.map jrow, ((l.map jrow).length : Int), b, c, d)) (m + 1) ((i : Int), (enc A).empty, (enc A).lo, (enc A).hi) = some ((l.length : Int), (enc (joinL A (l.drop i))).empty, (enc (joinL A (l.drop i))).lo, (enc (joinL A (l.drop i))).hi)
  | 0, i, A, hi, hA => by
    have e : i = l.length := by omega
    subst e
    rw [List.drop_length]
    exact runL_out (Tr.is_br_f (df (by rw [List.length_map]; exact Int.lt_irrefl _)) (Tr.is_leaf rfl))
  | m + 1, i, A, hi, hA => by
    have hil : i < l.length := by omega
    have e4 : IntKind.i64.wrap ((i : Int) + 1) = ((i + 1 : Nat) : Int) := wnext (by omega)
    have hd : l.drop i = l[i] :: l.drop (i + 1) := List.drop_eq_getElem_cons hil
    have hws := hw l[i] (List.getElem_mem hil)
    have hg := GI.nI hws
    have hrow : (l.map jrow).getD i [] = jrow l[i] := by
      rw [List.getD_eq_getElem?_getD, List.getElem?_map, List.getElem?_eq_getElem hil]; rfl
    have ih := join_run hl hw b c d m (i + 1) (joinI A (nI l[i])) (by omega) (GI.join hA hg)
    have hj : joinL A (l.drop i) = joinL (joinI A (nI l[i])) (l.drop (i + 1)) := by rw [hd]; rfl
    rw [hj, ← ih]
    refine runL_next ?_
    unfold sp_Join_L0_step sp_Join_L0_T
    dsimp only
    refine Tr.is_br_t (dt (by rw [List.length_map]; omega)) (Tr.is_ast (by rw [List.length_map]; simp; omega) ?_)
    rw [Int.toNat_natCast, hrow, e4]
    have hn : sp_norm (SP.mk ((jrow l[i]).headD (Cv.i 0)).bool ((jrow l[i]).tail.headD (Cv.i 0)).int ((jrow l[i]).tail.tail.headD (Cv.i 0)).int) = enc (nI l[i]) := sp_norm_spec hws
    rw [hn]
    match nI l[i], A, hg, hA with
    | none, A, hg, hA =>
      have : joinI A none = A := by cases A <;> rfl
      rw [this]; exact Tr.is_br_t rfl (Tr.is_leaf rfl)
    | some (l', h'), none, hg, hA => exact Tr.is_br_f rfl (Tr.is_br_t rfl (Tr.is_leaf rfl))
    | some (l', h'), some (l1, h1), hg, hA =>
      have p := hg _ _ rfl; have q := hA _ _ rfl
      have m1 := pmin_kf (z := l1) (w := l') (by omega) (by omega) (by omega) (by omega)
      have m2 := pmax_kf (z := h1) (w := h') (by omega) (by omega) (by omega) (by omega)
      refine Tr.is_br_f rfl (Tr.is_br_f rfl (Tr.is_ast m1.1 (Tr.is_ast m2.1 (Tr.is_leaf ?_))))
      have hmk : sp_Make (p_Min [kf l1, kf l']) (p_Max [kf h1, kf h']) = enc (joinI (some (l1, h1)) (some (l', h'))) := by
        rw [m1.2, m2.2, Make_kf (by split <;> omega) (by split <;> omega) (by split <;> omega) (by split <;> omega)]
        rw [mk_of ⟨by split <;> split <;> omega, by split <;> omega, by split <;> omega, by split <;> omega, by split <;> omega⟩]; rfl
      show Sum.inl (((i + 1 : Nat) : Int), (sp_Make (p_Min [kf l1, kf l']) (p_Max [kf h1, kf h'])).empty, (sp_Make (p_Min [kf l1, kf l']) (p_Max [kf h1, kf h'])).lo, (sp_Make (p_Min [kf l1, kf l']) (p_Max [kf h1, kf h'])).hi) = _
      rw [hmk]
theorem Join_spec {l : List SP} (hl : l.length ≤ 1000000) (hw : ∀ s ∈ l, WS s) : sp_Join_s (id (l.map jrow)) = true ∧ sp_Join (id (l.map jrow)) = enc (joinL none l) := by
  suffices h : Tr.Is (sp_Join_t (id (l.map jrow))) (enc (joinL none l)) from ⟨h.2, h.1⟩
  have hr : sp_Join_L0_r (l.map jrow, ((l.map jrow).length : Int), false, 0, 0) (0, sp_none.empty, sp_none.lo, sp_none.hi) = some ((l.length : Int), (enc (joinL none l)).empty, (enc (joinL none l)).lo, (enc (joinL none l)).hi) :=
    runB_of (join_run hl hw false 0 0 l.length 0 none (by omega) GI.nil) (by omega)
  refine Tr.is_ast (by show sp_Join_L0_ok (l.map jrow, ((l.map jrow).length : Int), false, 0, 0) (0, sp_none.empty, sp_none.lo, sp_none.hi) = true; unfold sp_Join_L0_ok; rw [hr]; rfl) (Tr.is_leaf ?_)
  have hv : sp_Join_L0_v (l.map jrow, ((l.map jrow).length : Int), false, 0, 0) (0, sp_none.empty, sp_none.lo, sp_none.hi) = ((l.length : Int), (enc (joinL none l)).empty, (enc (joinL none l)).lo, (enc (joinL none l)).hi) := by unfold sp_Join_L0_v; rw [hr]; rfl
  show SP.mk (sp_Join_L0_v (l.map jrow, ((l.map jrow).length : Int), false, 0, 0) (0, sp_none.empty, sp_none.lo, sp_none.hi)).snd.fst (sp_Join_L0_v (l.map jrow, ((l.map jrow).length : Int), false, 0, 0) (0, sp_none.empty, sp_none.lo, sp_none.hi)).snd.snd.fst (sp_Join_L0_v (l.map jrow, ((l.map jrow).length : Int), false, 0, 0) (0, sp_none.empty, sp_none.lo, sp_none.hi)).snd.snd.snd = _
  rw [hv]
theorem Join2 {a b : SP} (ha : WS a) (hb : WS b) : sp_Join_s (id [jrow a, jrow b]) = true ∧ sp_Join (id [jrow a, jrow b]) = enc (joinI (nI a) (nI b)) := by
  have h := Join_spec (l := [a, b]) (by show 2 ≤ 1000000; omega) (fun s hs => by
    rcases List.mem_cons.1 hs with e | hs
    · subst e; exact ha
    · rcases List.mem_cons.1 hs with e | hs
      · subst e; exact hb
      · cases hs)
  exact h
theorem Meet_is {a b : SP} {A B : IV} (hA : GI A) (hB : GI B) (ha : sp_norm a = enc A) (hb : sp_norm b = enc B) : sp_Meet_s a b = true ∧ sp_Meet a b = enc (meetI A B) := by
  suffices h : Tr.Is (sp_Meet_t a b) (enc (meetI A B)) from ⟨h.2, h.1⟩
  unfold sp_Meet_t sp_Meet_T; rw [ha, hb]
  match A, B with
  | none, B => exact Tr.is_br_t rfl (Tr.is_leaf rfl)
  | some (l, h), none => exact Tr.is_br_f rfl (Tr.is_br_t rfl (Tr.is_leaf rfl))
  | some (l, h), some (l', h') =>
    have p := hA _ _ rfl; have q := hB _ _ rfl
    have m1 := pmax_kf (z := l) (w := l') (by omega) (by omega) (by omega) (by omega)
    have m2 := pmin_kf (z := h) (w := h') (by omega) (by omega) (by omega) (by omega)
    refine Tr.is_br_f rfl (Tr.is_br_f rfl (Tr.is_ast m1.1 (Tr.is_ast m2.1 (Tr.is_leaf ?_))))
    show sp_Make (p_Max [kf l, kf l']) (p_Min [kf h, kf h']) = _
    rw [m1.2, m2.2, Make_kf (by split <;> omega) (by split <;> omega) (by split <;> omega) (by split <;> omega)]; rfl
theorem neg_kf {z : Int} (h : -9218868437227405312 ≤ z) (g : z ≤ 9218868437227405312) : Wd (p_Neg (kf z)) ∧ kz (p_Neg (kf z)) = some (-z) ∧ r16_minus (kf z) = p_Neg (kf z) := by
  unfold kf
  have e : p_Neg (fl (decide (z < 0)) z.natAbs) = fl (!decide (z < 0)) z.natAbs := neg_fl (by omega)
  refine ⟨by rw [e]; exact fl_wd (by omega), ?_, ?_⟩
  · rw [e, kz_fl (by omega)]
    congr 1
    by_cases h : z < 0
    · rw [dt h]; simp only [ky, Bool.not_true, Bool.false_eq_true, if_false]; omega
    · rw [df h]; simp only [ky, Bool.not_false, if_true]; omega
  · rw [e]; exact xor_neg (by omega)
theorem Neg_is {a : SP} {A : IV} (hA : GI A) (ha : sp_norm a = enc A) : sp_Neg a = enc (negI A) := by
  suffices h : Tr.Is (sp_Neg_t a) (enc (negI A)) from h.1
  unfold sp_Neg_t sp_Neg_T; rw [ha]
  match A with
  | none => exact Tr.is_br_t rfl (Tr.is_leaf rfl)
  | some (l, h) =>
    have p := hA _ _ rfl
    refine Tr.is_br_f rfl (Tr.is_leaf ?_)
    show sp_Make (p_Neg (kf h)) (p_Neg (kf l)) = _
    have n1 := neg_kf (z := l) (by omega) (by omega); have n2 := neg_kf (z := h) (by omega) (by omega)
    rw [Make_kz n2.1 n1.1, n1.2.1, n2.2.1]
    show enc (mk (-h) (-l)) = _
    rw [mk_of ⟨by omega, by omega, by omega, by omega, by omega⟩]; rfl
theorem kf0 : kf 0 = 0 := rfl
theorem Abs_ws {a : SP} (ha : WS a) : sp_Abs_s a = true ∧ sp_Abs a = enc (absI (nI a)) := by
  suffices h : Tr.Is (sp_Abs_t a) (enc (absI (nI a))) from ⟨h.2, h.1⟩
  have hg := GI.nI ha
  unfold sp_Abs_t sp_Abs_T; rw [sp_norm_spec ha]
  match nI a, hg with
  | none, _ => exact Tr.is_br_t rfl (Tr.is_leaf rfl)
  | some (l, h), hg =>
    have p := hg _ _ rfl
    refine Tr.is_br_f rfl ?_
    have a1 : sp_atMost 0 (kf l) = decide (0 ≤ l) := by rw [← kf0]; exact atMost_kf (by omega) (by omega) (by omega) (by omega)
    have a2 : sp_atMost (kf h) 0 = decide (h ≤ 0) := by rw [← kf0]; exact atMost_kf (by omega) (by omega) (by omega) (by omega)
    by_cases c : 0 ≤ l
    · exact Tr.is_br_t (a1.trans (dt c)) (Tr.is_leaf (by simp only [absI, if_pos c]))
    · refine Tr.is_br_f (a1.trans (df c)) ?_
      by_cases d : h ≤ 0
      · exact Tr.is_br_t (a2.trans (dt d)) (Tr.is_leaf (by simp only [absI, if_neg c, if_pos d]; rw [Neg_is hg (norm_enc hg)]; rfl))
      · refine Tr.is_br_f (a2.trans (df d)) ?_
        have e1 : p_Neg (kf l) = kf (-l) := by
          unfold kf; rw [neg_fl (by omega), dt (by omega), df (by omega), Int.natAbs_neg]; rfl
        show Tr.Is (.ast (p_Max_s [p_Neg (kf l), kf h]) (.leaf (sp_Make 0 (p_Max [p_Neg (kf l), kf h])))) _
        have m := pmax_kf (z := -l) (w := h) (by omega) (by omega) (by omega) (by omega)
        rw [e1]
        refine Tr.is_ast m.1 (Tr.is_leaf ?_)
        rw [m.2, ← kf0, Make_kf (by omega) (by omega) (by split <;> omega) (by split <;> omega), mk_of ⟨by split <;> omega, by omega, by omega, by split <;> omega, by split <;> omega⟩]
        simp only [absI, if_neg c, if_neg d]
end Go.Fb
namespace Go.Fb
open Go.Ev
theorem insI_refl (A : IV) : insI A A = true := by
  cases A with
  | none => rfl
  | some p => show (decide (p.1 ≤ p.1) && decide (p.2 ≤ p.2)) = true; simp
theorem insI_join_l (A B : IV) : insI A (joinI A B) = true := by
  match A, B with
  | none, B => rfl
  | some (l, h), none => exact insI_refl _
  | some (l, h), some (l', h') =>
    show (decide ((if l' ≤ l then l' else l) ≤ l) && decide (h ≤ (if h ≤ h' then h' else h))) = true
    rw [dt (by split <;> omega), dt (by split <;> omega)]; rfl
theorem insI_join_r (A B : IV) : insI B (joinI A B) = true := by
  match A, B with
  | none, B => exact insI_refl _
  | some (l, h), none => rfl
  | some (l, h), some (l', h') =>
    show (decide ((if l' ≤ l then l' else l) ≤ l') && decide (h' ≤ (if h ≤ h' then h' else h))) = true
    rw [dt (by split <;> omega), dt (by split <;> omega)]; rfl
theorem insI_trans {A B C : IV} (h : insI A B = true) (g : insI B C = true) : insI A C = true := by
  match A, B, C with
  | none, _, _ => rfl
  | some _, none, _ => cases h
  | some _, some _, none => cases g
  | some (a, b), some (c, d), some (e, f) =>
    simp only [insI, Bool.and_eq_true, decide_eq_true_eq] at *; omega
theorem insI_some {l h : Int} {B : IV} (g : insI (some (l, h)) B = true) : ∃ l' h', B = some (l', h') ∧ l' ≤ l ∧ h ≤ h' := by
  match B with
  | none => cases g
  | some (l', h') => simp only [insI, Bool.and_eq_true, decide_eq_true_eq] at g; exact ⟨l', h', rfl, g⟩
theorem insI_of {l h l' h' : Int} (a : l' ≤ l) (b : h ≤ h') : insI (some (l, h)) (some (l', h')) = true := by
  simp only [insI, Bool.and_eq_true, decide_eq_true_eq]; exact ⟨a, b⟩
theorem ninf_kf : (18442240474082181120 : Int) = kf (-9218868437227405312) := rfl
theorem pinf_kf : (9218868437227405312 : Int) = kf 9218868437227405312 := rfl
end Go.Fb
