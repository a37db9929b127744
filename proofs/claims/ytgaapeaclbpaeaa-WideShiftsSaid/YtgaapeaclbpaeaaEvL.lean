/- Loops by the step of their round: templates of states, and the loop theorem. Holds for every program of the model. -/
import Derived.Test.YtgaapeaclbpaeaaEvJ
namespace Go.Ev
open Go.RowKit

variable {P : Program} {C : Ctx} {B : Nat} {w0 : World}

/-! ### Loops by the step of their round: what a state holds, as a row of payloads -/
inductive Pv where
  | i (n : Int)
  | b (x : Bool)
  | n (x : Nat)
  | il (l : List Int)
  | bl (l : List Bool)
  | cl (l : List (List Value))
  | rl (l : List (List Cv))
  | s (l : List UInt8)
/-- the shape of a scalar, or of a cell; keys are the shape's own -/
inductive Sh where
  | int (k : IntKind)
  | bool
  | veci (fr : Bool) (k : IntKind)
  | vecb (fr : Bool)
  | vecl (fr : Bool) (wd : Nat)
  | vecr (fr : Bool) (ks : List Ct)
  | str
  | pvi (k : IntKind)
  | pvb
  | ptr (key off : Nat)
  | clo (f : FuncId) (caps : List Nat)
  | own (key : Nat)
  | sub (key wd : Nat)
  | sl (key : Nat)
  | fnv (id : Nat)
  | nil
  | any
/-- the shape of a block -/
inductive Hs where
  | cells (e : TypeId) (l : List Sh)
  | growi (e : TypeId) (k : IntKind)
  | growb (e : TypeId)
structure Tm where
  slots : List (Option (Bool × List Sh))
  heap : List Hs
  /-- is the first block lent? -/
  lent : Bool

/-- the shape's keys, and the state's -/
abbrev Ren := List (Nat × Nat)
def lk : Ren → Nat → Option Nat
  | [], _ => none
  | (a, b) :: r, k => cond (Nat.beq a k) (some b) (lk r k)
def isK (ren : Ren) (k k' : Nat) : Bool := match lk ren k with
  | some x => Nat.beq x k'
  | none => false
def isKs (ren : Ren) : List Nat → List Nat → Bool
  | [], [] => true
  | k :: l, k' :: l' => isK ren k k' && isKs ren l l'
  | _, _ => false
def noK (ren : Ren) (n k : Nat) : Bool := match lk ren k with
  | some _ => false
  | none => decide (k < n)
theorem isK_spec {ren : Ren} {k k' : Nat} (h : isK ren k k' = true) : lk ren k = some k' := by
  unfold isK at h
  split at h
  · rename_i x hx; rw [hx, Nat.eq_of_beq_eq_true h]
  · cases h
theorem noK_spec {ren : Ren} {n k : Nat} (h : noK ren n k = true) : lk ren k = none ∧ k < n := by
  unfold noK at h
  split at h
  · cases h
  · rename_i hx; exact ⟨hx, of_decide_eq_true h⟩
def Env.ren (E : Env) (ren : Ren) (n : Nat) : Env :=
  { E with A := fun b => E.A b ∧ ∃ k k', lk ren k = some k' ∧ E.blk k' = some b, β := fun k => (lk ren k).bind E.β, σ := fun k => match lk ren k with
    | some k' => E.σ k'
    | none => if k < n then some (.slice none 0 0) else none }
theorem Env.ren_β {E : Env} {ren : Ren} {n k k' : Nat} (h : lk ren k = some k') : (E.ren ren n).β k = E.β k' := by simp [Env.ren, h]
theorem Env.ren_σ {E : Env} {ren : Ren} {n k k' : Nat} (h : lk ren k = some k') : (E.ren ren n).σ k = E.σ k' := by simp [Env.ren, h]
theorem VecAt.sub {E E' : Env} {w : World} {fr fr' : Bool} {xs : VL} {v : Value} (h : VecAt E w fr xs v) (hA : ∀ b, E'.A b → E.A b) (hF : E'.F = E.F) (hf : fr' = true → fr = true) : VecAt E' w fr' xs v :=
  (VecG.mono h (fun b _ hb => ⟨fun h => hb.1 (hA b h), fun e => by rw [hF]; exact hb.2 (hf e)⟩) (Nat.le_refl _) (fun _ _ _ _ h => h)).flag
theorem PvcR.sub {E E' : Env} {w : World} {xs : VL} {v : Value} (h : PvcR E w xs v) (hA : ∀ b, E'.A b → E.A b) (hF : E'.F = E.F) : PvcR E' w xs v := by
  obtain ⟨b, off, u, rfl, h1, h2, h3, h4⟩ := h
  exact ⟨b, off, u, rfl, fun h => h1 (hA b h), h2, h3, VecAt.sub h4 hA hF id⟩
theorem Env.ren_A {E : Env} {ren : Ren} {n : Nat} : ∀ b, (E.ren ren n).A b → E.A b := fun _ h => h.1
abbrev Hp := List (Option (Option Blk))
def Hp.at (h : Hp) (k : Nat) : Option Blk := (h[k]?).join.join
theorem Hp.at_some {l : Hp} {k : Nat} {b : Blk} (h : l.at k = some b) : l[k]? = some (some (some b)) := by
  unfold Hp.at at h
  cases h1 : l[k]? with
  | none => rw [h1] at h; cases h
  | some x =>
    rw [h1] at h
    cases x with
    | none => cases h
    | some y => cases y with
      | none => cases h
      | some z => cases h; rfl
def noV (ren : Ren) (k' : Nat) : Bool := ren.all fun p => !Nat.beq p.2 k'
/-- different keys, below n, of blocks that are there -/
def Ren.ok (n : Nat) (h : Hp) : Ren → Bool
  | [] => true
  | (a, b) :: r => decide (a < n) && ((h.at b).isSome && (noV r b && Ren.ok n h r))
theorem lk_mem : ∀ {ren : Ren} {k k'}, lk ren k = some k' → (k, k') ∈ ren
  | [], k, k', h => by cases h
  | (a, b) :: r, k, k', h => by
    simp only [lk] at h
    cases hb : Nat.beq a k with
    | true => rw [hb] at h; cases h; rw [Nat.eq_of_beq_eq_true hb]; simp
    | false => rw [hb] at h; exact List.mem_cons_of_mem _ (lk_mem h)
theorem noV_spec {ren : Ren} {k' : Nat} (h : noV ren k' = true) {k j : Nat} (hl : lk ren k = some j) : j ≠ k' := fun e => by
  have := List.all_eq_true.1 h _ (lk_mem hl)
  simp [e] at this
theorem Ren.ok_spec {n : Nat} {h : Hp} : ∀ {ren : Ren}, Ren.ok n h ren = true → (∀ {k k'}, lk ren k = some k' → k < n ∧ ∃ b, h[k']? = some (some (some b))) ∧ ∀ {k1 k2 k'}, lk ren k1 = some k' → lk ren k2 = some k' → k1 = k2
  | [], _ => ⟨fun {k k'} (hh : (none : Option Nat) = some k') => (nomatch hh), fun {k1 k2 k'} (hh : (none : Option Nat) = some k') _ => (nomatch hh)⟩
  | (a, b) :: r, ho => by
    simp only [Ren.ok, Bool.and_eq_true, decide_eq_true_eq] at ho
    obtain ⟨h1, h2⟩ := Ren.ok_spec ho.2.2.2
    refine ⟨fun {k k'} hl => ?_, fun {k1 k2 k'} l1 l2 => ?_⟩
    · simp only [lk] at hl
      cases hb : Nat.beq a k with
      | true =>
        rw [hb] at hl; cases hl
        obtain ⟨x, hx⟩ := Option.isSome_iff_exists.1 ho.2.1
        exact ⟨by rw [← Nat.eq_of_beq_eq_true hb]; exact ho.1, x, Hp.at_some hx⟩
      | false => rw [hb] at hl; exact h1 hl
    · simp only [lk] at l1 l2
      cases hb1 : Nat.beq a k1 <;> cases hb2 : Nat.beq a k2 <;> rw [hb1] at l1 <;> rw [hb2] at l2 <;> simp only [cond_true, cond_false] at l1 l2
      · exact h2 l1 l2
      · cases l2; exact absurd rfl (noV_spec ho.2.2.1 l1)
      · cases l1; exact absurd rfl (noV_spec ho.2.2.1 l2)
      · rw [← Nat.eq_of_beq_eq_true hb1, ← Nat.eq_of_beq_eq_true hb2]
/-- what is known of the state that is renamed -/
structure Kn (C : Ctx) (E : Env) (w : World) (h : Hp) : Prop where
  AF : ∀ n, E.A n → E.F n
  heap : ∀ k b, h[k]? = some (some (some b)) → BlkR C E w k b
  inj : ∀ k k' b b' n, h[k]? = some (some (some b)) → h[k']? = some (some (some b')) → E.blk k = some n → E.blk k' = some n → k = k'
/-- goes over to the renamed state -/
def SV.to (ren : Ren) (n : Nat) (h : Hp) (a b : SV) : Prop := Ren.ok n h ren = true → ∀ C E w v, Kn C E w h → SV.rel C E w a v → SV.rel C (E.ren ren n) w b v
theorem frz {ren : Ren} {n : Nat} {h : Hp} (ho : Ren.ok n h ren = true) {C E w} (hk : Kn C E w h) {k' : Nat} {e : TypeId} {xs : VL} (hb : h[k']? = some (some (some (.grow e xs)))) (hn : noV ren k' = true) {b : Nat} (hv : E.blk k' = some b) : ¬ (E.ren ren n).A b := by
  rintro ⟨_, k, j, hl, hj⟩
  obtain ⟨_, x, hx⟩ := (Ren.ok_spec ho).1 hl
  exact noV_spec hn hl (hk.inj j k' x _ b hx hb hj hv)
theorem frz_own {ren : Ren} {n : Nat} {h : Hp} (ho : Ren.ok n h ren = true) {C E w} (hk : Kn C E w h) {k' : Nat} {e : TypeId} {xs : VL} (hb : h[k']? = some (some (some (.grow e xs)))) (hn : noV ren k' = true) {v : Value} (hv : SV.rel C E w (.own k') v) (fr : Bool) : VecAt (E.ren ren n) w fr xs v := by
  obtain ⟨u, hu, hβ, hg, hf, how⟩ := hk.heap _ _ hb
  have := hv.1
  rw [hu] at this; cases this
  exact own_G hf how fun m hm => ⟨frz ho hk hb hn (by simp [Env.blk, hβ, hu, hm]), fun _ => hk.AF m (hg m hm)⟩
theorem frz_sub {ren : Ren} {n : Nat} {h : Hp} (ho : Ren.ok n h ren = true) {C E w} (hk : Kn C E w h) {k' : Nat} {e : TypeId} {xs : VL} (hb : h[k']? = some (some (some (.grow e xs)))) (hn : noV ren k' = true) {lo len : Nat} {v : Value} (hv : SV.rel C E w (.sub k' xs.wd lo len) v) (fr : Bool) : VecAt (E.ren ren n) w fr (xs.cut lo len) v := by
  obtain ⟨u, hu, hβ, hg, hf, how⟩ := hk.heap _ _ hb
  exact sub_G hf hu how rfl hv fun m hm => ⟨frz ho hk hb hn (by simp [Env.blk, hβ, hu, hm]), fun _ => hk.AF m (hg m hm)⟩

def Sh.dec (ren : Ren) (m : Nat) (h : Hp) : Sh → SV → Option (List Pv)
  | .int k, .int k' n => cond (decide (k = k')) (some [.i n]) none
  | .bool, .bool b => some [.b b]
  | .veci fr k, .vec fr' (.int k' l) => cond (decide (fr = true → fr' = true) && decide (k = k')) (some [.il l]) none
  | .vecb fr, .vec fr' (.bool l) => cond (decide (fr = true → fr' = true)) (some [.bl l]) none
  | .vecl fr wd, .vec fr' (.lit wd' l) => cond (fr == fr' && Nat.beq wd wd') (some [.cl l]) none
  | .vecr fr ks, .vec fr' (.row ks' l) => cond (fr == fr' && decide (ks = ks')) (some [.rl l]) none
  | .pvi k, .pvc (.int k' l) => cond (decide (k = k')) (some [.il l]) none
  | .pvb, .pvc (.bool l) => some [.bl l]
  | .ptr k o, .ptr k' o' => cond (isK ren k k' && Nat.beq o o') (some []) none
  | .clo f l, .clo f' l' => cond (isKs ren l l' && Nat.beq f f') (some []) none
  | .own k, .own k' => cond (isK ren k k') (some []) none
  | .own k, .val (.slice none 0 0) => cond (noK ren m k) (some []) none
  | .sub k wd, .sub k' wd' lo len => cond (isK ren k k' && Nat.beq wd wd') (some [.n lo, .n len]) none
  | .sl k, .sl k' off len cap => cond (isK ren k k') (some [.n off, .n len, .n cap]) none
  | .fnv i, .fnv j => cond (Nat.beq i j) (some []) none
  | .nil, .val (.slice none 0 0) => some []
  | .veci _ _, .val (.slice none 0 0) => some [.il []]
  | .vecb _, .val (.slice none 0 0) => some [.bl []]
  | .veci _ k, .own k' => match h.at k' with
    | some (.grow _ (.int kd l)) => cond (decide (kd = k) && noV ren k') (some [.il l]) none
    | _ => none
  | .vecb _, .own k' => match h.at k' with
    | some (.grow _ (.bool l)) => cond (noV ren k') (some [.bl l]) none
    | _ => none
  | .veci _ k, .sub k' 1 lo n => match h.at k' with
    | some (.grow _ (.int kd l)) => cond (decide (kd = k) && noV ren k') (some [.il ((l.drop lo).take n)]) none
    | _ => none
  | .vecb _, .sub k' 1 lo n => match h.at k' with
    | some (.grow _ (.bool l)) => cond (noV ren k') (some [.bl ((l.drop lo).take n)]) none
    | _ => none
  | .any, _ => some []
  | .str, .str l => some [.s l]
  | .str, .val (.string s) => some [.s s.data.toList]
  | _, _ => none
def Sh.enc : Sh → List Pv → SV × List Pv
  | .int k, .i n :: r => (.int k n, r)
  | .bool, .b x :: r => (.bool x, r)
  | .veci fr k, .il l :: r => (.vec fr (.int k l), r)
  | .vecb fr, .bl l :: r => (.vec fr (.bool l), r)
  | .vecl fr wd, .cl l :: r => (.vec fr (.lit wd l), r)
  | .vecr fr ks, .rl l :: r => (.vec fr (.row ks l), r)
  | .pvi k, .il l :: r => (.pvc (.int k l), r)
  | .pvb, .bl l :: r => (.pvc (.bool l), r)
  | .ptr k o, r => (.ptr k o, r)
  | .clo f l, r => (.clo f l, r)
  | .own k, r => (.own k, r)
  | .sub k wd, .n lo :: .n len :: r => (.sub k wd lo len, r)
  | .sl k, .n off :: .n len :: .n cap :: r => (.sl k off len cap, r)
  | .fnv i, r => (.fnv i, r)
  | .nil, r => (.val (.slice none 0 0), r)
  | .str, .s l :: r => (.str l, r)
  | _, r => (.top, r)
theorem cond_some {α : Type} {b : Bool} {x y : α} (h : cond b (some x) none = some y) : b = true ∧ x = y := by
  cases b
  · cases h
  · cases h; exact ⟨rfl, rfl⟩
theorem isKs_spec {E : Env} {ren : Ren} {n : Nat} : ∀ {l l' : List Nat}, isKs ren l l' = true → l.map (E.ren ren n).β = l'.map E.β
  | [], [], _ => rfl
  | [], _ :: _, h => by cases h
  | _ :: _, [], h => by cases h
  | k :: l, k' :: l', h => by
    simp only [isKs, Bool.and_eq_true] at h
    simp only [List.map_cons, Env.ren_β (isK_spec h.1), isKs_spec h.2]
theorem Sh.spec {ren : Ren} {m : Nat} {h : Hp} {t : Sh} {s : SV} {l : List Pv} (hd : t.dec ren m h s = some l) (r : List Pv) : ∃ s', t.enc (l ++ r) = (s', r) ∧ SV.to ren m h s s' := by
  unfold Sh.dec at hd
  split at hd
  case h_1 =>
    obtain ⟨hc, rfl⟩ := cond_some hd
    have := of_decide_eq_true hc
    subst this
    exact ⟨_, rfl, fun _ _ _ _ _ _ hv => hv⟩
  case h_2 => cases hd; exact ⟨_, rfl, fun _ _ _ _ _ _ hv => hv⟩
  case h_3 =>
    obtain ⟨hc, rfl⟩ := cond_some hd
    simp only [Bool.and_eq_true, decide_eq_true_eq] at hc
    obtain ⟨hf, rfl⟩ := hc
    exact ⟨_, rfl, fun _ _ _ _ _ _ hv => hv.sub Env.ren_A rfl hf⟩
  case h_4 =>
    obtain ⟨hc, rfl⟩ := cond_some hd
    simp only [decide_eq_true_eq] at hc
    exact ⟨_, rfl, fun _ _ _ _ _ _ hv => hv.sub Env.ren_A rfl hc⟩
  case h_5 =>
    obtain ⟨hc, rfl⟩ := cond_some hd
    simp only [Bool.and_eq_true, beq_iff_eq, Nat.beq_eq] at hc
    obtain ⟨rfl, rfl⟩ := hc
    exact ⟨_, rfl, fun _ _ _ _ _ _ hv => hv.sub Env.ren_A rfl id⟩
  case h_6 =>
    obtain ⟨hc, rfl⟩ := cond_some hd
    simp only [Bool.and_eq_true, beq_iff_eq, decide_eq_true_eq] at hc
    obtain ⟨rfl, rfl⟩ := hc
    exact ⟨_, rfl, fun _ _ _ _ _ _ hv => hv.sub Env.ren_A rfl id⟩
  case h_7 =>
    obtain ⟨hc, rfl⟩ := cond_some hd
    have := of_decide_eq_true hc
    subst this
    exact ⟨_, rfl, fun _ _ _ _ _ _ hv => PvcR.sub hv Env.ren_A rfl⟩
  case h_8 => cases hd; exact ⟨_, rfl, fun _ _ _ _ _ _ hv => PvcR.sub hv Env.ren_A rfl⟩
  case h_9 =>
    obtain ⟨hc, rfl⟩ := cond_some hd
    simp only [Bool.and_eq_true, Nat.beq_eq] at hc
    obtain ⟨hk, rfl⟩ := hc
    refine ⟨_, rfl, fun _ C E w v _ hv => ?_⟩
    obtain ⟨b, hb, rfl⟩ := hv
    exact ⟨b, by rw [Env.ren_β (isK_spec hk), hb], rfl⟩
  case h_10 =>
    obtain ⟨hc, rfl⟩ := cond_some hd
    simp only [Bool.and_eq_true, Nat.beq_eq] at hc
    obtain ⟨hk, rfl⟩ := hc
    refine ⟨_, rfl, fun _ C E w v _ hv => ?_⟩
    obtain ⟨ns, hns, rfl⟩ := hv
    exact ⟨ns, by rw [isKs_spec hk, hns], rfl⟩
  case h_11 =>
    obtain ⟨hk, rfl⟩ := cond_some hd
    refine ⟨_, rfl, fun _ C E w v _ hv => ?_⟩
    exact ⟨by rw [Env.ren_σ (isK_spec hk)]; exact hv.1, hv.2⟩
  case h_12 =>
    obtain ⟨hk, rfl⟩ := cond_some hd
    obtain ⟨h1, h2⟩ := noK_spec hk
    refine ⟨_, rfl, fun _ C E w v _ hv => ?_⟩
    cases hv
    exact ⟨by simp [Env.ren, h1, h2], _, _, _, rfl⟩
  case h_13 =>
    obtain ⟨hc, rfl⟩ := cond_some hd
    simp only [Bool.and_eq_true, Nat.beq_eq] at hc
    obtain ⟨hk, rfl⟩ := hc
    refine ⟨_, rfl, fun _ C E w v _ hv => ?_⟩
    obtain ⟨a, cap, b, l, c, h1, h2⟩ := hv
    exact ⟨a, cap, b, l, c, by rw [Env.ren_σ (isK_spec hk)]; exact h1, h2⟩
  case h_14 =>
    obtain ⟨hk, rfl⟩ := cond_some hd
    refine ⟨_, rfl, fun _ C E w v _ hv => ?_⟩
    obtain ⟨b, hb, rfl⟩ := hv
    exact ⟨b, by rw [Env.ren_β (isK_spec hk), hb], rfl⟩
  case h_15 =>
    obtain ⟨hc, rfl⟩ := cond_some hd
    simp only [Nat.beq_eq] at hc
    subst hc
    exact ⟨_, rfl, fun _ _ _ _ _ _ hv => hv⟩
  case h_16 => cases hd; exact ⟨_, rfl, fun _ _ _ _ _ _ hv => hv⟩
  case h_17 =>
    cases hd
    refine ⟨_, rfl, fun _ C E w v _ hv => ?_⟩
    cases hv
    exact nil_G rfl
  case h_18 =>
    cases hd
    refine ⟨_, rfl, fun _ C E w v _ hv => ?_⟩
    cases hv
    exact nil_G rfl
  case h_19 =>
    split at hd
    · rename_i hb
      obtain ⟨hc, rfl⟩ := cond_some hd
      simp only [Bool.and_eq_true, decide_eq_true_eq] at hc
      obtain ⟨rfl, hn⟩ := hc
      exact ⟨_, rfl, fun ho C E w v hk hv => frz_own ho hk (Hp.at_some hb) hn hv _⟩
    · cases hd
  case h_20 =>
    split at hd
    · rename_i hb
      obtain ⟨hn, rfl⟩ := cond_some hd
      exact ⟨_, rfl, fun ho C E w v hk hv => frz_own ho hk (Hp.at_some hb) hn hv _⟩
    · cases hd
  case h_21 =>
    split at hd
    · rename_i hb
      obtain ⟨hc, rfl⟩ := cond_some hd
      simp only [Bool.and_eq_true, decide_eq_true_eq] at hc
      obtain ⟨rfl, hn⟩ := hc
      exact ⟨_, rfl, fun ho C E w v hk hv => frz_sub ho hk (Hp.at_some hb) hn hv _⟩
    · cases hd
  case h_22 =>
    split at hd
    · rename_i hb
      obtain ⟨hn, rfl⟩ := cond_some hd
      exact ⟨_, rfl, fun ho C E w v hk hv => frz_sub ho hk (Hp.at_some hb) hn hv _⟩
    · cases hd
  case h_23 => cases hd; exact ⟨_, rfl, fun _ _ _ _ _ _ _ => trivial⟩
  case h_24 => cases hd; exact ⟨_, rfl, fun _ _ _ _ _ _ hv => hv⟩
  case h_25 => cases hd; exact ⟨_, rfl, fun _ _ _ _ _ _ hv => by cases hv; rfl⟩
  case h_26 => cases hd
def decCs (ren : Ren) (m : Nat) (h : Hp) : List Sh → List SV → Option (List Pv)
  | [], [] => some []
  | t :: ts, s :: ss => match t.dec ren m h s, decCs ren m h ts ss with
    | some a, some b => some (a ++ b)
    | _, _ => none
  | _, _ => none
def encCs : List Sh → List Pv → List SV × List Pv
  | [], r => ([], r)
  | t :: ts, r => ((t.enc r).1 :: (encCs ts (t.enc r).2).1, (encCs ts (t.enc r).2).2)
theorem decCs_spec {ren : Ren} {m : Nat} {hp : Hp} : ∀ {ts : List Sh} {ss : List SV} {l : List Pv}, decCs ren m hp ts ss = some l → ∀ r, ∃ ss', encCs ts (l ++ r) = (ss', r) ∧ AllR (SV.to ren m hp) ss ss'
  | [], [], l, h, r => by cases h; exact ⟨[], rfl, AllR.nil⟩
  | [], _ :: _, l, h, r => by cases h
  | _ :: _, [], l, h, r => by cases h
  | t :: ts, s :: ss, l, h, r => by
    simp only [decCs] at h
    split at h
    · rename_i a b ha hb
      cases h
      obtain ⟨s', h1, h2⟩ := Sh.spec ha (b ++ r)
      obtain ⟨ss', h3, h4⟩ := decCs_spec hb r
      refine ⟨s' :: ss', ?_, AllR.cons h2 h4⟩
      simp only [encCs, List.append_assoc, h1, h3]
    · cases h
def decSl (ren : Ren) (m : Nat) (h : Hp) : List (Option (Bool × List Sh)) → List AV → Option (List Pv)
  | [], [] => some []
  | none :: ts, _ :: ss => decSl ren m h ts ss
  | some (g, c) :: ts, .one g' s :: ss => cond (g == g') (match decCs ren m h c s, decSl ren m h ts ss with
    | some a, some b => some (a ++ b)
    | _, _ => none) none
  | _, _ => none
def topA : AV := .one false [.top]
def encSl : List (Option (Bool × List Sh)) → List Pv → List AV × List Pv
  | [], r => ([], r)
  | none :: ts, r => (topA :: (encSl ts r).1, (encSl ts r).2)
  | some (g, c) :: ts, r => (.one g (encCs c r).1 :: (encSl ts (encCs c r).2).1, (encSl ts (encCs c r).2).2)
def AV.to (ren : Ren) (n : Nat) (h : Hp) (a b : AV) : Prop := Ren.ok n h ren = true → ∀ C E w v, Kn C E w h → AV.rel C E w a v → AV.rel C (E.ren ren n) w b v
theorem AllR.trans' {α β γ : Type} {R : α → β → Prop} {S : α → γ → Prop} {T : β → γ → Prop} {l : List α} {m : List β} {k : List γ} (h1 : AllR R l m) (h2 : AllR S l k) (h : ∀ a b c, R a b → S a c → T b c) : AllR T m k := by
  refine ⟨h1.1.symm.trans h2.1, fun i x v hx hv => ?_⟩
  have hi : i < l.length := by have := list_get_lt hx; have := h1.1; omega
  exact h l[i] x v (h1.2 i l[i] x (List.getElem?_eq_getElem hi) hx) (h2.2 i l[i] v (List.getElem?_eq_getElem hi) hv)
theorem AV.to_one {ren : Ren} {n : Nat} {hp : Hp} {g : Bool} {l l' : List SV} (h : AllR (SV.to ren n hp) l l') : AV.to ren n hp (.one g l) (.one g l') := by
  intro ho C E w v hk hr
  cases g with
  | true =>
    obtain ⟨vs, rfl, hv⟩ := hr
    exact ⟨vs, rfl, h.trans' hv fun a b c hab hac => hab ho C E w c hk hac⟩
  | false =>
    match l, l', h, hr with
    | [s], [s'], h, hr => exact h.2 0 s s' rfl rfl ho C E w v hk hr
    | [s], [], h, hr => cases h.1
    | [s], _ :: _ :: _, h, hr => cases h.1
theorem decSl_spec {ren : Ren} {m : Nat} {hp : Hp} : ∀ {ts : List (Option (Bool × List Sh))} {ss : List AV} {l : List Pv}, decSl ren m hp ts ss = some l → ∀ r, ∃ ss', encSl ts (l ++ r) = (ss', r) ∧ AllR (AV.to ren m hp) ss ss'
  | [], [], l, h, r => by cases h; exact ⟨[], rfl, AllR.nil⟩
  | [], _ :: _, l, h, r => by cases h
  | none :: _, [], l, h, r => by cases h
  | some _ :: _, [], l, h, r => by cases h
  | some (_, _) :: _, .tup _ :: _, l, h, r => by cases h
  | none :: ts, s :: ss, l, h, r => by
    obtain ⟨ss', h3, h4⟩ := decSl_spec (ts := ts) (ss := ss) h r
    exact ⟨topA :: ss', by simp only [encSl, h3], AllR.cons (fun _ _ _ _ _ _ _ => trivial) h4⟩
  | some (g, c) :: ts, .one g' s :: ss, l, h, r => by
    simp only [decSl] at h
    cases hg : (g == g') with
    | false => rw [hg] at h; cases h
    | true =>
      rw [hg] at h
      have := eq_of_beq hg
      subst this
      simp only [cond_true] at h
      split at h
      · rename_i a b ha hb
        cases h
        obtain ⟨s', h1, h2⟩ := decCs_spec ha (b ++ r)
        obtain ⟨ss', h3, h4⟩ := decSl_spec hb r
        refine ⟨.one g s' :: ss', ?_, AllR.cons (AV.to_one h2) h4⟩
        simp only [encSl, List.append_assoc, h1, h3]
      · cases h
/-- one block: the shape's key k -/
def Hs.dec (ren : Ren) (m k : Nat) (heap : List (Option (Option Blk))) : Hs → Option (List Pv)
  | .cells e c => match lk ren k with
    | some k' => match (heap[k']?).join.join with
      | some (.cells e' s) => cond (Nat.beq e e') (decCs ren m heap c s) none
      | _ => none
    | none => none
  | .growi e kd => match lk ren k with
    | some k' => match (heap[k']?).join.join with
      | some (.grow e' (.int kd' l)) => cond (Nat.beq e e' && decide (kd = kd')) (some [.il l]) none
      | _ => none
    | none => some [.il []]
  | .growb e => match lk ren k with
    | some k' => match (heap[k']?).join.join with
      | some (.grow e' (.bool l)) => cond (Nat.beq e e') (some [.bl l]) none
      | _ => none
    | none => some [.bl []]
def Hs.enc : Hs → List Pv → Blk × List Pv
  | .cells e c, r => (.cells e (encCs c r).1, (encCs c r).2)
  | .growi e k, .il l :: r => (.grow e (.int k l), r)
  | .growb e, .bl l :: r => (.grow e (.bool l), r)
  | .growi e k, r => (.grow e (.int k []), r)
  | .growb e, r => (.grow e (.bool []), r)
/-- goes over to the block of that key -/
def blkTo (ren : Ren) (n : Nat) (heap : List (Option (Option Blk))) (k : Nat) (b : Blk) : Prop :=
  (∃ k' b', lk ren k = some k' ∧ heap[k']? = some (some (some b')) ∧ (Ren.ok n heap ren = true → ∀ (C : Ctx) (E : Env) (w : World), Kn C E w heap → BlkR C E w k' b' → BlkR C (E.ren ren n) w k b)) ∨ lk ren k = none ∧ ∀ (C : Ctx) (E : Env) (w : World), k < n → BlkR C (E.ren ren n) w k b
theorem join_join {l : List (Option (Option Blk))} {k : Nat} {b : Blk} (h : (l[k]?).join.join = some b) : l[k]? = some (some (some b)) := by
  cases h1 : l[k]? with
  | none => rw [h1] at h; cases h
  | some x =>
    rw [h1] at h
    cases x with
    | none => cases h
    | some y => cases y with
      | none => cases h
      | some z => cases h; rfl
theorem Hs.spec {ren : Ren} {m k : Nat} {heap : List (Option (Option Blk))} {t : Hs} {l : List Pv} (h : t.dec ren m k heap = some l) (r : List Pv) : ∃ b, t.enc (l ++ r) = (b, r) ∧ blkTo ren m heap k b := by
  cases t with
  | cells e c =>
    simp only [Hs.dec] at h
    split at h
    · rename_i k' hk
      split at h
      · rename_i e' s hs
        cases hg : Nat.beq e e' with
        | false => rw [hg] at h; cases h
        | true =>
          rw [hg] at h
          have := Nat.eq_of_beq_eq_true hg
          subst this
          simp only [cond_true] at h
          obtain ⟨ss', h1, h2⟩ := decCs_spec h r
          refine ⟨.cells e ss', by simp only [Hs.enc, h1], .inl ⟨k', _, hk, join_join hs, fun ho C E w hK hb => ?_⟩⟩
          obtain ⟨n, hn, hA, vs, hvs, hvr, h3⟩ := hb
          exact ⟨n, by rw [Env.ren_β hk, hn], ⟨hA, k, k', hk, by simp [Env.blk, hn]⟩, vs, hvs, h2.trans' hvr fun a b c hab hac => hab ho C E w c hK hac, h3⟩
      · cases h
    · cases h
  | growi e kd =>
    simp only [Hs.dec] at h
    split at h
    · rename_i k' hk
      split at h
      · rename_i e' kd' xs hs
        obtain ⟨hc, rfl⟩ := cond_some h
        simp only [Bool.and_eq_true, Nat.beq_eq, decide_eq_true_eq] at hc
        obtain ⟨rfl, rfl⟩ := hc
        refine ⟨_, rfl, .inl ⟨k', _, hk, join_join hs, fun _ C E w _ hb => ?_⟩⟩
        obtain ⟨v, hv, hβ, hA, hfl, ho⟩ := hb
        exact ⟨v, by rw [Env.ren_σ hk, hv], by rw [Env.ren_β hk, hβ], fun n hn => ⟨hA n hn, k, k', hk, by simp [Env.blk, hβ, hv, hn]⟩, hfl, ho⟩
      · cases h
    · rename_i hk
      cases h
      refine ⟨_, rfl, .inr ⟨hk, fun C E w hkm => ⟨.slice none 0 0, by simp [Env.ren, hk, hkm], by simp [Env.ren, hk], fun n hn => (by cases hn), rfl, World.ownsRow_nil w _ e _⟩⟩⟩
  | growb e =>
    simp only [Hs.dec] at h
    split at h
    · rename_i k' hk
      split at h
      · rename_i e' xs hs
        obtain ⟨hc, rfl⟩ := cond_some h
        simp only [Nat.beq_eq] at hc
        subst hc
        refine ⟨_, rfl, .inl ⟨k', _, hk, join_join hs, fun _ C E w _ hb => ?_⟩⟩
        obtain ⟨v, hv, hβ, hA, hfl, ho⟩ := hb
        exact ⟨v, by rw [Env.ren_σ hk, hv], by rw [Env.ren_β hk, hβ], fun n hn => ⟨hA n hn, k, k', hk, by simp [Env.blk, hβ, hv, hn]⟩, hfl, ho⟩
      · cases h
    · rename_i hk
      cases h
      refine ⟨_, rfl, .inr ⟨hk, fun C E w hkm => ⟨.slice none 0 0, by simp [Env.ren, hk, hkm], by simp [Env.ren, hk], fun n hn => (by cases hn), rfl, World.ownsRow_nil w _ e _⟩⟩⟩
def decHp (ren : Ren) (m : Nat) (heap : List (Option (Option Blk))) : Nat → List Hs → Option (List Pv)
  | _, [] => some []
  | k, t :: ts => match t.dec ren m k heap, decHp ren m heap (k + 1) ts with
    | some a, some b => some (a ++ b)
    | _, _ => none
def encHp : List Hs → List Pv → List (Option (Option Blk))
  | [], _ => []
  | t :: ts, r => some (some (t.enc r).1) :: encHp ts (t.enc r).2
theorem decHp_spec {ren : Ren} {m : Nat} {heap : List (Option (Option Blk))} : ∀ {ts : List Hs} {k0 : Nat} {l : List Pv}, decHp ren m heap k0 ts = some l → (encHp ts l).length = ts.length ∧ ∀ i b, (encHp ts l)[i]? = some b → ∃ b', b = some (some b') ∧ blkTo ren m heap (k0 + i) b'
  | [], k0, l, h => by cases h; exact ⟨rfl, fun i b hb => (by simp [encHp] at hb)⟩
  | t :: ts, k0, l, h => by
    simp only [decHp] at h
    split at h
    · rename_i a b ha hb
      cases h
      obtain ⟨b0, h1, h2⟩ := Hs.spec ha b
      obtain ⟨h3, h4⟩ := decHp_spec hb
      simp only [encHp, h1]
      refine ⟨by simp [h3], fun i x hx => ?_⟩
      rcases i with _ | i
      · simp only [List.getElem?_cons_zero, Option.some.injEq] at hx
        exact ⟨b0, hx.symm, h2⟩
      · simp only [List.getElem?_cons_succ] at hx
        obtain ⟨b', h5, h6⟩ := h4 i x hx
        exact ⟨b', h5, by rw [show k0 + (i + 1) = k0 + 1 + i by omega]; exact h6⟩
    · cases h

/-! How the state's keys are found -/
def addK (k k' : Nat) (ren : Ren) : Ren := match lk ren k with
  | some _ => ren
  | none => (k, k') :: ren
def addKs : List Nat → List Nat → Ren → Ren
  | k :: l, k' :: l', ren => addKs l l' (addK k k' ren)
  | _, _, ren => ren
def Sh.find : Sh → SV → Ren → Ren
  | .ptr k _, .ptr k' _, ren => addK k k' ren
  | .clo _ l, .clo _ l', ren => addKs l l' ren
  | .own k, .own k', ren => addK k k' ren
  | .sub k _, .sub k' _ _ _, ren => addK k k' ren
  | .sl k, .sl k' _ _ _, ren => addK k k' ren
  | _, _, ren => ren
def findCs : List Sh → List SV → Ren → Ren
  | t :: ts, s :: ss, ren => findCs ts ss (t.find s ren)
  | _, _, ren => ren
def findSl : List (Option (Bool × List Sh)) → List AV → Ren → Ren
  | some (_, c) :: ts, .one _ s :: ss, ren => findSl ts ss (findCs c s ren)
  | _ :: ts, _ :: ss, ren => findSl ts ss ren
  | _, _, ren => ren
def findHp (heap : List (Option (Option Blk))) : Nat → List Hs → Ren → Ren
  | _, [], ren => ren
  | k, .cells _ c :: ts, ren => findHp heap (k + 1) ts (match lk ren k with
    | some k' => match (heap[k']?).join.join with
      | some (.cells _ s) => findCs c s ren
      | _ => ren
    | none => ren)
  | k, _ :: ts, ren => findHp heap (k + 1) ts ren
def Tm.ren (t : Tm) (s : St) : Ren := findHp s.heap 0 t.heap (findSl t.slots s.slots [])
def Tm.enc (t : Tm) (l : List Pv) : St := ⟨(encSl t.slots l).1, encHp t.heap (encSl t.slots l).2⟩
def Tm.decR (t : Tm) (s : St) (ren : Ren) : Option (List Pv) := match decSl ren t.heap.length s.heap t.slots s.slots, decHp ren t.heap.length s.heap 0 t.heap with
  | some a, some b => cond (Ren.ok t.heap.length s.heap ren && (!t.lent || isK ren 0 0)) (some (a ++ b)) none
  | _, _ => none
def Tm.dec (t : Tm) (s : St) : Option (List Pv) := t.decR s (t.ren s)

/-! ### A state of which less is known -/
def Weak (C : Ctx) (s t : St) : Prop := ∀ {B : Nat} {w0 : World} {E a w}, Rel C B w0 E s a w → ∃ E', Rel C B w0 E' t a w
theorem Rel.to {E s t a w} {ren : Ren} {n : Nat} (h : Rel C B w0 E s a w) (hs : AllR (AV.to ren n s.heap) s.slots t.slots) (hh : ∀ k b, t.heap[k]? = some b → ∃ b', b = some (some b') ∧ blkTo ren n s.heap k b') (hn : t.heap.length = n) (ho : Ren.ok n s.heap ren = true) (h0 : C.v0 = none ∨ isK ren 0 0 = true) : Rel C B w0 (E.ren ren n) t a w := by
  have hnil : ∀ {k}, lk ren k = none → (E.ren ren n).blk k = none := fun {k} hk => by
    simp only [Env.blk, Env.ren, hk, Option.bind_none]
    split <;> rfl
  have hK : Kn C E w s.heap := ⟨fun n hn => by
    rcases (h.lo n hn).1 with h1 | h1
    · exact h.ok.F n h1
    · exact h.ok.X n h1, h.heap, h.inj⟩
  refine { slots := hs.trans' h.slots fun a b c hab hac => hab ho C E w c hK hac, defers := h.defers, heap := ?_, free := ?_, lo := fun n hn => h.lo n hn.1, inj := ?_, below := h.below, base := h.base, ok := ⟨h.ok.F, h.ok.X, h.ok.eF, h.ok.eX, fun v hv => by
      rcases h0 with h0 | h0
      · rw [h0] at hv; cases hv
      · rw [Env.ren_σ (isK_spec h0)]; exact h.ok.v0 v hv⟩ }
  · intro k b hk
    obtain ⟨b', hb, hw⟩ := hh k _ hk
    cases hb
    rcases hw with ⟨k', c, _, hc, hw⟩ | ⟨_, hw⟩
    · exact hw ho C E w hK (h.heap k' c hc)
    · exact hw C E w (by have := list_get_lt hk; omega)
  · intro k hk
    have hkn : ¬ k < n := by
      rcases hk with hk | hk
      · obtain ⟨b', hb, _⟩ := hh k _ hk; cases hb
      · have := List.getElem?_eq_none_iff.1 hk; omega
    cases hl : lk ren k with
    | some k' => exact absurd ((Ren.ok_spec ho).1 hl).1 hkn
    | none => simp [Env.ren, hl, hkn]
  · intro k k' b b' m h1 h2 e1 e2
    obtain ⟨c1, hc1, w1⟩ := hh k _ h1
    obtain ⟨c2, hc2, w2⟩ := hh k' _ h2
    rcases w1 with ⟨j1, d1, l1, g1, _⟩ | ⟨l1, _⟩
    · rcases w2 with ⟨j2, d2, l2, g2, _⟩ | ⟨l2, _⟩
      · have q1 : E.blk j1 = some m := by simpa [Env.blk, Env.ren, l1] using e1
        have q2 : E.blk j2 = some m := by simpa [Env.blk, Env.ren, l2] using e2
        have := h.inj j1 j2 d1 d2 m g1 g2 q1 q2
        subst this
        exact (Ren.ok_spec ho).2 l1 l2
      · rw [hnil l2] at e2; cases e2
    · rw [hnil l1] at e1; cases e1
theorem Tm.weak {t : Tm} {s : St} {l : List Pv} (hl : C.v0 = none ∨ t.lent = true) (h : t.dec s = some l) : Weak C s (t.enc l) := by
  unfold Tm.dec at h
  generalize t.ren s = ren at h
  unfold Tm.decR at h
  split at h
  · rename_i a b ha hb
    obtain ⟨ho, rfl⟩ := cond_some h
    simp only [Bool.and_eq_true, Bool.or_eq_true, Bool.not_eq_true'] at ho
    obtain ⟨ho, ho2⟩ := ho
    obtain ⟨ss', h1, h2⟩ := decSl_spec ha b
    obtain ⟨h3, h4⟩ := decHp_spec hb
    intro B w0 E x w hr
    refine ⟨_, hr.to (ren := ren) (n := t.heap.length) (t := t.enc (a ++ b)) ?_ ?_ ?_ ho (hl.imp id fun h => ho2.resolve_left (by simp [h]))⟩
    · simp only [Tm.enc, h1]; exact h2
    · simp only [Tm.enc, h1]
      intro k c hc
      obtain ⟨b', h5, h6⟩ := h4 k c hc
      exact ⟨b', h5, by rw [Nat.zero_add] at h6; exact h6⟩
    · simp only [Tm.enc, h1]; exact h3
  · cases h

/-! ### Running rounds -/
def runL {ι ρ : Type} (step : ι → Tr (ι ⊕ ρ)) : Nat → ι → Option ρ
  | 0, _ => none
  | n + 1, i => cond (step i).safe (match (step i).val with
    | .inl j => runL step n j
    | .inr r => some r) none
/-- rounds enough -/
def runB {ι ρ : Type} (step : ι → Tr (ι ⊕ ρ)) (i : ι) : Option ρ := runL step 18446744073709551616 i
theorem runL_more {ι ρ : Type} {step : ι → Tr (ι ⊕ ρ)} : ∀ {n : Nat} {i : ι} {r : ρ}, runL step n i = some r → ∀ m, n ≤ m → runL step m i = some r
  | 0, i, r, h, m, hm => by cases h
  | n + 1, i, r, h, m, hm => by
    obtain ⟨m, rfl⟩ : ∃ k, m = k + 1 := ⟨m - 1, by omega⟩
    unfold runL at h ⊢
    cases hs : (step i).safe with
    | false => rw [hs] at h; cases h
    | true =>
      rw [hs] at h
      simp only [cond_true] at h ⊢
      split at h
      · exact runL_more h m (by omega)
      · exact h
theorem runB_of {ι ρ : Type} {step : ι → Tr (ι ⊕ ρ)} {n : Nat} {i : ι} {r : ρ} (h : runL step n i = some r) (hn : n ≤ 18446744073709551616) : runB step i = some r := runL_more h _ hn

def onT {π ι ρ : Type} (p : π) (Q : (π × ι) ⊕ (π × ρ) → Prop) : ι ⊕ ρ → Prop
  | .inl j => Q (.inl (p, j))
  | .inr r => Q (.inr (p, r))
def onO {α : Type} (Q : α → Prop) : Option α → Prop
  | some o => Q o
  | none => False
/-- a loop by its step. p: what does not change -/
theorem EW_run {c : Code} {π ι ρ : Type} {p : π} (I : π → ι → St) (Xr : ρ → X) (F : π → ρ → St) (dec : X → St → Option ((π × ι) ⊕ (π × ρ)))
    (hdecL : ∀ x s q j, dec x s = some (.inl (q, j)) → x = .nrm ∧ Weak C s (I q j))
    (hdecR : ∀ x s q r, dec x s = some (.inr (q, r)) → x = Xr r ∧ x ≠ .nrm ∧ Weak C s (F q r))
    (step : ι → Tr (ι ⊕ ρ))
    (hbody : ∀ i (Q : (π × ι) ⊕ (π × ρ) → Prop), (step i).prop (onT p Q) → EW P C B w0 c (I p i) fun x s => onO Q (dec x s))
    {n : Nat} {i : ι} {r : ρ} (h : runL step n i = some r) : EW P C B w0 (.loop c) (I p i) fun x t => x = Xr r ∧ t = F p r := by
  intro E a w hr
  refine wp_loop_ghost (fun m a w => ∃ j E, runL step m j = some r ∧ Rel C B w0 E (I p j) a w) n ⟨i, E, h, hr⟩ ?_
  rintro m a w ⟨j, E, hj, hr⟩
  cases m with
  | zero => cases hj
  | succ m =>
    unfold runL at hj
    cases hs : (step j).safe with
    | false => rw [hs] at hj; cases hj
    | true =>
      rw [hs] at hj
      simp only [cond_true] at hj
      refine wp_mono (hbody j (fun o => match o with
        | .inl (q, j') => q = p ∧ runL step m j' = some r
        | .inr (q, r') => q = p ∧ r' = r) (Tr.prop_val hs ?_) E a w hr) ?_
      · cases hv : (step j).val with
        | inl j' => rw [hv] at hj; exact ⟨rfl, hj⟩
        | inr r' => rw [hv] at hj; cases hj; exact ⟨rfl, rfl⟩
      · rintro e a' w' ⟨x, E', s', rfl, hr', h'⟩
        cases hd : dec x s' with
        | none => rw [hd] at h'; exact h'.elim
        | some o =>
          rw [hd] at h'
          match o, hd, h' with
          | .inl (q, j'), hd, h' =>
            obtain ⟨rfl, hw⟩ := hdecL x s' q j' hd
            obtain ⟨hq, hj2⟩ : q = p ∧ runL step m j' = some r := h'
            subst hq
            obtain ⟨E2, hr2⟩ := hw hr'
            exact ⟨m, by omega, j', E2, hj2, hr2⟩
          | .inr (q, r'), hd, h' =>
            obtain ⟨hx, hne, hw⟩ := hdecR x s' q r' hd
            obtain ⟨rfl, rfl⟩ : q = p ∧ r' = r := h'
            obtain ⟨E2, hr2⟩ := hw hr'
            cases x with
            | nrm => exact absurd rfl hne
            | ex id => exact ⟨.ex id, E2, F q r', rfl, hr2, hx, rfl⟩
            | ret => exact ⟨.ret, E2, F q r', rfl, hr2, hx, rfl⟩

/-! ### The three ways in which loops end -/
/-- by leaving: its state is of the head's form -/
def bkE {π ι : Type} (id : Nat) (dec : St → Option (π × ι)) (x : X) (s : St) : Option ((π × ι) ⊕ (π × ι)) := match x with
  | .nrm => (dec s).map .inl
  | .ex id' => cond (Nat.beq id id') ((dec s).map .inr) none
  | .ret => none
/-- by leaving, or by handing back -/
def bkB {π ι ρ : Type} (id : Nat) (dec : St → Option (π × ι)) (decR : St → Option ρ) (x : X) (s : St) : Option ((π × ι) ⊕ ((π × ι) ⊕ ρ)) := match x with
  | .nrm => (dec s).map .inl
  | .ex id' => cond (Nat.beq id id') ((dec s).map fun y => .inr (.inl y)) none
  | .ret => (decR s).map fun r => .inr (.inr r)
def onB {π ι ρ : Type} (p : π) (Q : (π × ι) ⊕ ((π × ι) ⊕ ρ) → Prop) : ι ⊕ (ι ⊕ ρ) → Prop
  | .inl j => Q (.inl (p, j))
  | .inr (.inl j) => Q (.inr (.inl (p, j)))
  | .inr (.inr r) => Q (.inr (.inr r))
/-- the loop's summary -/
def lsE {π ι : Type} (id : Nat) (dec : St → Option (π × ι)) (I : π → ι → St) (ok : π → ι → Bool) (v : π → ι → ι) : St → (X → St → Prop) → Prop := fun s k =>
  match dec s with
  | some (p, i) => cond (ok p i) (k (.ex id) (I p (v p i))) False
  | none => False
def lsB {π ι ρ : Type} (id : Nat) (dec : St → Option (π × ι)) (I : π → ι → St) (R : ρ → St) (ok : π → ι → Bool) (rt : π → ι → Bool) (v : π → ι → ι) (rv : π → ι → ρ) : St → (X → St → Prop) → Prop := fun s k =>
  match dec s with
  | some (p, i) => cond (ok p i) (cond (rt p i) (k .ret (R (rv p i))) (k (.ex id) (I p (v p i)))) False
  | none => False
theorem lsE_ok {c : Code} {π ι : Type} {id : Nat} {dec : St → Option (π × ι)} {I : π → ι → St} (hI : ∀ s p i, dec s = some (p, i) → Weak C s (I p i)) {step : π → ι → Tr (ι ⊕ ι)}
    (hbody : ∀ p i (Q : (π × ι) ⊕ (π × ι) → Prop), (step p i).prop (onT p Q) → EW P C B w0 c (I p i) fun x s => onO Q (bkE id dec x s))
    {ok : π → ι → Bool} {v : π → ι → ι} (hok : ∀ p i, ok p i = true → ∃ n, runL (step p) n i = some (v p i))
    {s : St} {k : X → St → Prop} (hk : lsE id dec I ok v s k) : EW P C B w0 (.loop c) s k := by
  unfold lsE at hk
  split at hk
  · rename_i p i hd
    cases ho : ok p i with
    | false => rw [ho] at hk; exact hk.elim
    | true =>
      rw [ho] at hk
      obtain ⟨n, hn⟩ := hok p i ho
      have := EW_run (C := C) (B := B) (w0 := w0) (p := p) (ρ := ι) I (fun _ => .ex id) I (bkE id dec) (fun x s q j h => by
        cases x with
        | nrm =>
          simp only [bkE, Option.map_eq_some_iff] at h
          obtain ⟨⟨q, j⟩, h1, h2⟩ := h
          cases h2
          exact ⟨rfl, hI s q j h1⟩
        | ex id' =>
          simp only [bkE] at h
          cases hb : Nat.beq id id' <;> rw [hb] at h
          · cases h
          · simp only [cond_true, Option.map_eq_some_iff] at h
            obtain ⟨_, _, h2⟩ := h
            cases h2
        | ret => cases h) (fun x s q r h => by
        cases x with
        | nrm =>
          simp only [bkE, Option.map_eq_some_iff] at h
          obtain ⟨_, _, h2⟩ := h
          cases h2
        | ex id' =>
          simp only [bkE] at h
          cases hb : Nat.beq id id' <;> rw [hb] at h
          · cases h
          · simp only [cond_true, Option.map_eq_some_iff] at h
            obtain ⟨⟨q, j⟩, h1, h2⟩ := h
            cases h2
            have := Nat.eq_of_beq_eq_true hb
            subst this
            exact ⟨rfl, fun h => (by cases h), hI s _ _ h1⟩
        | ret => cases h) (step p) (fun i Q h => hbody p i Q h) hn
      intro E a w hr
      obtain ⟨E', hr'⟩ := hI s p i hd hr
      refine wp_mono (this E' a w hr') ?_
      rintro e a' w' ⟨y, E2, t, rfl, hr2, rfl, rfl⟩
      exact ⟨_, E2, _, rfl, hr2, hk⟩
  · exact hk.elim
def bkP {π ι ρ : Type} (p : π) : (π × ι) ⊕ ((π × ι) ⊕ ρ) → (π × ι) ⊕ (π × (ι ⊕ ρ))
  | .inl y => .inl y
  | .inr (.inl (q, j)) => .inr (q, .inl j)
  | .inr (.inr r) => .inr (p, .inr r)
theorem lsB_ok {c : Code} {π ι ρ : Type} {id : Nat} {dec : St → Option (π × ι)} {decR : St → Option ρ} {I : π → ι → St} {R : ρ → St} (hI : ∀ s p i, dec s = some (p, i) → Weak C s (I p i)) (hR : ∀ s r, decR s = some r → Weak C s (R r)) {step : π → ι → Tr (ι ⊕ (ι ⊕ ρ))}
    (hbody : ∀ p i (Q : (π × ι) ⊕ ((π × ι) ⊕ ρ) → Prop), (step p i).prop (onB p Q) → EW P C B w0 c (I p i) fun x s => onO Q (bkB id dec decR x s))
    {ok : π → ι → Bool} {rt : π → ι → Bool} {v : π → ι → ι} {rv : π → ι → ρ} (hok : ∀ p i, ok p i = true → ∃ n, runL (step p) n i = some (cond (rt p i) (.inr (rv p i)) (.inl (v p i))))
    {s : St} {k : X → St → Prop} (hk : lsB id dec I R ok rt v rv s k) : EW P C B w0 (.loop c) s k := by
  unfold lsB at hk
  split at hk
  · rename_i p i hd
    cases ho : ok p i with
    | false => rw [ho] at hk; exact hk.elim
    | true =>
      rw [ho] at hk
      obtain ⟨n, hn⟩ := hok p i ho
      have := EW_run (C := C) (B := B) (w0 := w0) (p := p) (ρ := ι ⊕ ρ) I (fun o => match o with
        | .inl _ => .ex id
        | .inr _ => .ret) (fun p o => match o with
        | .inl i => I p i
        | .inr r => R r) (fun x s => (bkB id dec decR x s).map (bkP p)) (fun x s q j h => by
        obtain ⟨o, ho, h⟩ := Option.map_eq_some_iff.1 h
        cases x with
        | nrm =>
          simp only [bkB, Option.map_eq_some_iff] at ho
          obtain ⟨⟨q, j⟩, h1, rfl⟩ := ho
          cases h
          exact ⟨rfl, hI s _ _ h1⟩
        | ex id' =>
          simp only [bkB] at ho
          cases hb : Nat.beq id id' <;> rw [hb] at ho
          · cases ho
          · simp only [cond_true, Option.map_eq_some_iff] at ho
            obtain ⟨_, _, rfl⟩ := ho
            cases h
        | ret =>
          simp only [bkB, Option.map_eq_some_iff] at ho
          obtain ⟨_, _, rfl⟩ := ho
          cases h) (fun x s q r h => by
        obtain ⟨o, ho, h⟩ := Option.map_eq_some_iff.1 h
        cases x with
        | nrm =>
          simp only [bkB, Option.map_eq_some_iff] at ho
          obtain ⟨_, _, rfl⟩ := ho
          cases h
        | ex id' =>
          simp only [bkB] at ho
          cases hb : Nat.beq id id' <;> rw [hb] at ho
          · cases ho
          · simp only [cond_true, Option.map_eq_some_iff] at ho
            obtain ⟨⟨q, j⟩, h1, rfl⟩ := ho
            cases h
            have := Nat.eq_of_beq_eq_true hb
            subst this
            exact ⟨rfl, fun h => (by cases h), hI s _ _ h1⟩
        | ret =>
          simp only [bkB, Option.map_eq_some_iff] at ho
          obtain ⟨r, h1, rfl⟩ := ho
          cases h
          exact ⟨rfl, fun h => (by cases h), hR s _ h1⟩) (step p) (fun i Q h => (hbody p i (fun o => Q (bkP p o)) (by
            refine cast (congrArg (Tr.prop · (step p i)) ?_) h
            funext o
            cases o with
            | inl j => rfl
            | inr o => cases o <;> rfl)).mono fun x s h => by
              cases hb : bkB id dec decR x s with
              | none => rw [hb] at h; exact h.elim
              | some o => rw [hb] at h; exact h) hn
      intro E a w hr
      obtain ⟨E', hr'⟩ := hI s p i hd hr
      refine wp_mono (this E' a w hr') ?_
      rintro e a' w' ⟨y, E2, t, rfl, hr2, hy, ht⟩
      subst hy ht
      refine ⟨_, E2, _, rfl, hr2, ?_⟩
      simp only [cond_true] at hk
      cases hrt : rt p i <;> rw [hrt] at hk <;> exact hk
  · exact hk.elim

/-! ### Out of a template -/
theorem weak_of {π ι : Type} {tm : Tm} {of : List Pv → Option (π × ι)} {to : π → ι → List Pv} (h : ∀ l p x, of l = some (p, x) → to p x = l) {s : St} {p : π} {x : ι} (hl : C.v0 = none ∨ tm.lent = true) (hd : (tm.dec s).bind of = some (p, x)) : Weak C s (tm.enc (to p x)) := by
  obtain ⟨l, h1, h2⟩ := Option.bind_eq_some_iff.1 hd
  rw [h l p x h2]
  exact Tm.weak hl h1
theorem weak_ofR {ρ : Type} {tm : Tm} {of : List Pv → Option ρ} {to : ρ → List Pv} (h : ∀ l r, of l = some r → to r = l) {s : St} {r : ρ} (hl : C.v0 = none ∨ tm.lent = true) (hd : (tm.dec s).bind of = some r) : Weak C s (tm.enc (to r)) := by
  obtain ⟨l, h1, h2⟩ := Option.bind_eq_some_iff.1 hd
  rw [h l r h2]
  exact Tm.weak hl h1
theorem run_ok {ι ρ : Type} {step : ι → Tr (ι ⊕ ρ)} {i : ι} {d : ρ} (h : (runB step i).isSome = true) : ∃ n, runL step n i = some ((runB step i).getD d) := by
  obtain ⟨r, hr⟩ := Option.isSome_iff_exists.1 h
  exact ⟨18446744073709551616, by rw [hr]; exact hr⟩
def isR {ι ρ : Type} : Option (ι ⊕ ρ) → Bool
  | some (.inr _) => true
  | _ => false
def outL_ {ι ρ : Type} (d : ι) : Option (ι ⊕ ρ) → ι
  | some (.inl i) => i
  | _ => d
def outR_ {ι ρ : Type} (d : ρ) : Option (ι ⊕ ρ) → ρ
  | some (.inr r) => r
  | _ => d
theorem run_okB {ι ρ : Type} {step : ι → Tr (ι ⊕ (ι ⊕ ρ))} {i d : ι} {e : ρ} (h : (runB step i).isSome = true) : ∃ n, runL step n i = some (cond (isR (runB step i)) (.inr (outR_ e (runB step i))) (.inl (outL_ d (runB step i)))) := by
  obtain ⟨r, hr⟩ := Option.isSome_iff_exists.1 h
  refine ⟨18446744073709551616, ?_⟩
  rw [hr]
  cases r <;> exact hr

/-- each loop of a function has its summary -/
theorem loops_all {L : Loops} {fn : Func} {m : Nat} (hm : (fn.body.map fun c => (loopsIn c).length) = some m) (h : ∀ i, i < m → ∀ f, (rid (lp fn i)).bind L = some f → ∀ s k, f s k → EW P C B w0 (.loop (lp fn i)) s k) : ∀ c, fn.body = some c → LoopsOK P C B w0 L (loopsIn c) := by
  intro c hc d hd f hf s k hk
  rw [hc] at hm
  simp only [Option.map_some, Option.some.injEq] at hm
  obtain ⟨i, hi, rfl⟩ := List.getElem_of_mem hd
  have : lp fn i = (loopsIn c)[i] := by simp [lp, hc, List.getD, hi]
  rw [← this] at hf ⊢
  exact h i (by omega) f hf s k hk
theorem loops_nil {L : Loops} {c : Code} (h : (loopsIn c).length = 0) : LoopsOK P C B w0 L (loopsIn c) := by
  intro d hd
  rw [List.length_eq_zero_iff.1 h] at hd
  cases hd
theorem loops_cons {L : Loops} {d : Code} {l : List Code} (h : ∀ f, (rid d).bind L = some f → ∀ s k, f s k → EW P C B w0 (.loop d) s k) (t : LoopsOK P C B w0 L l) : LoopsOK P C B w0 L (d :: l) := by
  intro c hc
  rcases List.mem_cons.1 hc with rfl | hc
  · exact h
  · exact t c hc
end Go.Ev
