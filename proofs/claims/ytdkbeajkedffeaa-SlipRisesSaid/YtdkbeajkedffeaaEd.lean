/- Loops by the step of their round; rows of laws; the program's struct types. Holds for every program of the model. -/
import Derived.Test.YtdkbeajkedffeaaEc
import Derived.WalkKit
import Derived.ProofKit
import Derived.OpenShut
import Derived.Carry
import Derived.Deep.Strs
import Derived.ChangeSlices
import Derived.RangeFuncNested
import Derived.RangeFuncBound
import Derived.RangeFuncCalls
import Derived.RangeFuncLeaves
import Derived.JoinedOf
namespace Go.Ev
open Go.RowKit Go.ChangeShapes Go.WideShapes
def OpensC (P : Program) (t : TypeId) {α : Type} (cells : α → List Value) (ok : α → Prop) : Prop :=
  ∀ (H : Type) (enc : TypeId × Value → H) (W : World) (n : Nat) (cs : List Value) (x : DataW H × List MemPlace), DataW.trod enc P W 0 (fun _ => true) true n t cs = some x → ∃ y, ok y ∧ cs = cells y
def Opens (P : Program) (t : TypeId) {α : Type} (c : Cod α) (ok : α → Prop) : Prop :=
  ∀ (H : Type) (enc : TypeId × Value → H) (W : World) (base : Nat) (v : Value) (d : DataW H) (ps : List MemPlace), Value.okWide P W .any base t v → DataW.Trod enc P W 0 (fun _ => true) true t v d ps → ∃ x, ok x ∧ InR W (c.enc false x) v
def AOpens (P : Program) (ts : List TypeId) {α : Type} (A : ACod α) (ok : α → Prop) : Prop :=
  ∀ (H : Type) (enc : TypeId × Value → H) (W : World) (base : Nat) (vs : List Value) (ds : List (DataW H)) (ps : List MemPlace), (∀ (j : Nat) t v, ts[j]? = some t → vs[j]? = some v → Value.okWide P W .any base t v) →
    DataW.TrodAll enc P W 0 (fun _ => true) true ts vs ds ps → ∃ x, ok x ∧ AllR (InR W) (A.enc false x) vs
variable {P : Program}
theorem AOpens.nil : AOpens P [] aNil fun _ => True := by
  intro H enc W base vs ds ps _ h
  obtain ⟨rfl, _, _⟩ := trodAll_nil h
  exact ⟨(), trivial, AllR.nil⟩
theorem AOpens.one {t : TypeId} {α : Type} {c : Cod α} {ok : α → Prop} (h : Opens P t c ok) : AOpens P [t] (aOne c) ok := by
  intro H enc W base vs ds ps hv ht
  obtain ⟨v, vs', d, ds', p, q, rfl, rfl, rfl, hd, hr⟩ := trodAll_cons ht
  obtain ⟨rfl, _, _⟩ := trodAll_nil hr
  obtain ⟨x, hx, hin⟩ := h H enc W base v d p (hv 0 t v rfl rfl) hd
  exact ⟨x, hx, AllR.cons hin AllR.nil⟩
theorem AOpens.cons {t : TypeId} {ts : List TypeId} {α β : Type} {c : Cod α} {A : ACod β} {ok : α → Prop} {ok' : β → Prop} (h : Opens P t c ok) (h' : AOpens P ts A ok') : AOpens P (t :: ts) (aCons c A) fun x => ok x.1 ∧ ok' x.2 := by
  intro H enc W base vs ds ps hv ht
  obtain ⟨v, vs', d, ds', p, q, rfl, rfl, rfl, hd, hr⟩ := trodAll_cons ht
  obtain ⟨x, hx, hin⟩ := h H enc W base v d p (hv 0 t v rfl rfl) hd
  obtain ⟨y, hy, hin'⟩ := h' H enc W base vs' ds' q (fun j t v h1 h2 => hv (j + 1) t v h1 h2) hr
  exact ⟨(x, y), ⟨hx, hy⟩, AllR.cons hin hin'⟩
def okInt (k : IntKind) (n : Int) : Prop := (Lit.int k n).wf = true
theorem opens_int {t : TypeId} {k : IntKind} (ht : P.underlying t = some (.int k)) : Opens P t (cInt k) (okInt k) := by
  intro H enc W base v d ps hv h
  obtain ⟨n, rfl, _, _, hw⟩ := open_int ht hv h
  exact ⟨n, hw, fun C E _ => rfl⟩
theorem opensC_bool {t : TypeId} (ht : P.underlying t = some .bool) : OpensC P t (fun b => [.bool b]) fun _ => True := by
  intro H enc W n cs x h
  obtain ⟨b, rfl, _⟩ := DataW.trod_bool ht h
  exact ⟨b, trivial, rfl⟩
theorem opensC_int {t : TypeId} {k : IntKind} (ht : P.underlying t = some (.int k)) : OpensC P t (fun n => [.int k n]) (okInt k) := by
  intro H enc W n cs x h
  obtain ⟨b, rfl, _, hw⟩ := DataW.trod_int ht h
  exact ⟨b, hw, rfl⟩
theorem opensC_struct3 {t : TypeId} {f0 f1 f2 : Field} {α β γ : Type} {c0 : α → List Value} {c1 : β → List Value} {c2 : γ → List Value} {ok0 : α → Prop} {ok1 : β → Prop} {ok2 : γ → Prop} (ht : P.underlying t = some (.struct #[f0, f1, f2]))
    (h0 : OpensC P f0.type c0 ok0) (h1 : OpensC P f1.type c1 ok1) (h2 : OpensC P f2.type c2 ok2)
    (ho : f0.offset = 0 ∧ f1.offset = P.cellsOf f0.type ∧ f2.offset = P.cellsOf f0.type + P.cellsOf f1.type ∧ P.cellsOf t = P.cellsOf f0.type + P.cellsOf f1.type + P.cellsOf f2.type) :
    OpensC P t (fun x : α × β × γ => c0 x.1 ++ (c1 x.2.1 ++ c2 x.2.2)) fun x => ok0 x.1 ∧ ok1 x.2.1 ∧ ok2 x.2.2 := by
  intro H enc W n cs x h
  obtain ⟨y0, y1, y2, m, _, hl, e0, e1, e2⟩ := Go.Deep.trod_struct3 ht h
  obtain ⟨x0, k0, hc0⟩ := h0 _ _ _ _ _ _ e0
  obtain ⟨x1, k1, hc1⟩ := h1 _ _ _ _ _ _ e1
  obtain ⟨x2, k2, hc2⟩ := h2 _ _ _ _ _ _ e2
  refine ⟨(x0, x1, x2), ⟨k0, k1, k2⟩, ?_⟩
  simp only
  rw [← hc0, ← hc1, ← hc2, ho.1, ho.2.1, ho.2.2.1, List.drop_zero]
  rw [ho.2.2.2] at hl
  have : (cs.drop (P.cellsOf f0.type + P.cellsOf f1.type)).take (P.cellsOf f2.type) = cs.drop (P.cellsOf f0.type + P.cellsOf f1.type) := List.take_of_length_le (by simp; omega)
  rw [this, ← List.drop_drop, List.take_append_drop, List.take_append_drop]
theorem opens_struct {t : TypeId} {fs : Array Field} (ht : P.underlying t = some (.struct fs)) {α β : Type} {cells : α → List Value} {ok : α → Prop} (h : OpensC P t cells ok) {c : Cod β} {ok' : β → Prop} (to : α → β)
    (hc : ∀ x, c.enc false (to x) = .one true ((cells x).map fun v => match v with | .bool b => .bool b | .int k n => .int k n | v => .val v)) (hk : ∀ x, ok x → ok' (to x)) : Opens P t c ok' := by
  intro H enc W base v d ps hv hd
  obtain ⟨cs, rfl, _⟩ := okWide_struct ht hv
  obtain ⟨n, hn⟩ := hd
  obtain ⟨x, hx, hcs⟩ := h _ _ _ _ _ _ hn
  have hcs' : cs.toList = cells x := by simpa [Value.cells] using hcs
  refine ⟨to x, hk x hx, fun C E _ => ?_⟩
  rw [hc]
  refine ⟨cs, rfl, ?_⟩
  rw [hcs']
  refine ⟨by simp, fun i a b h1 h2 => ?_⟩
  rw [List.getElem?_map, h2] at h1
  simp only [Option.map_some, Option.some.injEq] at h1
  subst h1
  split <;> rfl
theorem law_post {H : Type} {enc : TypeId × Value → H} {f : Func} {s : ChangeSpec} {apart fresh handsOn again : Bool} {W W' : World} {args : Array Value} {ds gs : List (DataW H)} {before : List MemPlace}
    (hl : laidOutB P = true) (hts : ∀ t ∈ f.params.toList, P.readableRec t = true ∧ t < P.types.size) {tb : TypeId} (hrt : f.resultTypes = #[tb]) (hb : P.underlying tb = some .bool) (hvn : s.vars = [])
    (hfn : s.fn H (ds ++ gs) = { results := [.lit (.bool true)], args := ds }) (hW : DataW.Whole enc P f.params.toList s.vars apart W args.toList ds gs before) (hbel : Below W.heap.size W W') :
    s.post enc P f apart fresh handsOn again W args (.bool true) W' := by
  have hW' := hW
  obtain ⟨p, q, hA, hV, hpq, hz, hn⟩ := hW
  rw [hvn] at hV
  obtain ⟨rfl, rfl⟩ := trodVars_none hV
  rw [List.append_nil] at hpq
  subst hpq
  have hlt : ∀ x ∈ before, x.block < W.heap.size := fun x hx => by simpa using hW'.lt x hx
  have hstay : ∀ sp : Nat → Bool, (∀ x ∈ before, sp x.block = true) → DataW.TrodAll enc P W' 0 sp true f.params.toList args.toList ds before := by
    intro sp hsp
    have key : ∀ (ts : List TypeId) (vs : List Value) (ds : List (DataW H)) (ps : List MemPlace), (∀ t ∈ ts, P.readableRec t = true ∧ t < P.types.size) → DataW.TrodAll enc P W 0 (fun _ => true) true ts vs ds ps → (∀ x ∈ ps, x.block < W.heap.size) → (∀ x ∈ ps, sp x.block = true) →
        DataW.TrodAll enc P W' 0 sp true ts vs ds ps := by
      intro ts
      induction ts with
      | nil => intro vs ds ps _ h _ _; obtain ⟨rfl, rfl, rfl⟩ := trodAll_nil h; exact trodAll_mk0
      | cons t ts ih =>
        intro vs ds ps hts h hlt hsp
        obtain ⟨v, vs', d, ds', p, q, rfl, rfl, rfl, hd, hr⟩ := trodAll_cons h
        refine trodAll_cons_mk (WideElems.Trod_stays hl (hts t (by simp)).1 (hts t (by simp)).2 hd (fun x hx => hbel.same (hlt x (by simp [hx]))) (fun x hx => hsp x (by simp [hx]))) ?_
        exact ih _ _ _ (fun t ht => hts t (by simp [ht])) hr (fun x hx => hlt x (by simp [hx])) (fun x hx => hsp x (by simp [hx]))
    exact key _ _ _ _ hts hA hlt hsp
  have hres : ∀ (b : Nat) (sp : Nat → Bool) (hd : Bool), DataW.TrodAll enc P W' b sp hd f.resultTypes.toList ((Value.bool true).resultList f.resultTypes.size) (s.fn H (ds ++ [])).results [] := by
    intro b sp hd
    rw [hfn, hrt]
    exact trodAll_cons_mk (shut_bool hb true) trodAll_mk0
  have hargs : ∀ sp : Nat → Bool, (∀ x ∈ before, sp x.block = true) → DataW.TrodAll enc P W' 0 sp true f.params.toList args.toList (s.fn H (ds ++ [])).args before := by
    intro sp hsp
    rw [hfn]
    exact hstay sp hsp
  have hvars : ∀ sp : Nat → Bool, DataW.TrodVars enc P W' sp s.vars (s.fn H (ds ++ [])).vars [] := by
    intro sp
    rw [hvn, hfn]
    exact rfl
  refine ⟨ds, [], before, [], before, [], hW', hres _ _ _, hargs _ (fun x hx => by simpa using hlt x hx), hvars _, hbel.frame _, fun _ => ?_⟩
  refine ⟨ok_one hrt rfl (okWide_bool_mk hb true), _, _, ([] ++ before) ++ [], ⟨[] ++ before, [], trodAll_append (hargs _ (fun _ _ => rfl)) (hres _ _ _), hvars _, rfl, ?_, ?_⟩, ?_⟩
  · intro b off hp
    have hp' : MemPlace.cell b off ∈ before := by simpa using hp
    rw [hbel.frozen (p := ⟨b, off, none⟩) (hlt _ hp')]
    exact hz b off hp'
  · intro ha
    simpa using hn ha
  · intro p hp _
    simpa using hp
theorem law_contract {H : Type} {enc : TypeId × Value → H} {f : Func} {fid : FuncId} {s : ChangeSpec} {apart fresh handsOn again : Bool} {α : Type} {A : ACod α} {ok : α → Prop} (hA : AOpens P f.params.toList A ok)
    (hc : ∀ x, ok x → ∀ w vs, ArgsR (A.enc false x) w vs → Calls P fid vs w (Ans ((o1 cBool).enc true) w))
    (hl : laidOutB P = true) (hts : (f.params.toList.all fun t => P.readableRec t && decide (t < P.types.size)) = true) {tb : TypeId} (hrt : f.resultTypes = #[tb]) (hb : P.underlying tb = some .bool) (hvn : s.vars = [])
    (hfn : ∀ ds : List (DataW H), ds.length = f.params.size → s.fn H ds = { results := [.lit (.bool true)], args := ds })
    {W : World} {base : Nat} {args : Array Value} {ds gs : List (DataW H)} {before : List MemPlace} (hval : ∀ (j : Nat) t v, f.params[j]? = some t → args[j]? = some v → Value.okWide P W .any base t v)
    (hW : DataW.Whole enc P f.params.toList s.vars apart W args.toList ds gs before) :
    Calls P fid args W fun e W' => ∃ v, e = .returned v ∧ s.post enc P f apart fresh handsOn again W args v W' := by
  have hW' := hW
  obtain ⟨p, q, hA0, hV, hpq, hz, hn⟩ := hW
  rw [hvn] at hV
  obtain ⟨rfl, rfl⟩ := trodVars_none hV
  obtain ⟨x, hx, hin⟩ := hA H enc W base args.toList ds p (fun j t v h1 h2 => hval j t v (by simpa using h1) (by simpa using h2)) hA0
  have hlen : ∀ (ts : List TypeId) (vs : List Value) (ds : List (DataW H)) (ps : List MemPlace), DataW.TrodAll enc P W 0 (fun _ => true) true ts vs ds ps → ds.length = ts.length := by
    intro ts
    induction ts with
    | nil => intro vs ds ps h; obtain ⟨rfl, rfl, rfl⟩ := trodAll_nil h; rfl
    | cons t ts ih =>
      intro vs ds ps h
      obtain ⟨v, vs', d, ds', p, q, rfl, rfl, rfl, hd, hr⟩ := trodAll_cons h
      simp [ih _ _ _ hr]
  refine (hc x hx W args hin).mono ?_
  rintro e W' ⟨v, rfl, hv, hb'⟩
  have : v = .bool true := hv (mkC [] fun _ => True) (ES fun _ => True) (fun n h => ⟨fun h => h, fun _ => trivial⟩)
  subst this
  refine ⟨_, rfl, law_post hl (fun t ht => ?_) hrt hb hvn ?_ hW' hb'⟩
  · have := List.all_eq_true.1 hts t ht
    simpa using this
  · rw [List.append_nil]
    exact hfn ds (by simpa using hlen _ _ _ _ hA0)
end Go.Ev
namespace Go.Ev
open Go.RowKit
variable {P : Program} {C : Ctx} {B : Nat} {w0 : World}
inductive Pv where
  | i (n : Int)
  | b (x : Bool)
  | n (x : Nat)
  | il (l : List Int)
  | bl (l : List Bool)
  | cl (l : List (List Value))
  | rl (l : List (List Cv))
  | s (l : List UInt8)
inductive Sh where
  | int (k : IntKind)
  | bool
  | veci (fr : Bool) (k : IntKind)
  | vecb (fr : Bool)
  | vecl (fr : Bool) (wd : Nat)
  | vecr (fr : Bool) (ks : List Ct)
  | str
  | pvi (k : IntKind)
  | pvb
  | ptr (key off : Nat)
  | clo (f : FuncId) (caps : List Nat)
  | own (key : Nat)
  | sub (key wd : Nat)
  | sl (key : Nat)
  | fnv (id : Nat)
  | nil
  | any
inductive Hs where
  | cells (e : TypeId) (l : List Sh)
  | growi (e : TypeId) (k : IntKind)
  | growb (e : TypeId)
structure Tm where
  slots : List (Option (Bool × List Sh))
  heap : List Hs
  /-- is the first block lent? -/
  lent : Bool
abbrev Ren := List (Nat × Nat)
def lk : Ren → Nat → Option Nat
  | [], _ => none
  | (a, b) :: r, k => cond (Nat.beq a k) (some b) (lk r k)
def isK (ren : Ren) (k k' : Nat) : Bool := match lk ren k with
  | some x => Nat.beq x k'
  | none => false
def isKs (ren : Ren) : List Nat → List Nat → Bool
  | [], [] => true
  | k :: l, k' :: l' => isK ren k k' && isKs ren l l'
  | _, _ => false
def noK (ren : Ren) (n k : Nat) : Bool := match lk ren k with
  | some _ => false
  | none => decide (k < n)
theorem isK_spec {ren : Ren} {k k' : Nat} (h : isK ren k k' = true) : lk ren k = some k' := by
  unfold isK at h
  split at h
  · rename_i x hx; rw [hx, Nat.eq_of_beq_eq_true h]
  · cases h
theorem noK_spec {ren : Ren} {n k : Nat} (h : noK ren n k = true) : lk ren k = none ∧ k < n := by
  unfold noK at h
  split at h
  · cases h
  · rename_i hx; exact ⟨hx, of_decide_eq_true h⟩
def Env.ren (E : Env) (ren : Ren) (n : Nat) : Env :=
  { E with A := fun b => E.A b ∧ ∃ k k', lk ren k = some k' ∧ E.blk k' = some b, β := fun k => (lk ren k).bind E.β, σ := fun k => match lk ren k with
    | some k' => E.σ k'
    | none => if k < n then some (.slice none 0 0) else none }
theorem Env.ren_β {E : Env} {ren : Ren} {n k k' : Nat} (h : lk ren k = some k') : (E.ren ren n).β k = E.β k' := by simp [Env.ren, h]
theorem Env.ren_σ {E : Env} {ren : Ren} {n k k' : Nat} (h : lk ren k = some k') : (E.ren ren n).σ k = E.σ k' := by simp [Env.ren, h]
theorem VecAt.sub {E E' : Env} {w : World} {fr fr' : Bool} {xs : VL} {v : Value} (h : VecAt E w fr xs v) (hA : ∀ b, E'.A b → E.A b) (hF : E'.F = E.F) (hf : fr' = true → fr = true) : VecAt E' w fr' xs v :=
  (VecG.mono h (fun b _ hb => ⟨fun h => hb.1 (hA b h), fun e => by rw [hF]; exact hb.2 (hf e)⟩) (Nat.le_refl _) (fun _ _ _ _ h => h)).flag
theorem PvcR.sub {E E' : Env} {w : World} {xs : VL} {v : Value} (h : PvcR E w xs v) (hA : ∀ b, E'.A b → E.A b) (hF : E'.F = E.F) : PvcR E' w xs v := by
  obtain ⟨b, off, u, rfl, h1, h2, h3, h4⟩ := h
  exact ⟨b, off, u, rfl, fun h => h1 (hA b h), h2, h3, VecAt.sub h4 hA hF id⟩
theorem Env.ren_A {E : Env} {ren : Ren} {n : Nat} : ∀ b, (E.ren ren n).A b → E.A b := fun _ h => h.1
abbrev Hp := List (Option (Option Blk))
def Hp.at (h : Hp) (k : Nat) : Option Blk := (h[k]?).join.join
theorem Hp.at_some {l : Hp} {k : Nat} {b : Blk} (h : l.at k = some b) : l[k]? = some (some (some b)) := by
  unfold Hp.at at h
  cases h1 : l[k]? with
  | none => rw [h1] at h; cases h
  | some x =>
    rw [h1] at h
    cases x with
    | none => cases h
    | some y => cases y with
      | none => cases h
      | some z => cases h; rfl
def noV (ren : Ren) (k' : Nat) : Bool := ren.all fun p => !Nat.beq p.2 k'
def Ren.ok (n : Nat) (h : Hp) : Ren → Bool
  | [] => true
  | (a, b) :: r => decide (a < n) && ((h.at b).isSome && (noV r b && Ren.ok n h r))
theorem lk_mem : ∀ {ren : Ren} {k k'}, lk ren k = some k' → (k, k') ∈ ren
  | [], k, k', h => by cases h
  | (a, b) :: r, k, k', h => by
    simp only [lk] at h
    cases hb : Nat.beq a k with
    | true => rw [hb] at h; cases h; rw [Nat.eq_of_beq_eq_true hb]; simp
    | false => rw [hb] at h; exact List.mem_cons_of_mem _ (lk_mem h)
theorem noV_spec {ren : Ren} {k' : Nat} (h : noV ren k' = true) {k j : Nat} (hl : lk ren k = some j) : j ≠ k' := fun e => by
  have := List.all_eq_true.1 h _ (lk_mem hl)
  simp [e] at this
theorem Ren.ok_spec {n : Nat} {h : Hp} : ∀ {ren : Ren}, Ren.ok n h ren = true → (∀ {k k'}, lk ren k = some k' → k < n ∧ ∃ b, h[k']? = some (some (some b))) ∧ ∀ {k1 k2 k'}, lk ren k1 = some k' → lk ren k2 = some k' → k1 = k2
  | [], _ => ⟨fun {k k'} (hh : (none : Option Nat) = some k') => (nomatch hh), fun {k1 k2 k'} (hh : (none : Option Nat) = some k') _ => (nomatch hh)⟩
  | (a, b) :: r, ho => by
    simp only [Ren.ok, Bool.and_eq_true, decide_eq_true_eq] at ho
    obtain ⟨h1, h2⟩ := Ren.ok_spec ho.2.2.2
    refine ⟨fun {k k'} hl => ?_, fun {k1 k2 k'} l1 l2 => ?_⟩
    · simp only [lk] at hl
      cases hb : Nat.beq a k with
      | true =>
        rw [hb] at hl; cases hl
        obtain ⟨x, hx⟩ := Option.isSome_iff_exists.1 ho.2.1
        exact ⟨by rw [← Nat.eq_of_beq_eq_true hb]; exact ho.1, x, Hp.at_some hx⟩
      | false => rw [hb] at hl; exact h1 hl
    · simp only [lk] at l1 l2
      cases hb1 : Nat.beq a k1 <;> cases hb2 : Nat.beq a k2 <;> rw [hb1] at l1 <;> rw [hb2] at l2 <;> simp only [cond_true, cond_false] at l1 l2
      · exact h2 l1 l2
      · cases l2; exact absurd rfl (noV_spec ho.2.2.1 l1)
      · cases l1; exact absurd rfl (noV_spec ho.2.2.1 l2)
      · rw [← Nat.eq_of_beq_eq_true hb1, ← Nat.eq_of_beq_eq_true hb2]
structure Kn (C : Ctx) (E : Env) (w : World) (h : Hp) : Prop where
  AF : ∀ n, E.A n → E.F n
  heap : ∀ k b, h[k]? = some (some (some b)) → BlkR C E w k b
  inj : ∀ k k' b b' n, h[k]? = some (some (some b)) → h[k']? = some (some (some b')) → E.blk k = some n → E.blk k' = some n → k = k'
def SV.to (ren : Ren) (n : Nat) (h : Hp) (a b : SV) : Prop := Ren.ok n h ren = true → ∀ C E w v, Kn C E w h → SV.rel C E w a v → SV.rel C (E.ren ren n) w b v
theorem frz {ren : Ren} {n : Nat} {h : Hp} (ho : Ren.ok n h ren = true) {C E w} (hk : Kn C E w h) {k' : Nat} {e : TypeId} {xs : VL} (hb : h[k']? = some (some (some (.grow e xs)))) (hn : noV ren k' = true) {b : Nat} (hv : E.blk k' = some b) : ¬ (E.ren ren n).A b := by
  rintro ⟨_, k, j, hl, hj⟩
  obtain ⟨_, x, hx⟩ := (Ren.ok_spec ho).1 hl
  exact noV_spec hn hl (hk.inj j k' x _ b hx hb hj hv)
theorem frz_own {ren : Ren} {n : Nat} {h : Hp} (ho : Ren.ok n h ren = true) {C E w} (hk : Kn C E w h) {k' : Nat} {e : TypeId} {xs : VL} (hb : h[k']? = some (some (some (.grow e xs)))) (hn : noV ren k' = true) {v : Value} (hv : SV.rel C E w (.own k') v) (fr : Bool) : VecAt (E.ren ren n) w fr xs v := by
  obtain ⟨u, hu, hβ, hg, hf, how⟩ := hk.heap _ _ hb
  have := hv.1
  rw [hu] at this; cases this
  exact own_G hf how fun m hm => ⟨frz ho hk hb hn (by simp [Env.blk, hβ, hu, hm]), fun _ => hk.AF m (hg m hm)⟩
theorem frz_sub {ren : Ren} {n : Nat} {h : Hp} (ho : Ren.ok n h ren = true) {C E w} (hk : Kn C E w h) {k' : Nat} {e : TypeId} {xs : VL} (hb : h[k']? = some (some (some (.grow e xs)))) (hn : noV ren k' = true) {lo len : Nat} {v : Value} (hv : SV.rel C E w (.sub k' xs.wd lo len) v) (fr : Bool) : VecAt (E.ren ren n) w fr (xs.cut lo len) v := by
  obtain ⟨u, hu, hβ, hg, hf, how⟩ := hk.heap _ _ hb
  exact sub_G hf hu how rfl hv fun m hm => ⟨frz ho hk hb hn (by simp [Env.blk, hβ, hu, hm]), fun _ => hk.AF m (hg m hm)⟩
def Sh.dec (ren : Ren) (m : Nat) (h : Hp) : Sh → SV → Option (List Pv)
  | .int k, .int k' n => cond (decide (k = k')) (some [.i n]) none
  | .bool, .bool b => some [.b b]
  | .veci fr k, .vec fr' (.int k' l) => cond (decide (fr = true → fr' = true) && decide (k = k')) (some [.il l]) none
  | .vecb fr, .vec fr' (.bool l) => cond (decide (fr = true → fr' = true)) (some [.bl l]) none
  | .vecl fr wd, .vec fr' (.lit wd' l) => cond (fr == fr' && Nat.beq wd wd') (some [.cl l]) none
  | .vecr fr ks, .vec fr' (.row ks' l) => cond (fr == fr' && decide (ks = ks')) (some [.rl l]) none
  | .pvi k, .pvc (.int k' l) => cond (decide (k = k')) (some [.il l]) none
  | .pvb, .pvc (.bool l) => some [.bl l]
  | .ptr k o, .ptr k' o' => cond (isK ren k k' && Nat.beq o o') (some []) none
  | .clo f l, .clo f' l' => cond (isKs ren l l' && Nat.beq f f') (some []) none
  | .own k, .own k' => cond (isK ren k k') (some []) none
  | .own k, .val (.slice none 0 0) => cond (noK ren m k) (some []) none
  | .sub k wd, .sub k' wd' lo len => cond (isK ren k k' && Nat.beq wd wd') (some [.n lo, .n len]) none
  | .sl k, .sl k' off len cap => cond (isK ren k k') (some [.n off, .n len, .n cap]) none
  | .fnv i, .fnv j => cond (Nat.beq i j) (some []) none
  | .nil, .val (.slice none 0 0) => some []
  | .veci _ _, .val (.slice none 0 0) => some [.il []]
  | .vecb _, .val (.slice none 0 0) => some [.bl []]
  | .veci _ k, .own k' => match h.at k' with
    | some (.grow _ (.int kd l)) => cond (decide (kd = k) && noV ren k') (some [.il l]) none
    | _ => none
  | .vecb _, .own k' => match h.at k' with
    | some (.grow _ (.bool l)) => cond (noV ren k') (some [.bl l]) none
    | _ => none
  | .veci _ k, .sub k' 1 lo n => match h.at k' with
    | some (.grow _ (.int kd l)) => cond (decide (kd = k) && noV ren k') (some [.il ((l.drop lo).take n)]) none
    | _ => none
  | .vecb _, .sub k' 1 lo n => match h.at k' with
    | some (.grow _ (.bool l)) => cond (noV ren k') (some [.bl ((l.drop lo).take n)]) none
    | _ => none
  | .any, _ => some []
  | .str, .str l => some [.s l]
  | .str, .val (.string s) => some [.s s.data.toList]
  | .sub k wd, .own k' => match h.at k' with
    | some (.grow _ xs) => cond (isK ren k k' && Nat.beq wd xs.wd) (some [.n 0, .n xs.len]) none
    | _ => none
  | .sub k _, .val (.slice none 0 0) => cond (noK ren m k) (some [.n 0, .n 0]) none
  | _, _ => none
def Sh.enc : Sh → List Pv → SV × List Pv
  | .int k, .i n :: r => (.int k n, r)
  | .bool, .b x :: r => (.bool x, r)
  | .veci fr k, .il l :: r => (.vec fr (.int k l), r)
  | .vecb fr, .bl l :: r => (.vec fr (.bool l), r)
  | .vecl fr wd, .cl l :: r => (.vec fr (.lit wd l), r)
  | .vecr fr ks, .rl l :: r => (.vec fr (.row ks l), r)
  | .pvi k, .il l :: r => (.pvc (.int k l), r)
  | .pvb, .bl l :: r => (.pvc (.bool l), r)
  | .ptr k o, r => (.ptr k o, r)
  | .clo f l, r => (.clo f l, r)
  | .own k, r => (.own k, r)
  | .sub k wd, .n lo :: .n len :: r => (.sub k wd lo len, r)
  | .sl k, .n off :: .n len :: .n cap :: r => (.sl k off len cap, r)
  | .fnv i, r => (.fnv i, r)
  | .nil, r => (.val (.slice none 0 0), r)
  | .str, .s l :: r => (.str l, r)
  | _, r => (.top, r)
theorem cond_some {α : Type} {b : Bool} {x y : α} (h : cond b (some x) none = some y) : b = true ∧ x = y := by
  cases b
  · cases h
  · cases h; exact ⟨rfl, rfl⟩
theorem isKs_spec {E : Env} {ren : Ren} {n : Nat} : ∀ {l l' : List Nat}, isKs ren l l' = true → l.map (E.ren ren n).β = l'.map E.β
  | [], [], _ => rfl
  | [], _ :: _, h => by cases h
  | _ :: _, [], h => by cases h
  | k :: l, k' :: l', h => by
    simp only [isKs, Bool.and_eq_true] at h
    simp only [List.map_cons, Env.ren_β (isK_spec h.1), isKs_spec h.2]
theorem Sh.spec {ren : Ren} {m : Nat} {h : Hp} {t : Sh} {s : SV} {l : List Pv} (hd : t.dec ren m h s = some l) (r : List Pv) : ∃ s', t.enc (l ++ r) = (s', r) ∧ SV.to ren m h s s' := by
  unfold Sh.dec at hd
  split at hd
  case h_1 =>
    obtain ⟨hc, rfl⟩ := cond_some hd
    have := of_decide_eq_true hc
    subst this
    exact ⟨_, rfl, fun _ _ _ _ _ _ hv => hv⟩
  case h_2 => cases hd; exact ⟨_, rfl, fun _ _ _ _ _ _ hv => hv⟩
  case h_3 =>
    obtain ⟨hc, rfl⟩ := cond_some hd
    simp only [Bool.and_eq_true, decide_eq_true_eq] at hc
    obtain ⟨hf, rfl⟩ := hc
    exact ⟨_, rfl, fun _ _ _ _ _ _ hv => hv.sub Env.ren_A rfl hf⟩
  case h_4 =>
    obtain ⟨hc, rfl⟩ := cond_some hd
    simp only [decide_eq_true_eq] at hc
    exact ⟨_, rfl, fun _ _ _ _ _ _ hv => hv.sub Env.ren_A rfl hc⟩
  case h_5 =>
    obtain ⟨hc, rfl⟩ := cond_some hd
    simp only [Bool.and_eq_true, beq_iff_eq, Nat.beq_eq] at hc
    obtain ⟨rfl, rfl⟩ := hc
    exact ⟨_, rfl, fun _ _ _ _ _ _ hv => hv.sub Env.ren_A rfl id⟩
  case h_6 =>
    obtain ⟨hc, rfl⟩ := cond_some hd
    simp only [Bool.and_eq_true, beq_iff_eq, decide_eq_true_eq] at hc
    obtain ⟨rfl, rfl⟩ := hc
    exact ⟨_, rfl, fun _ _ _ _ _ _ hv => hv.sub Env.ren_A rfl id⟩
  case h_7 =>
    obtain ⟨hc, rfl⟩ := cond_some hd
    have := of_decide_eq_true hc
    subst this
    exact ⟨_, rfl, fun _ _ _ _ _ _ hv => PvcR.sub hv Env.ren_A rfl⟩
  case h_8 => cases hd; exact ⟨_, rfl, fun _ _ _ _ _ _ hv => PvcR.sub hv Env.ren_A rfl⟩
  case h_9 =>
    obtain ⟨hc, rfl⟩ := cond_some hd
    simp only [Bool.and_eq_true, Nat.beq_eq] at hc
    obtain ⟨hk, rfl⟩ := hc
    refine ⟨_, rfl, fun _ C E w v _ hv => ?_⟩
    obtain ⟨b, hb, rfl⟩ := hv
    exact ⟨b, by rw [Env.ren_β (isK_spec hk), hb], rfl⟩
  case h_10 =>
    obtain ⟨hc, rfl⟩ := cond_some hd
    simp only [Bool.and_eq_true, Nat.beq_eq] at hc
    obtain ⟨hk, rfl⟩ := hc
    refine ⟨_, rfl, fun _ C E w v _ hv => ?_⟩
    obtain ⟨ns, hns, rfl⟩ := hv
    exact ⟨ns, by rw [isKs_spec hk, hns], rfl⟩
  case h_11 =>
    obtain ⟨hk, rfl⟩ := cond_some hd
    refine ⟨_, rfl, fun _ C E w v _ hv => ?_⟩
    exact ⟨by rw [Env.ren_σ (isK_spec hk)]; exact hv.1, hv.2⟩
  case h_12 =>
    obtain ⟨hk, rfl⟩ := cond_some hd
    obtain ⟨h1, h2⟩ := noK_spec hk
    refine ⟨_, rfl, fun _ C E w v _ hv => ?_⟩
    cases hv
    exact ⟨by simp [Env.ren, h1, h2], _, _, _, rfl⟩
  case h_13 =>
    obtain ⟨hc, rfl⟩ := cond_some hd
    simp only [Bool.and_eq_true, Nat.beq_eq] at hc
    obtain ⟨hk, rfl⟩ := hc
    refine ⟨_, rfl, fun _ C E w v _ hv => ?_⟩
    obtain ⟨a, cap, b, l, c, h1, h2⟩ := hv
    exact ⟨a, cap, b, l, c, by rw [Env.ren_σ (isK_spec hk)]; exact h1, h2⟩
  case h_14 =>
    obtain ⟨hk, rfl⟩ := cond_some hd
    refine ⟨_, rfl, fun _ C E w v _ hv => ?_⟩
    obtain ⟨b, hb, rfl⟩ := hv
    exact ⟨b, by rw [Env.ren_β (isK_spec hk), hb], rfl⟩
  case h_15 =>
    obtain ⟨hc, rfl⟩ := cond_some hd
    simp only [Nat.beq_eq] at hc
    subst hc
    exact ⟨_, rfl, fun _ _ _ _ _ _ hv => hv⟩
  case h_16 => cases hd; exact ⟨_, rfl, fun _ _ _ _ _ _ hv => hv⟩
  case h_17 =>
    cases hd
    refine ⟨_, rfl, fun _ C E w v _ hv => ?_⟩
    cases hv
    exact nil_G rfl
  case h_18 =>
    cases hd
    refine ⟨_, rfl, fun _ C E w v _ hv => ?_⟩
    cases hv
    exact nil_G rfl
  case h_19 =>
    split at hd
    · rename_i hb
      obtain ⟨hc, rfl⟩ := cond_some hd
      simp only [Bool.and_eq_true, decide_eq_true_eq] at hc
      obtain ⟨rfl, hn⟩ := hc
      exact ⟨_, rfl, fun ho C E w v hk hv => frz_own ho hk (Hp.at_some hb) hn hv _⟩
    · cases hd
  case h_20 =>
    split at hd
    · rename_i hb
      obtain ⟨hn, rfl⟩ := cond_some hd
      exact ⟨_, rfl, fun ho C E w v hk hv => frz_own ho hk (Hp.at_some hb) hn hv _⟩
    · cases hd
  case h_21 =>
    split at hd
    · rename_i hb
      obtain ⟨hc, rfl⟩ := cond_some hd
      simp only [Bool.and_eq_true, decide_eq_true_eq] at hc
      obtain ⟨rfl, hn⟩ := hc
      exact ⟨_, rfl, fun ho C E w v hk hv => frz_sub ho hk (Hp.at_some hb) hn hv _⟩
    · cases hd
  case h_22 =>
    split at hd
    · rename_i hb
      obtain ⟨hn, rfl⟩ := cond_some hd
      exact ⟨_, rfl, fun ho C E w v hk hv => frz_sub ho hk (Hp.at_some hb) hn hv _⟩
    · cases hd
  case h_23 => cases hd; exact ⟨_, rfl, fun _ _ _ _ _ _ _ => trivial⟩
  case h_24 => cases hd; exact ⟨_, rfl, fun _ _ _ _ _ _ hv => hv⟩
  case h_25 => cases hd; exact ⟨_, rfl, fun _ _ _ _ _ _ hv => by cases hv; rfl⟩
  case h_26 =>
    split at hd
    · rename_i hb
      obtain ⟨hc, rfl⟩ := cond_some hd
      simp only [Bool.and_eq_true, Nat.beq_eq] at hc
      obtain ⟨hk, rfl⟩ := hc
      refine ⟨_, rfl, fun ho C E w v hK hv => ?_⟩
      obtain ⟨u, hu, _, _, _, how⟩ := hK.heap _ _ (Hp.at_some hb)
      have h1 := hv.1
      rw [hu] at h1
      cases h1
      rcases own_form how with ⟨rfl, h0⟩ | ⟨n, cap, rfl, hcap, _, _⟩
      · exact ⟨none, 0, none, 0, 0, by rw [Env.ren_σ (isK_spec hk)]; exact hv.1, by omega, by rw [h0], by omega, fun _ => rfl, .inl h0⟩
      · exact ⟨some ⟨n, 0, none⟩, cap, some ⟨n, 0, none⟩, _, cap, by rw [Env.ren_σ (isK_spec hk)]; exact hv.1, by omega, rfl, hcap, fun e => (by cases e), .inr ⟨n, rfl, by simp⟩⟩
    · cases hd
  case h_27 =>
    obtain ⟨hk, rfl⟩ := cond_some hd
    obtain ⟨h1, h2⟩ := noK_spec hk
    refine ⟨_, rfl, fun _ C E w v _ hv => ?_⟩
    cases hv
    exact ⟨none, 0, none, 0, 0, by simp [Env.ren, h1, h2], by omega, rfl, by omega, fun _ => rfl, .inl rfl⟩
  case h_28 => cases hd
def decCs (ren : Ren) (m : Nat) (h : Hp) : List Sh → List SV → Option (List Pv)
  | [], [] => some []
  | t :: ts, s :: ss => match t.dec ren m h s, decCs ren m h ts ss with
    | some a, some b => some (a ++ b)
    | _, _ => none
  | _, _ => none
def encCs : List Sh → List Pv → List SV × List Pv
  | [], r => ([], r)
  | t :: ts, r => ((t.enc r).1 :: (encCs ts (t.enc r).2).1, (encCs ts (t.enc r).2).2)
theorem decCs_spec {ren : Ren} {m : Nat} {hp : Hp} : ∀ {ts : List Sh} {ss : List SV} {l : List Pv}, decCs ren m hp ts ss = some l → ∀ r, ∃ ss', encCs ts (l ++ r) = (ss', r) ∧ AllR (SV.to ren m hp) ss ss'
  | [], [], l, h, r => by cases h; exact ⟨[], rfl, AllR.nil⟩
  | [], _ :: _, l, h, r => by cases h
  | _ :: _, [], l, h, r => by cases h
  | t :: ts, s :: ss, l, h, r => by
    simp only [decCs] at h
    split at h
    · rename_i a b ha hb
      cases h
      obtain ⟨s', h1, h2⟩ := Sh.spec ha (b ++ r)
      obtain ⟨ss', h3, h4⟩ := decCs_spec hb r
      refine ⟨s' :: ss', ?_, AllR.cons h2 h4⟩
      simp only [encCs, List.append_assoc, h1, h3]
    · cases h
def decSl (ren : Ren) (m : Nat) (h : Hp) : List (Option (Bool × List Sh)) → List AV → Option (List Pv)
  | [], [] => some []
  | none :: ts, _ :: ss => decSl ren m h ts ss
  | some (g, c) :: ts, .one g' s :: ss => cond (g == g') (match decCs ren m h c s, decSl ren m h ts ss with
    | some a, some b => some (a ++ b)
    | _, _ => none) none
  | _, _ => none
def topA : AV := .one false [.top]
def encSl : List (Option (Bool × List Sh)) → List Pv → List AV × List Pv
  | [], r => ([], r)
  | none :: ts, r => (topA :: (encSl ts r).1, (encSl ts r).2)
  | some (g, c) :: ts, r => (.one g (encCs c r).1 :: (encSl ts (encCs c r).2).1, (encSl ts (encCs c r).2).2)
def AV.to (ren : Ren) (n : Nat) (h : Hp) (a b : AV) : Prop := Ren.ok n h ren = true → ∀ C E w v, Kn C E w h → AV.rel C E w a v → AV.rel C (E.ren ren n) w b v
theorem AllR.trans' {α β γ : Type} {R : α → β → Prop} {S : α → γ → Prop} {T : β → γ → Prop} {l : List α} {m : List β} {k : List γ} (h1 : AllR R l m) (h2 : AllR S l k) (h : ∀ a b c, R a b → S a c → T b c) : AllR T m k := by
  refine ⟨h1.1.symm.trans h2.1, fun i x v hx hv => ?_⟩
  have hi : i < l.length := by have := list_get_lt hx; have := h1.1; omega
  exact h l[i] x v (h1.2 i l[i] x (List.getElem?_eq_getElem hi) hx) (h2.2 i l[i] v (List.getElem?_eq_getElem hi) hv)
theorem AV.to_one {ren : Ren} {n : Nat} {hp : Hp} {g : Bool} {l l' : List SV} (h : AllR (SV.to ren n hp) l l') : AV.to ren n hp (.one g l) (.one g l') := by
  intro ho C E w v hk hr
  cases g with
  | true =>
    obtain ⟨vs, rfl, hv⟩ := hr
    exact ⟨vs, rfl, h.trans' hv fun a b c hab hac => hab ho C E w c hk hac⟩
  | false =>
    match l, l', h, hr with
    | [s], [s'], h, hr => exact h.2 0 s s' rfl rfl ho C E w v hk hr
    | [s], [], h, hr => cases h.1
    | [s], _ :: _ :: _, h, hr => cases h.1
theorem decSl_spec {ren : Ren} {m : Nat} {hp : Hp} : ∀ {ts : List (Option (Bool × List Sh))} {ss : List AV} {l : List Pv}, decSl ren m hp ts ss = some l → ∀ r, ∃ ss', encSl ts (l ++ r) = (ss', r) ∧ AllR (AV.to ren m hp) ss ss'
  | [], [], l, h, r => by cases h; exact ⟨[], rfl, AllR.nil⟩
  | [], _ :: _, l, h, r => by cases h
  | none :: _, [], l, h, r => by cases h
  | some _ :: _, [], l, h, r => by cases h
  | some (_, _) :: _, .tup _ :: _, l, h, r => by cases h
  | none :: ts, s :: ss, l, h, r => by
    obtain ⟨ss', h3, h4⟩ := decSl_spec (ts := ts) (ss := ss) h r
    exact ⟨topA :: ss', by simp only [encSl, h3], AllR.cons (fun _ _ _ _ _ _ _ => trivial) h4⟩
  | some (g, c) :: ts, .one g' s :: ss, l, h, r => by
    simp only [decSl] at h
    cases hg : (g == g') with
    | false => rw [hg] at h; cases h
    | true =>
      rw [hg] at h
      have := eq_of_beq hg
      subst this
      simp only [cond_true] at h
      split at h
      · rename_i a b ha hb
        cases h
        obtain ⟨s', h1, h2⟩ := decCs_spec ha (b ++ r)
        obtain ⟨ss', h3, h4⟩ := decSl_spec hb r
        refine ⟨.one g s' :: ss', ?_, AllR.cons (AV.to_one h2) h4⟩
        simp only [encSl, List.append_assoc, h1, h3]
      · cases h
def Hs.dec (ren : Ren) (m k : Nat) (heap : List (Option (Option Blk))) : Hs → Option (List Pv)
  | .cells e c => match lk ren k with
    | some k' => match (heap[k']?).join.join with
      | some (.cells e' s) => cond (Nat.beq e e') (decCs ren m heap c s) none
      | _ => none
    | none => none
  | .growi e kd => match lk ren k with
    | some k' => match (heap[k']?).join.join with
      | some (.grow e' (.int kd' l)) => cond (Nat.beq e e' && decide (kd = kd')) (some [.il l]) none
      | _ => none
    | none => some [.il []]
  | .growb e => match lk ren k with
    | some k' => match (heap[k']?).join.join with
      | some (.grow e' (.bool l)) => cond (Nat.beq e e') (some [.bl l]) none
      | _ => none
    | none => some [.bl []]
def Hs.enc : Hs → List Pv → Blk × List Pv
  | .cells e c, r => (.cells e (encCs c r).1, (encCs c r).2)
  | .growi e k, .il l :: r => (.grow e (.int k l), r)
  | .growb e, .bl l :: r => (.grow e (.bool l), r)
  | .growi e k, r => (.grow e (.int k []), r)
  | .growb e, r => (.grow e (.bool []), r)
def blkTo (ren : Ren) (n : Nat) (heap : List (Option (Option Blk))) (k : Nat) (b : Blk) : Prop :=
  (∃ k' b', lk ren k = some k' ∧ heap[k']? = some (some (some b')) ∧ (Ren.ok n heap ren = true → ∀ (C : Ctx) (E : Env) (w : World), Kn C E w heap → BlkR C E w k' b' → BlkR C (E.ren ren n) w k b)) ∨ lk ren k = none ∧ ∀ (C : Ctx) (E : Env) (w : World), k < n → BlkR C (E.ren ren n) w k b
theorem join_join {l : List (Option (Option Blk))} {k : Nat} {b : Blk} (h : (l[k]?).join.join = some b) : l[k]? = some (some (some b)) := by
  cases h1 : l[k]? with
  | none => rw [h1] at h; cases h
  | some x =>
    rw [h1] at h
    cases x with
    | none => cases h
    | some y => cases y with
      | none => cases h
      | some z => cases h; rfl
theorem Hs.spec {ren : Ren} {m k : Nat} {heap : List (Option (Option Blk))} {t : Hs} {l : List Pv} (h : t.dec ren m k heap = some l) (r : List Pv) : ∃ b, t.enc (l ++ r) = (b, r) ∧ blkTo ren m heap k b := by
  cases t with
  | cells e c =>
    simp only [Hs.dec] at h
    split at h
    · rename_i k' hk
      split at h
      · rename_i e' s hs
        cases hg : Nat.beq e e' with
        | false => rw [hg] at h; cases h
        | true =>
          rw [hg] at h
          have := Nat.eq_of_beq_eq_true hg
          subst this
          simp only [cond_true] at h
          obtain ⟨ss', h1, h2⟩ := decCs_spec h r
          refine ⟨.cells e ss', by simp only [Hs.enc, h1], .inl ⟨k', _, hk, join_join hs, fun ho C E w hK hb => ?_⟩⟩
          obtain ⟨n, hn, hA, vs, hvs, hvr, h3⟩ := hb
          exact ⟨n, by rw [Env.ren_β hk, hn], ⟨hA, k, k', hk, by simp [Env.blk, hn]⟩, vs, hvs, h2.trans' hvr fun a b c hab hac => hab ho C E w c hK hac, h3⟩
      · cases h
    · cases h
  | growi e kd =>
    simp only [Hs.dec] at h
    split at h
    · rename_i k' hk
      split at h
      · rename_i e' kd' xs hs
        obtain ⟨hc, rfl⟩ := cond_some h
        simp only [Bool.and_eq_true, Nat.beq_eq, decide_eq_true_eq] at hc
        obtain ⟨rfl, rfl⟩ := hc
        refine ⟨_, rfl, .inl ⟨k', _, hk, join_join hs, fun _ C E w _ hb => ?_⟩⟩
        obtain ⟨v, hv, hβ, hA, hfl, ho⟩ := hb
        exact ⟨v, by rw [Env.ren_σ hk, hv], by rw [Env.ren_β hk, hβ], fun n hn => ⟨hA n hn, k, k', hk, by simp [Env.blk, hβ, hv, hn]⟩, hfl, ho⟩
      · cases h
    · rename_i hk
      cases h
      refine ⟨_, rfl, .inr ⟨hk, fun C E w hkm => ⟨.slice none 0 0, by simp [Env.ren, hk, hkm], by simp [Env.ren, hk], fun n hn => (by cases hn), rfl, World.ownsRow_nil w _ e _⟩⟩⟩
  | growb e =>
    simp only [Hs.dec] at h
    split at h
    · rename_i k' hk
      split at h
      · rename_i e' xs hs
        obtain ⟨hc, rfl⟩ := cond_some h
        simp only [Nat.beq_eq] at hc
        subst hc
        refine ⟨_, rfl, .inl ⟨k', _, hk, join_join hs, fun _ C E w _ hb => ?_⟩⟩
        obtain ⟨v, hv, hβ, hA, hfl, ho⟩ := hb
        exact ⟨v, by rw [Env.ren_σ hk, hv], by rw [Env.ren_β hk, hβ], fun n hn => ⟨hA n hn, k, k', hk, by simp [Env.blk, hβ, hv, hn]⟩, hfl, ho⟩
      · cases h
    · rename_i hk
      cases h
      refine ⟨_, rfl, .inr ⟨hk, fun C E w hkm => ⟨.slice none 0 0, by simp [Env.ren, hk, hkm], by simp [Env.ren, hk], fun n hn => (by cases hn), rfl, World.ownsRow_nil w _ e _⟩⟩⟩
def decHp (ren : Ren) (m : Nat) (heap : List (Option (Option Blk))) : Nat → List Hs → Option (List Pv)
  | _, [] => some []
  | k, t :: ts => match t.dec ren m k heap, decHp ren m heap (k + 1) ts with
    | some a, some b => some (a ++ b)
    | _, _ => none
def encHp : List Hs → List Pv → List (Option (Option Blk))
  | [], _ => []
  | t :: ts, r => some (some (t.enc r).1) :: encHp ts (t.enc r).2
theorem decHp_spec {ren : Ren} {m : Nat} {heap : List (Option (Option Blk))} : ∀ {ts : List Hs} {k0 : Nat} {l : List Pv}, decHp ren m heap k0 ts = some l → (encHp ts l).length = ts.length ∧ ∀ i b, (encHp ts l)[i]? = some b → ∃ b', b = some (some b') ∧ blkTo ren m heap (k0 + i) b'
  | [], k0, l, h => by cases h; exact ⟨rfl, fun i b hb => (by simp [encHp] at hb)⟩
  | t :: ts, k0, l, h => by
    simp only [decHp] at h
    split at h
    · rename_i a b ha hb
      cases h
      obtain ⟨b0, h1, h2⟩ := Hs.spec ha b
      obtain ⟨h3, h4⟩ := decHp_spec hb
      simp only [encHp, h1]
      refine ⟨by simp [h3], fun i x hx => ?_⟩
      rcases i with _ | i
      · simp only [List.getElem?_cons_zero, Option.some.injEq] at hx
        exact ⟨b0, hx.symm, h2⟩
      · simp only [List.getElem?_cons_succ] at hx
        obtain ⟨b', h5, h6⟩ := h4 i x hx
        exact ⟨b', h5, by rw [show k0 + (i + 1) = k0 + 1 + i by omega]; exact h6⟩
    · cases h
def addK (k k' : Nat) (ren : Ren) : Ren := match lk ren k with
  | some _ => ren
  | none => (k, k') :: ren
def addKs : List Nat → List Nat → Ren → Ren
  | k :: l, k' :: l', ren => addKs l l' (addK k k' ren)
  | _, _, ren => ren
def Sh.find : Sh → SV → Ren → Ren
  | .ptr k _, .ptr k' _, ren => addK k k' ren
  | .clo _ l, .clo _ l', ren => addKs l l' ren
  | .own k, .own k', ren => addK k k' ren
  | .sub k _, .sub k' _ _ _, ren => addK k k' ren
  | .sub k _, .own k', ren => addK k k' ren
  | .sl k, .sl k' _ _ _, ren => addK k k' ren
  | _, _, ren => ren
def findCs : List Sh → List SV → Ren → Ren
  | t :: ts, s :: ss, ren => findCs ts ss (t.find s ren)
  | _, _, ren => ren
def findSl : List (Option (Bool × List Sh)) → List AV → Ren → Ren
  | some (_, c) :: ts, .one _ s :: ss, ren => findSl ts ss (findCs c s ren)
  | _ :: ts, _ :: ss, ren => findSl ts ss ren
  | _, _, ren => ren
def findHp (heap : List (Option (Option Blk))) : Nat → List Hs → Ren → Ren
  | _, [], ren => ren
  | k, .cells _ c :: ts, ren => findHp heap (k + 1) ts (match lk ren k with
    | some k' => match (heap[k']?).join.join with
      | some (.cells _ s) => findCs c s ren
      | _ => ren
    | none => ren)
  | k, _ :: ts, ren => findHp heap (k + 1) ts ren
def Tm.ren (t : Tm) (s : St) : Ren := findHp s.heap 0 t.heap (findSl t.slots s.slots [])
def Tm.enc (t : Tm) (l : List Pv) : St := ⟨(encSl t.slots l).1, encHp t.heap (encSl t.slots l).2⟩
def Tm.decR (t : Tm) (s : St) (ren : Ren) : Option (List Pv) := match decSl ren t.heap.length s.heap t.slots s.slots, decHp ren t.heap.length s.heap 0 t.heap with
  | some a, some b => cond (Ren.ok t.heap.length s.heap ren && (!t.lent || isK ren 0 0)) (some (a ++ b)) none
  | _, _ => none
def Tm.dec (t : Tm) (s : St) : Option (List Pv) := t.decR s (t.ren s)
def Weak (C : Ctx) (s t : St) : Prop := ∀ {B : Nat} {w0 : World} {E a w}, Rel C B w0 E s a w → ∃ E', Rel C B w0 E' t a w
theorem Rel.to {E s t a w} {ren : Ren} {n : Nat} (h : Rel C B w0 E s a w) (hs : AllR (AV.to ren n s.heap) s.slots t.slots) (hh : ∀ k b, t.heap[k]? = some b → ∃ b', b = some (some b') ∧ blkTo ren n s.heap k b') (hn : t.heap.length = n) (ho : Ren.ok n s.heap ren = true) (h0 : C.v0 = none ∨ isK ren 0 0 = true) : Rel C B w0 (E.ren ren n) t a w := by
  have hnil : ∀ {k}, lk ren k = none → (E.ren ren n).blk k = none := fun {k} hk => by
    simp only [Env.blk, Env.ren, hk, Option.bind_none]
    split <;> rfl
  have hK : Kn C E w s.heap := ⟨fun n hn => by
    rcases (h.lo n hn).1 with h1 | h1
    · exact h.ok.F n h1
    · exact h.ok.X n h1, h.heap, h.inj⟩
  refine { slots := hs.trans' h.slots fun a b c hab hac => hab ho C E w c hK hac, defers := h.defers, heap := ?_, free := ?_, lo := fun n hn => h.lo n hn.1, inj := ?_, below := h.below, base := h.base, ok := ⟨h.ok.F, h.ok.X, h.ok.eF, h.ok.eX, fun v hv => by
      rcases h0 with h0 | h0
      · rw [h0] at hv; cases hv
      · rw [Env.ren_σ (isK_spec h0)]; exact h.ok.v0 v hv⟩ }
  · intro k b hk
    obtain ⟨b', hb, hw⟩ := hh k _ hk
    cases hb
    rcases hw with ⟨k', c, _, hc, hw⟩ | ⟨_, hw⟩
    · exact hw ho C E w hK (h.heap k' c hc)
    · exact hw C E w (by have := list_get_lt hk; omega)
  · intro k hk
    have hkn : ¬ k < n := by
      rcases hk with hk | hk
      · obtain ⟨b', hb, _⟩ := hh k _ hk; cases hb
      · have := List.getElem?_eq_none_iff.1 hk; omega
    cases hl : lk ren k with
    | some k' => exact absurd ((Ren.ok_spec ho).1 hl).1 hkn
    | none => simp [Env.ren, hl, hkn]
  · intro k k' b b' m h1 h2 e1 e2
    obtain ⟨c1, hc1, w1⟩ := hh k _ h1
    obtain ⟨c2, hc2, w2⟩ := hh k' _ h2
    rcases w1 with ⟨j1, d1, l1, g1, _⟩ | ⟨l1, _⟩
    · rcases w2 with ⟨j2, d2, l2, g2, _⟩ | ⟨l2, _⟩
      · have q1 : E.blk j1 = some m := by simpa [Env.blk, Env.ren, l1] using e1
        have q2 : E.blk j2 = some m := by simpa [Env.blk, Env.ren, l2] using e2
        have := h.inj j1 j2 d1 d2 m g1 g2 q1 q2
        subst this
        exact (Ren.ok_spec ho).2 l1 l2
      · rw [hnil l2] at e2; cases e2
    · rw [hnil l1] at e1; cases e1
theorem Tm.weak {t : Tm} {s : St} {l : List Pv} (hl : C.v0 = none ∨ t.lent = true) (h : t.dec s = some l) : Weak C s (t.enc l) := by
  unfold Tm.dec at h
  generalize t.ren s = ren at h
  unfold Tm.decR at h
  split at h
  · rename_i a b ha hb
    obtain ⟨ho, rfl⟩ := cond_some h
    simp only [Bool.and_eq_true, Bool.or_eq_true, Bool.not_eq_true'] at ho
    obtain ⟨ho, ho2⟩ := ho
    obtain ⟨ss', h1, h2⟩ := decSl_spec ha b
    obtain ⟨h3, h4⟩ := decHp_spec hb
    intro B w0 E x w hr
    refine ⟨_, hr.to (ren := ren) (n := t.heap.length) (t := t.enc (a ++ b)) ?_ ?_ ?_ ho (hl.imp id fun h => ho2.resolve_left (by simp [h]))⟩
    · simp only [Tm.enc, h1]; exact h2
    · simp only [Tm.enc, h1]
      intro k c hc
      obtain ⟨b', h5, h6⟩ := h4 k c hc
      exact ⟨b', h5, by rw [Nat.zero_add] at h6; exact h6⟩
    · simp only [Tm.enc, h1]; exact h3
  · cases h
def runL {ι ρ : Type} (step : ι → Tr (ι ⊕ ρ)) : Nat → ι → Option ρ
  | 0, _ => none
  | n + 1, i => cond (step i).safe (match (step i).val with
    | .inl j => runL step n j
    | .inr r => some r) none
def runB {ι ρ : Type} (step : ι → Tr (ι ⊕ ρ)) (i : ι) : Option ρ := runL step 18446744073709551616 i
theorem runL_more {ι ρ : Type} {step : ι → Tr (ι ⊕ ρ)} : ∀ {n : Nat} {i : ι} {r : ρ}, runL step n i = some r → ∀ m, n ≤ m → runL step m i = some r
  | 0, i, r, h, m, hm => by cases h
  | n + 1, i, r, h, m, hm => by
    obtain ⟨m, rfl⟩ : ∃ k, m = k + 1 := ⟨m - 1, by omega⟩
    unfold runL at h ⊢
    cases hs : (step i).safe with
    | false => rw [hs] at h; cases h
    | true =>
      rw [hs] at h
      simp only [cond_true] at h ⊢
      split at h
      · exact runL_more h m (by omega)
      · exact h
theorem runB_of {ι ρ : Type} {step : ι → Tr (ι ⊕ ρ)} {n : Nat} {i : ι} {r : ρ} (h : runL step n i = some r) (hn : n ≤ 18446744073709551616) : runB step i = some r := runL_more h _ hn
def onT {π ι ρ : Type} (p : π) (Q : (π × ι) ⊕ (π × ρ) → Prop) : ι ⊕ ρ → Prop
  | .inl j => Q (.inl (p, j))
  | .inr r => Q (.inr (p, r))
def onO {α : Type} (Q : α → Prop) : Option α → Prop
  | some o => Q o
  | none => False
theorem EW_run {c : Code} {π ι ρ : Type} {p : π} (I : π → ι → St) (Xr : ρ → X) (F : π → ρ → St) (dec : X → St → Option ((π × ι) ⊕ (π × ρ)))
    (hdecL : ∀ x s q j, dec x s = some (.inl (q, j)) → x = .nrm ∧ Weak C s (I q j))
    (hdecR : ∀ x s q r, dec x s = some (.inr (q, r)) → x = Xr r ∧ x ≠ .nrm ∧ Weak C s (F q r))
    (step : ι → Tr (ι ⊕ ρ))
    (hbody : ∀ i (Q : (π × ι) ⊕ (π × ρ) → Prop), (step i).prop (onT p Q) → EW P C B w0 c (I p i) fun x s => onO Q (dec x s))
    {n : Nat} {i : ι} {r : ρ} (h : runL step n i = some r) : EW P C B w0 (.loop c) (I p i) fun x t => x = Xr r ∧ t = F p r := by
  intro E a w hr
  refine wp_loop_ghost (fun m a w => ∃ j E, runL step m j = some r ∧ Rel C B w0 E (I p j) a w) n ⟨i, E, h, hr⟩ ?_
  rintro m a w ⟨j, E, hj, hr⟩
  cases m with
  | zero => cases hj
  | succ m =>
    unfold runL at hj
    cases hs : (step j).safe with
    | false => rw [hs] at hj; cases hj
    | true =>
      rw [hs] at hj
      simp only [cond_true] at hj
      refine wp_mono (hbody j (fun o => match o with
        | .inl (q, j') => q = p ∧ runL step m j' = some r
        | .inr (q, r') => q = p ∧ r' = r) (Tr.prop_val hs ?_) E a w hr) ?_
      · cases hv : (step j).val with
        | inl j' => rw [hv] at hj; exact ⟨rfl, hj⟩
        | inr r' => rw [hv] at hj; cases hj; exact ⟨rfl, rfl⟩
      · rintro e a' w' ⟨x, E', s', rfl, hr', h'⟩
        cases hd : dec x s' with
        | none => rw [hd] at h'; exact h'.elim
        | some o =>
          rw [hd] at h'
          match o, hd, h' with
          | .inl (q, j'), hd, h' =>
            obtain ⟨rfl, hw⟩ := hdecL x s' q j' hd
            obtain ⟨hq, hj2⟩ : q = p ∧ runL step m j' = some r := h'
            subst hq
            obtain ⟨E2, hr2⟩ := hw hr'
            exact ⟨m, by omega, j', E2, hj2, hr2⟩
          | .inr (q, r'), hd, h' =>
            obtain ⟨hx, hne, hw⟩ := hdecR x s' q r' hd
            obtain ⟨rfl, rfl⟩ : q = p ∧ r' = r := h'
            obtain ⟨E2, hr2⟩ := hw hr'
            cases x with
            | nrm => exact absurd rfl hne
            | ex id => exact ⟨.ex id, E2, F q r', rfl, hr2, hx, rfl⟩
            | ret => exact ⟨.ret, E2, F q r', rfl, hr2, hx, rfl⟩
def bkE {π ι : Type} (id : Nat) (dec : St → Option (π × ι)) (x : X) (s : St) : Option ((π × ι) ⊕ (π × ι)) := match x with
  | .nrm => (dec s).map .inl
  | .ex id' => cond (Nat.beq id id') ((dec s).map .inr) none
  | .ret => none
def bkB {π ι ρ : Type} (id : Nat) (dec : St → Option (π × ι)) (decR : St → Option ρ) (x : X) (s : St) : Option ((π × ι) ⊕ ((π × ι) ⊕ ρ)) := match x with
  | .nrm => (dec s).map .inl
  | .ex id' => cond (Nat.beq id id') ((dec s).map fun y => .inr (.inl y)) none
  | .ret => (decR s).map fun r => .inr (.inr r)
def onB {π ι ρ : Type} (p : π) (Q : (π × ι) ⊕ ((π × ι) ⊕ ρ) → Prop) : ι ⊕ (ι ⊕ ρ) → Prop
  | .inl j => Q (.inl (p, j))
  | .inr (.inl j) => Q (.inr (.inl (p, j)))
  | .inr (.inr r) => Q (.inr (.inr r))
def lsE {π ι : Type} (id : Nat) (dec : St → Option (π × ι)) (I : π → ι → St) (ok : π → ι → Bool) (v : π → ι → ι) : St → (X → St → Prop) → Prop := fun s k =>
  match dec s with
  | some (p, i) => cond (ok p i) (k (.ex id) (I p (v p i))) False
  | none => False
def lsB {π ι ρ : Type} (id : Nat) (dec : St → Option (π × ι)) (I : π → ι → St) (R : ρ → St) (ok : π → ι → Bool) (rt : π → ι → Bool) (v : π → ι → ι) (rv : π → ι → ρ) : St → (X → St → Prop) → Prop := fun s k =>
  match dec s with
  | some (p, i) => cond (ok p i) (cond (rt p i) (k .ret (R (rv p i))) (k (.ex id) (I p (v p i)))) False
  | none => False
theorem lsE_ok {c : Code} {π ι : Type} {id : Nat} {dec : St → Option (π × ι)} {I : π → ι → St} (hI : ∀ s p i, dec s = some (p, i) → Weak C s (I p i)) {step : π → ι → Tr (ι ⊕ ι)}
    (hbody : ∀ p i (Q : (π × ι) ⊕ (π × ι) → Prop), (step p i).prop (onT p Q) → EW P C B w0 c (I p i) fun x s => onO Q (bkE id dec x s))
    {ok : π → ι → Bool} {v : π → ι → ι} (hok : ∀ p i, ok p i = true → ∃ n, runL (step p) n i = some (v p i))
    {s : St} {k : X → St → Prop} (hk : lsE id dec I ok v s k) : EW P C B w0 (.loop c) s k := by
  unfold lsE at hk
  split at hk
  · rename_i p i hd
    cases ho : ok p i with
    | false => rw [ho] at hk; exact hk.elim
    | true =>
      rw [ho] at hk
      obtain ⟨n, hn⟩ := hok p i ho
      have := EW_run (C := C) (B := B) (w0 := w0) (p := p) (ρ := ι) I (fun _ => .ex id) I (bkE id dec) (fun x s q j h => by
        cases x with
        | nrm =>
          simp only [bkE, Option.map_eq_some_iff] at h
          obtain ⟨⟨q, j⟩, h1, h2⟩ := h
          cases h2
          exact ⟨rfl, hI s q j h1⟩
        | ex id' =>
          simp only [bkE] at h
          cases hb : Nat.beq id id' <;> rw [hb] at h
          · cases h
          · simp only [cond_true, Option.map_eq_some_iff] at h
            obtain ⟨_, _, h2⟩ := h
            cases h2
        | ret => cases h) (fun x s q r h => by
        cases x with
        | nrm =>
          simp only [bkE, Option.map_eq_some_iff] at h
          obtain ⟨_, _, h2⟩ := h
          cases h2
        | ex id' =>
          simp only [bkE] at h
          cases hb : Nat.beq id id' <;> rw [hb] at h
          · cases h
          · simp only [cond_true, Option.map_eq_some_iff] at h
            obtain ⟨⟨q, j⟩, h1, h2⟩ := h
            cases h2
            have := Nat.eq_of_beq_eq_true hb
            subst this
            exact ⟨rfl, fun h => (by cases h), hI s _ _ h1⟩
        | ret => cases h) (step p) (fun i Q h => hbody p i Q h) hn
      intro E a w hr
      obtain ⟨E', hr'⟩ := hI s p i hd hr
      refine wp_mono (this E' a w hr') ?_
      rintro e a' w' ⟨y, E2, t, rfl, hr2, rfl, rfl⟩
      exact ⟨_, E2, _, rfl, hr2, hk⟩
  · exact hk.elim
def bkP {π ι ρ : Type} (p : π) : (π × ι) ⊕ ((π × ι) ⊕ ρ) → (π × ι) ⊕ (π × (ι ⊕ ρ))
  | .inl y => .inl y
  | .inr (.inl (q, j)) => .inr (q, .inl j)
  | .inr (.inr r) => .inr (p, .inr r)
theorem lsB_ok {c : Code} {π ι ρ : Type} {id : Nat} {dec : St → Option (π × ι)} {decR : St → Option ρ} {I : π → ι → St} {R : ρ → St} (hI : ∀ s p i, dec s = some (p, i) → Weak C s (I p i)) (hR : ∀ s r, decR s = some r → Weak C s (R r)) {step : π → ι → Tr (ι ⊕ (ι ⊕ ρ))}
    (hbody : ∀ p i (Q : (π × ι) ⊕ ((π × ι) ⊕ ρ) → Prop), (step p i).prop (onB p Q) → EW P C B w0 c (I p i) fun x s => onO Q (bkB id dec decR x s))
    {ok : π → ι → Bool} {rt : π → ι → Bool} {v : π → ι → ι} {rv : π → ι → ρ} (hok : ∀ p i, ok p i = true → ∃ n, runL (step p) n i = some (cond (rt p i) (.inr (rv p i)) (.inl (v p i))))
    {s : St} {k : X → St → Prop} (hk : lsB id dec I R ok rt v rv s k) : EW P C B w0 (.loop c) s k := by
  unfold lsB at hk
  split at hk
  · rename_i p i hd
    cases ho : ok p i with
    | false => rw [ho] at hk; exact hk.elim
    | true =>
      rw [ho] at hk
      obtain ⟨n, hn⟩ := hok p i ho
      have := EW_run (C := C) (B := B) (w0 := w0) (p := p) (ρ := ι ⊕ ρ) I (fun o => match o with
        | .inl _ => .ex id
        | .inr _ => .ret) (fun p o => match o with
        | .inl i => I p i
        | .inr r => R r) (fun x s => (bkB id dec decR x s).map (bkP p)) (fun x s q j h => by
        obtain ⟨o, ho, h⟩ := Option.map_eq_some_iff.1 h
        cases x with
        | nrm =>
          simp only [bkB, Option.map_eq_some_iff] at ho
          obtain ⟨⟨q, j⟩, h1, rfl⟩ := ho
          cases h
          exact ⟨rfl, hI s _ _ h1⟩
        | ex id' =>
          simp only [bkB] at ho
          cases hb : Nat.beq id id' <;> rw [hb] at ho
          · cases ho
          · simp only [cond_true, Option.map_eq_some_iff] at ho
            obtain ⟨_, _, rfl⟩ := ho
            cases h
        | ret =>
          simp only [bkB, Option.map_eq_some_iff] at ho
          obtain ⟨_, _, rfl⟩ := ho
          cases h) (fun x s q r h => by
        obtain ⟨o, ho, h⟩ := Option.map_eq_some_iff.1 h
        cases x with
        | nrm =>
          simp only [bkB, Option.map_eq_some_iff] at ho
          obtain ⟨_, _, rfl⟩ := ho
          cases h
        | ex id' =>
          simp only [bkB] at ho
          cases hb : Nat.beq id id' <;> rw [hb] at ho
          · cases ho
          · simp only [cond_true, Option.map_eq_some_iff] at ho
            obtain ⟨⟨q, j⟩, h1, rfl⟩ := ho
            cases h
            have := Nat.eq_of_beq_eq_true hb
            subst this
            exact ⟨rfl, fun h => (by cases h), hI s _ _ h1⟩
        | ret =>
          simp only [bkB, Option.map_eq_some_iff] at ho
          obtain ⟨r, h1, rfl⟩ := ho
          cases h
          exact ⟨rfl, fun h => (by cases h), hR s _ h1⟩) (step p) (fun i Q h => (hbody p i (fun o => Q (bkP p o)) (by
            refine cast (congrArg (Tr.prop · (step p i)) ?_) h
            funext o
            cases o with
            | inl j => rfl
            | inr o => cases o <;> rfl)).mono fun x s h => by
              cases hb : bkB id dec decR x s with
              | none => rw [hb] at h; exact h.elim
              | some o => rw [hb] at h; exact h) hn
      intro E a w hr
      obtain ⟨E', hr'⟩ := hI s p i hd hr
      refine wp_mono (this E' a w hr') ?_
      rintro e a' w' ⟨y, E2, t, rfl, hr2, hy, ht⟩
      subst hy ht
      refine ⟨_, E2, _, rfl, hr2, ?_⟩
      simp only [cond_true] at hk
      cases hrt : rt p i <;> rw [hrt] at hk <;> exact hk
  · exact hk.elim
theorem weak_of {π ι : Type} {tm : Tm} {of : List Pv → Option (π × ι)} {to : π → ι → List Pv} (h : ∀ l p x, of l = some (p, x) → to p x = l) {s : St} {p : π} {x : ι} (hl : C.v0 = none ∨ tm.lent = true) (hd : (tm.dec s).bind of = some (p, x)) : Weak C s (tm.enc (to p x)) := by
  obtain ⟨l, h1, h2⟩ := Option.bind_eq_some_iff.1 hd
  rw [h l p x h2]
  exact Tm.weak hl h1
theorem weak_ofR {ρ : Type} {tm : Tm} {of : List Pv → Option ρ} {to : ρ → List Pv} (h : ∀ l r, of l = some r → to r = l) {s : St} {r : ρ} (hl : C.v0 = none ∨ tm.lent = true) (hd : (tm.dec s).bind of = some r) : Weak C s (tm.enc (to r)) := by
  obtain ⟨l, h1, h2⟩ := Option.bind_eq_some_iff.1 hd
  rw [h l r h2]
  exact Tm.weak hl h1
theorem run_ok {ι ρ : Type} {step : ι → Tr (ι ⊕ ρ)} {i : ι} {d : ρ} (h : (runB step i).isSome = true) : ∃ n, runL step n i = some ((runB step i).getD d) := by
  obtain ⟨r, hr⟩ := Option.isSome_iff_exists.1 h
  exact ⟨18446744073709551616, by rw [hr]; exact hr⟩
def isR {ι ρ : Type} : Option (ι ⊕ ρ) → Bool
  | some (.inr _) => true
  | _ => false
def outL_ {ι ρ : Type} (d : ι) : Option (ι ⊕ ρ) → ι
  | some (.inl i) => i
  | _ => d
def outR_ {ι ρ : Type} (d : ρ) : Option (ι ⊕ ρ) → ρ
  | some (.inr r) => r
  | _ => d
theorem run_okB {ι ρ : Type} {step : ι → Tr (ι ⊕ (ι ⊕ ρ))} {i d : ι} {e : ρ} (h : (runB step i).isSome = true) : ∃ n, runL step n i = some (cond (isR (runB step i)) (.inr (outR_ e (runB step i))) (.inl (outL_ d (runB step i)))) := by
  obtain ⟨r, hr⟩ := Option.isSome_iff_exists.1 h
  refine ⟨18446744073709551616, ?_⟩
  rw [hr]
  cases r <;> exact hr
theorem loops_all {L : Loops} {fn : Func} {m : Nat} (hm : (fn.body.map fun c => (loopsIn c).length) = some m) (h : ∀ i, i < m → ∀ f, (rid (lp fn i)).bind L = some f → ∀ s k, f s k → EW P C B w0 (.loop (lp fn i)) s k) : ∀ c, fn.body = some c → LoopsOK P C B w0 L (loopsIn c) := by
  intro c hc d hd f hf s k hk
  rw [hc] at hm
  simp only [Option.map_some, Option.some.injEq] at hm
  obtain ⟨i, hi, rfl⟩ := List.getElem_of_mem hd
  have : lp fn i = (loopsIn c)[i] := by simp [lp, hc, List.getD, hi]
  rw [← this] at hf ⊢
  exact h i (by omega) f hf s k hk
theorem loops_nil {L : Loops} {c : Code} (h : (loopsIn c).length = 0) : LoopsOK P C B w0 L (loopsIn c) := by
  intro d hd
  rw [List.length_eq_zero_iff.1 h] at hd
  cases hd
theorem loops_cons {L : Loops} {d : Code} {l : List Code} (h : ∀ f, (rid d).bind L = some f → ∀ s k, f s k → EW P C B w0 (.loop d) s k) (t : LoopsOK P C B w0 L l) : LoopsOK P C B w0 L (d :: l) := by
  intro c hc
  rcases List.mem_cons.1 hc with rfl | hc
  · exact h
  · exact t c hc
end Go.Ev
namespace Go.Ev
open Go.RowKit Go.ChangeShapes Go.WideShapes
variable {P : Program}
def okInts (k : IntKind) (l : List Int) : Prop := l.length ≤ maxLen ∧ ∀ n ∈ l, (Lit.int k n).wf = true
theorem opens_ints {t e : TypeId} {k : IntKind} (ht : P.underlying t = some (.slice e)) (he : P.underlying e = some (.int k)) (hc : P.cellsOf e = 1) : Opens P t (cInts k) (okInts k) := by
  intro H enc W base v d ps hv hd
  obtain ⟨a0, len0, cap0, rfl⟩ := Go.WideShapes.okWide_slice ht hv
  obtain ⟨n, hn⟩ := hd
  rcases open_ints ht he hc hn with ⟨h1, _⟩ | ⟨a, len, cap, zs, h1, _, hlc, hcm, hzl, _, hcell, hwf⟩
  · have : Value.slice a0 len0 cap0 = .slice none 0 0 := by simpa [Value.cells] using h1
    rw [this]
    exact ⟨[], ⟨Nat.zero_le _, fun n h => by cases h⟩, list_in (nil_list rfl)⟩
  · have hs : Value.slice a0 len0 cap0 = .slice (some a) len cap := by simpa [Value.cells] using h1
    rw [hs]
    simp only [if_true] at hzl
    have hlen : (zs.take len).length = len := by simp; omega
    refine ⟨zs.take len, ⟨by omega, fun n h => hwf n (List.mem_of_mem_take h)⟩, list_in ⟨some a, cap, by simp [VL.len, hlen], by simp [VL.len]; omega, fun h => by (cases h), ?_⟩⟩
    by_cases h0 : len = 0
    · left; simp [VL.len, h0]
    · right
      have c0 := hcell 0 (by omega)
      have hsp : a.spot = none := by simpa [Addr.add] using World.cell?_spot c0
      obtain ⟨b, off, spot⟩ := a
      simp only at hsp
      subst hsp
      refine ⟨b, off, rfl, trivial, ?_, fun i hi => RdX.at rfl fun j c hj => ?_⟩
      · simp only [World.cell?, Addr.add] at c0
        split at c0
        · rename_i h; exact heap_get_lt h
        · cases c0
      · have hi' : i < len := by simpa [VL.len, hlen] using hi
        have hci := hcell i (by omega)
        simp only [VL.at] at hj
        rcases j with _ | j
        · simp only [List.getElem?_cons_zero, Option.some.injEq] at hj
          subst hj
          have e : (⟨b, off, none⟩ : Addr).add i = ⟨b, off + i, none⟩ := by
            unfold Addr.add; split
            · rename_i h; subst h; rfl
            · rfl
          rw [e] at hci
          simp only [VL.wd, Nat.mul_one, Nat.add_zero, SV.exact]
          rw [hci]
          simp [List.getD, hi']
        · simp at hj
end Go.Ev
namespace Go.Fb
open Go.Ev
structure U2 where
  hi : Int
  lo : Int
  deriving DecidableEq
structure U3 where
  hi : Int
  mid : Int
  lo : Int
  deriving DecidableEq
structure RR where
  neg : Bool
  num : List Int
  den : List Int
  deriving DecidableEq
structure RQ where
  neg : Bool
  num : List Bool
  den : List Bool
  deriving DecidableEq
structure RN where
  neg : Bool
  m : U2
  e : Int
  rest : Bool
  deriving DecidableEq
structure RX where
  a : List Bool
  b : List Bool
  e : Int
  rest : Bool
  deriving DecidableEq
structure SN where
  f : Int
  c : Int
  neg : Bool
  m : Int
  e : Int
  deriving DecidableEq
structure SP where
  empty : Bool
  lo : Int
  hi : Int
  deriving DecidableEq
structure SD where
  a : SP
  b : SP
  now : SP
  ea : Int
  eb : Int
  deriving DecidableEq
end Go.Fb
namespace Go.Ev
open Go.Fb
def ccU2 : CC U2 := ccMap (ccCons (ccInt .u64) (ccInt .u64)) (fun x => ⟨x.1, x.2⟩) (fun s => (s.hi, s.lo)) (fun _ => rfl)
def ccRR : CC RR := ccMap (ccCons ccBool (ccCons (ccInts .u32) (ccInts .u32))) (fun x => ⟨x.1, x.2.1, x.2.2⟩) (fun s => (s.neg, s.num, s.den)) (fun _ => rfl)
def ccRN : CC RN := ccMap (ccCons ccBool (ccCons ccU2 (ccCons (ccInt .i64) ccBool))) (fun x => ⟨x.1, x.2.1, x.2.2.1, x.2.2.2⟩) (fun s => (s.neg, s.m, s.e, s.rest)) (fun _ => rfl)
def ccSN : CC SN := ccMap (ccCons (ccInt .u64) (ccCons (ccInt .u8) (ccCons ccBool (ccCons (ccInt .u64) (ccInt .i64))))) (fun x => ⟨x.1, x.2.1, x.2.2.1, x.2.2.2.1, x.2.2.2.2⟩) (fun s => (s.f, s.c, s.neg, s.m, s.e)) (fun _ => rfl)
def ccSP : CC SP := ccMap (ccCons ccBool (ccCons (ccInt .u64) (ccInt .u64))) (fun x => ⟨x.1, x.2.1, x.2.2⟩) (fun s => (s.empty, s.lo, s.hi)) (fun _ => rfl)
def ccSD : CC SD := ccMap (ccCons ccSP (ccCons ccSP (ccCons ccSP (ccCons (ccInt .u64) (ccInt .u64))))) (fun x => ⟨x.1, x.2.1, x.2.2.1, x.2.2.2.1, x.2.2.2.2⟩) (fun s => (s.a, s.b, s.now, s.ea, s.eb)) (fun _ => rfl)
def cU2 : Cod U2 := cStruct ccU2
def cRR : Cod RR := cStruct ccRR
def cRN : Cod RN := cStruct ccRN
def cSN : Cod SN := cStruct ccSN
def cSP : Cod SP := cStruct ccSP
def cSD : Cod SD := cStruct ccSD
def cRow (ks : List Ct) : Cod (List (List Cv)) := cRows ks id id (fun _ => rfl)
end Go.Ev
namespace Go.Ev
open Go.RowKit Go.ChangeShapes Go.WideShapes
variable {P : Program}
end Go.Ev
namespace Go.Ev
open Go.RowKit
def plus (a : Act) (ds : List Deferred) : Act := { a with defers := a.defers ++ ds }
def FR (r : Option Nat) : Fence := { Fence.wide with round := r }
variable {P : Program} {C : Ctx} {B : Nat} {w0 : World} {r : Option Nat} {n : Nat} {ds : List Deferred}
theorem callsIn_FR {f : FuncId} {args : Array Value} {w : World} {R : Ending → World → Prop} (h : Calls P f args w R) : CallsIn (FR r) n P f args w R :=
  (callsIn_wide (n := n)).2 h
theorem plus_nil (a : Act) : plus a [] = a := by simp [plus]
theorem put_keep {a : Act} {d : Option Nat} {v : Value} {t : Nat} (h : d ≠ some t) : (a.put d v).tmps[t]? = a.tmps[t]? := by
  cases d with
  | none => rfl
  | some d =>
    have : d ≠ t := fun e => h (by rw [e])
    simp [Act.put, this]
theorem op_in {o : Oper} {a : Act} {w : World} {next next' : Act → World → Prop} {Q Q' : Exit → Act → World → Prop} (hd : ∀ c, o.op ≠ .defer c) (h : o.wp P a w next Q)
    (hn : ∀ a' w', (∀ t, o.dst ≠ some t → a'.tmps[t]? = a.tmps[t]?) → next a' w' → next' (plus a' ds) w') (hp : ∀ ch w', Q (.panic ch) a w' → Q' (.panic ch) (plus a ds) w') (hl : ¬ LetsOut Q) :
    o.wpIn (FR r) n P (plus a ds) w next' Q' := by
  refine ⟨fun _ _ => trivial, ?_⟩
  have e : o.semAt (FR r).round (plus a ds).eval = execOp a.eval o := by
    cases r with
    | none => rfl
    | some l => exact Oper.semAt_some l _ _ hd
  rw [e]
  unfold Oper.wp at h
  have hput : ∀ v, (plus a ds).put o.dst v = plus (a.put o.dst v) ds := fun v => by cases o.dst <;> rfl
  have hk : ∀ v t, o.dst ≠ some t → (a.put o.dst v).tmps[t]? = a.tmps[t]? := fun v t h => put_keep h
  have hroom : ((FR r).depth.isSome = true → 1 ≤ n) := fun h => by simp [FR, Fence.wide] at h
  generalize (execOp a.eval o).run P w = res at h ⊢
  cases res with
  | ok nx w' =>
    cases nx with
    | value v => show next' _ _; rw [hput]; exact hn _ _ (hk _) h
    | skip => show next' _ _; rw [hput]; exact hn _ _ (hk _) h
    | defer d =>
      show next' _ _
      have : ({ plus a ds with defers := d :: (plus a ds).defers } : Act).put o.dst undef = plus (({ a with defers := d :: a.defers } : Act).put o.dst undef) ds := by cases o.dst <;> rfl
      rw [this]
      exact hn _ _ (fun t ht => put_keep (a := { a with defers := d :: a.defers }) ht) h
    | enter f args =>
      refine ⟨hroom, callsIn_FR (Calls.mono h ?_)⟩
      rintro ed w'' hh
      cases ed with
      | returned v => show next' _ _; rw [hput]; exact hn _ _ (hk _) hh
      | panicked ch => exact hp _ _ hh
      | outgrown => exact absurd hh hl
    | row row args =>
      refine ⟨hroom, fun c cs _ => ?_⟩
      obtain ⟨v, w'', h1, h2⟩ := h c cs
      refine ⟨v, w'', ?_, stepsIn_wide.2 h2⟩
      show next' ((plus a ds).put o.dst v) w''
      rw [hput]; exact hn _ _ (hk _) h1
    | _ => exact h.elim
  | halt hx w' =>
    cases hx <;> first | exact h.elim | exact hp _ _ h
theorem ops_in {ops : Array Oper} {l : List Nat} {a0 : Act} {Q Q' : Exit → Act → World → Prop} (hnd : ∀ o ∈ ops.toList, ∀ c, o.op ≠ .defer c) (hdst : ∀ o ∈ ops.toList, ∀ d, o.dst = some d → d ∈ l) (hl : ¬ LetsOut Q)
    (hQ : ∀ e a w, (∀ t, t ∉ l → a.tmps[t]? = a0.tmps[t]?) → Q e a w → Q' e (plus a ds) w) :
    ∀ (is : List Nat) (a : Act) (w : World), (∀ t, t ∉ l → a.tmps[t]? = a0.tmps[t]?) → wpOps P ops Q is a w → wpOpsIn (FR r) n P ops Q' is (plus a ds) w
  | [], a, w, hk, h => hQ _ _ _ hk h
  | i :: is, a, w, hk, h => by
    simp only [wpOps] at h
    simp only [wpOpsIn]
    cases ho : ops[i]? with
    | none => rw [ho] at h; exact ops_in hnd hdst hl hQ is a w hk h
    | some o =>
      rw [ho] at h
      simp only at h ⊢
      have hm : o ∈ ops.toList := by
        obtain ⟨hi, rfl⟩ := Array.getElem?_eq_some_iff.1 ho
        exact Array.getElem_mem_toList hi
      have hsame : yielded ops (plus a ds).tmps = yielded ops a.tmps := rfl
      rw [hsame]
      have hk' : ∀ a' : Act, (∀ t, o.dst ≠ some t → a'.tmps[t]? = a.tmps[t]?) → ∀ t, t ∉ l → a'.tmps[t]? = a0.tmps[t]? := fun a' h' t ht => (h' t fun e => ht (hdst o hm t e)).trans (hk t ht)
      by_cases hw : Region.wanted o (yielded ops a.tmps) = true
      · rw [if_pos hw] at h ⊢
        rcases h with h | h
        · exact op_in (hnd o hm) h (fun a' w' h' hx => ops_in hnd hdst hl hQ is a' w' (hk' a' h') hx) (fun ch w' hx => hQ _ _ _ hk hx) hl
        · exact absurd h.2 hl
      · rw [if_neg hw] at h ⊢
        refine ⟨fun _ _ => trivial, ?_⟩
        have hput : (plus a ds).put o.dst undef = plus (a.put o.dst undef) ds := by cases o.dst <;> rfl
        rw [hput]
        exact ops_in hnd hdst hl hQ is _ w (hk' _ fun t ht => put_keep ht) h
def noDef (ops : Array Oper) : Bool := ops.toList.all fun o => match o.op with
  | .defer _ => false
  | _ => true
theorem noDef_spec {ops : Array Oper} (h : noDef ops = true) : ∀ o ∈ ops.toList, ∀ c, o.op ≠ .defer c := by
  intro o ho c e
  have := List.all_eq_true.1 h o ho
  rw [e] at this
  cases this
def dstsO (ops : Array Oper) : List Nat := ops.toList.filterMap (·.dst)
theorem dstsO_spec {ops : Array Oper} : ∀ o ∈ ops.toList, ∀ d, o.dst = some d → d ∈ dstsO ops := fun o ho _d hd => List.mem_filterMap.2 ⟨o, ho, hd⟩
def EWi (P : Program) (C : Ctx) (B : Nat) (w0 : World) (r : Option Nat) (n : Nat) (ds : List Deferred) (c : Code) (l : List Nat) (s : St) (k : X → St → Prop) : Prop :=
  ∀ E a w, Rel C B w0 E s a w → c.wpIn (FR r) n P (fun e a' w' => ∃ x E' s' a1, e = X.out x ∧ a' = plus a1 ds ∧ Rel C B w0 E' s' a1 w' ∧ (∀ t, t ∉ l → a1.tmps[t]? = a.tmps[t]?) ∧ k x s') (plus a ds) w
theorem out_noLets {_a : Act} {Q : X → Env → St → Act → World → Prop} : ¬ LetsOut (fun e a' w' => ∃ x E' s', e = X.out x ∧ Q x E' s' a' w') := by
  rintro ⟨a, w, x, _, _, h, _⟩
  cases x <;> cases h
theorem reg_in (_hm : P.follows .mixedOrders = true) (hC : CtxOK P C) {ops : Array Oper} {id : Nat} {s : St} {k : X → St → Prop} (hnd : noDef ops = true) (h : evReg P C ops false s (k .nrm)) : EWi P C B w0 r n ds (.region id ops false) (dstsO ops) s k := by
  intro E a w hr
  simp only [evReg, cond_false, extK_eq] at h
  obtain ⟨s', h1, h2⟩ := evOps_spec h
  refine wpIn_region (ops_in (a0 := a) (Q := fun e a' w' => ∃ x E' s', e = X.out x ∧ (Rel C B w0 E' s' a' w' ∧ k x s')) (noDef_spec hnd) dstsO_spec (out_noLets (_a := a)) ?_ _ a w (fun _ _ => rfl) ?_)
  · rintro e a' w' hk ⟨x, E', s', rfl, hr', hk'⟩
    exact ⟨x, E', s', a', rfl, rfl, hr', hk, hk'⟩
  · exact dRun_sound hC (hr.ext _) h1 fun E' a' w' hr' => ⟨.nrm, E', s', rfl, hr', h2⟩
theorem draw_in (hm : P.follows .mixedOrders = true) (hC : CtxOK P C) {ops : Array Oper} {lc : List (Option Nat)} {id : Nat} {s : St} {k : X → St → Prop} (hnd : noDef ops = true) (hok : regOK P C ops (closure ops) lc s.heap.length = true)
    (h : extK s ops.size fun s' => evOps P C ops (alo lc (fun i => (closure ops).getD i 0) s.heap.length) s.heap.length (List.range ops.size) s' (k .nrm)) : EWi P C B w0 r n ds (.region id ops true) (dstsO ops) s k := by
  intro E a w hr
  simp only [extK_eq] at h
  obtain ⟨s', h1, h2⟩ := evOps_spec h
  have hl : left ops.size (Array.replicate ops.size false) = List.range ops.size := by
    unfold left
    rw [List.filter_eq_self]
    intro i hi
    have := List.mem_range.1 hi
    simp [Array.getD, this]
  refine wpIn_region_draw fun t => ops_in (a0 := a) (Q := fun e a' w' => ∃ x E' s', e = X.out x ∧ (Rel C B w0 E' s' a' w' ∧ k x s')) (noDef_spec hnd) dstsO_spec (out_noLets (_a := a)) ?_ _ a _ (fun _ _ => rfl) ?_
  · rintro e a' w' hk ⟨x, E', s', rfl, hr', hk'⟩
    exact ⟨x, E', s', a', rfl, rfl, hr', hk, hk'⟩
  · simp only [Region.schedule, hm, Bool.true_or, if_true]
    refine wpAny_sound ops.size t _ a _ (wpAny_of_run hC (regOK_spec hok) ops.size _ E _ a _ s' (by simp) (by rw [hl]; simp) ?_ (hr.ext _).drew (by rw [hl]; exact h1) fun E' a' w' hr' => ⟨.nrm, E', s', rfl, hr', h2⟩)
    intro i hi h0
    simp [Array.getD, hi] at h0
theorem EWi.seq {c d : Code} {l l' : List Nat} {s : St} {k : X → St → Prop} (h : EWi P C B w0 r n ds c l s fun x s' => match x with
    | .nrm => EWi P C B w0 r n ds d l' s' k
    | x => k x s') : EWi P C B w0 r n ds (.seq c d) (l ++ l') s k := by
  intro E a w hr
  refine wpIn_seq (wpIn_mono (h E a w hr) ?_)
  rintro e a' w' ⟨x, E', s', a1, rfl, rfl, hr', hk, hx⟩
  cases x with
  | nrm =>
    refine wpIn_mono (hx E' a1 w' hr') ?_
    rintro e a'' w'' ⟨y, E2, s2, a2, rfl, rfl, hr2, hk2, hy⟩
    exact ⟨y, E2, s2, a2, rfl, rfl, hr2, fun t ht => (hk2 t fun hm => ht (List.mem_append.2 (.inr hm))).trans (hk t fun hm => ht (List.mem_append.2 (.inl hm))), hy⟩
  | ex id => exact ⟨.ex id, E', s', a1, rfl, rfl, hr', fun t ht => hk t fun hm => ht (List.mem_append.2 (.inl hm)), hx⟩
  | ret => exact ⟨.ret, E', s', a1, rfl, rfl, hr', fun t ht => hk t fun hm => ht (List.mem_append.2 (.inl hm)), hx⟩
theorem EWi.mono {c : Code} {l : List Nat} {s : St} {k k' : X → St → Prop} (h : EWi P C B w0 r n ds c l s k) (hk : ∀ x s, k x s → k' x s) : EWi P C B w0 r n ds c l s k' := fun E a w hr =>
  wpIn_mono (h E a w hr) fun _e _a' _w' ⟨x, E', s', a1, h1, h2, h3, h4, h5⟩ => ⟨x, E', s', a1, h1, h2, h3, h4, hk _ _ h5⟩
theorem EWi.ret {s : St} {k : X → St → Prop} (h : k .ret s) : EWi P C B w0 r n ds .ret [] s k := fun E a _w hr => wpIn_ret ⟨.ret, E, s, a, rfl, rfl, hr, fun _ _ => rfl, h⟩
theorem EWi.blockN {id : Nat} {c : Code} {l : List Nat} {s : St} {k : X → St → Prop} (h : EWi P C B w0 r n ds c l s fun x s' => match x with
    | .nrm => k .nrm s'
    | _ => False) : EWi P C B w0 r n ds (.block id c) l s k := by
  intro E a w hr
  refine wpIn_block (wpIn_mono (h E a w hr) ?_)
  rintro e a' w' ⟨x, E', s', a1, rfl, rfl, hr', hk, h'⟩
  cases x with
  | nrm => exact ⟨.nrm, E', s', a1, rfl, rfl, hr', hk, h'⟩
  | ex id => exact h'.elim
  | ret => exact h'.elim
def mkD (T : Tab) (F X : Nat → Prop) : Ctx := ⟨lookS T, fun _ => none, fun _ => .nilFunc, lookW T, F, X, none⟩
theorem mkD_ok {T : Tab} (h : AllGood P T) (F X : Nat → Prop) : CtxOK P (mkD T F X) where
  sum f sm hs := (h _ (lookS_mem hs)).imp (fun g => ⟨g.1, g.2 _⟩) id
  fsum i sm hs := by cases hs
  wsum f sm hs := ⟨(h _ (lookW_mem hs)).1, (h _ (lookW_mem hs)).2 _⟩
theorem SV.rel_D {T T' : Tab} {F F' Y Y' : Nat → Prop} {E : Env} {w : World} {s : SV} {v : Value} (h : SV.rel (mkD T F Y) E w s v) : SV.rel (mkD T' F' Y') E w s v := by cases s <;> exact h
def keyed (E : Env) (s : St) (n : Nat) : Prop := ∃ k b, s.heap[k]? = some (some (some b)) ∧ E.blk k = some n
theorem keyed_cells {E : Env} {s : St} {a : Act} {w : World} (h : Rel C B w0 E s a w) {m : Nat} (hk : keyed E s m) : E.A m ∧ ∃ vs e f, w.heap[m]? = some (.cells vs e f) := by
  obtain ⟨k, b, hk, hn⟩ := hk
  have hb := h.heap k b hk
  cases b with
  | cells e l =>
    obtain ⟨m', hm, hA, vs, hvs, _⟩ := hb
    simp [Env.blk, hm] at hn; subst hn
    exact ⟨hA, _, _, _, hvs⟩
  | grow e xs =>
    obtain ⟨v, hv, hβ, hA, _, ho⟩ := hb
    have hn' : v.ownBlock = some m := by simpa [Env.blk, hβ, hv] using hn
    refine ⟨hA m hn', ?_⟩
    rcases ho.2 with ⟨rfl, _⟩ | ⟨g, cap, cur, rfl, _, hgc, _⟩
    · cases hn'
    · simp only [Value.ownBlock, Option.some.injEq] at hn'
      subst hn'
      exact ⟨_, _, _, hgc⟩
theorem Rel.rebase {T T' : Tab} {F Y : Nat → Prop} {E : Env} {s : St} {a : Act} {w : World} (h : Rel (mkD T F Y) B w0 E s a w) : Rel (mkD T' F (keyed E s)) w.heap.size w { E with A := keyed E s, X := keyed E s } s a w := by
  have hkA : ∀ n, keyed E s n → E.A n := fun n hn => (keyed_cells h hn).1
  have hext : ExtE E { E with A := keyed E s, X := keyed E s } w w := ⟨fun _ _ h => h, fun _ _ h => h, fun n _ hn => hkA n hn, fun _ _ _ h => h, Nat.le_refl _, fun _ _ _ _ h => h⟩
  refine { slots := h.slots.mono fun _ _ _ hr => AV.rel_map hr fun _ _ hs => SV.rel_D (SV.rel_ext hs hext), defers := h.defers, heap := ?_, free := h.free, lo := fun n hn => ⟨.inr hn, (h.lo n (hkA n hn)).2⟩, inj := h.inj, below := BelowX.refl _ _ _, base := Nat.le_refl _, ok := ⟨fun n hn => h.ok.F n (Nat.le_trans h.base hn), fun n hn => ?_, h.ok.eF, rfl, fun v hv => by cases hv⟩ }
  · intro k b hk
    have hb := h.heap k b hk
    cases b with
    | cells e l =>
      obtain ⟨m, hm, hA, vs, hvs, hvr, h1⟩ := hb
      exact ⟨m, hm, ⟨k, _, hk, by simp [Env.blk, hm]⟩, vs, hvs, hvr.mono fun _ _ _ hs => SV.rel_D (SV.rel_ext hs hext), h1⟩
    | grow e xs =>
      obtain ⟨v, hv, hβ, hA, hf, ho⟩ := hb
      exact ⟨v, hv, hβ, fun n hn => ⟨k, _, hk, by simp [Env.blk, hβ, hv, hn]⟩, hf, ho⟩
  · rcases (h.lo n (hkA n hn)).1 with h1 | h1
    · exact h.ok.F n h1
    · exact h.ok.X n h1
theorem Rel.unbase {T T' : Tab} {F Y : Nat → Prop} {E : Env} {s : St} {a : Act} {w W : World} (h : Rel (mkD T F Y) w.heap.size w E s a W) {n0 : Nat} {w00 : World} (hF : ∀ n, n0 ≤ n → F n) (hY : ∀ n, Y n → n0 ≤ n) (hb : BelowX (fun _ => False) n0 w00 w) (hn : n0 ≤ w.heap.size) :
    Rel (mkD T' F fun _ => False) n0 w00 { E with X := fun _ => False } s a W := by
  have hEX : ∀ n, E.X n → n0 ≤ n := fun n hn => hY n (by rw [h.ok.eX] at hn; exact hn)
  have hext : ExtE E { E with X := fun _ => False } W W := ⟨fun _ _ h => h, fun _ _ h => h, fun n _ hn => hn, fun _ _ _ h => h, Nat.le_refl _, fun _ _ _ _ h => h⟩
  refine { slots := h.slots.mono fun _ _ _ hr => AV.rel_map hr fun _ _ hs => SV.rel_D (SV.rel_ext hs hext), defers := h.defers, heap := ?_, free := h.free, lo := fun n hn' => ⟨.inl ?_, (h.lo n hn').2⟩, inj := h.inj, below := ?_, base := Nat.le_trans hn h.base, ok := ⟨fun n hn => by show E.F n; rw [h.ok.eF]; exact hF n hn, fun n hn => hn.elim, h.ok.eF, rfl, fun v hv => by cases hv⟩ }
  · intro k b hk
    have hb := h.heap k b hk
    cases b with
    | cells e l =>
      obtain ⟨m, hm, hA, vs, hvs, hvr, h1⟩ := hb
      exact ⟨m, hm, hA, vs, hvs, hvr.mono fun _ _ _ hs => SV.rel_D (SV.rel_ext hs hext), h1⟩
    | grow e xs => exact hb
  · rcases (h.lo n hn').1 with h1 | h1
    · exact Nat.le_trans hn h1
    · exact hEX n h1
  · have hb2 := h.below
    exact ⟨hb2.os.trans hb.os, hb2.tape.trans hb.tape, hb2.output.trans hb.output, Nat.le_trans hb.size hb2.size, fun k hk _ => (hb2.block k (by omega) fun hx => by have := hEX k hx; omega).trans (hb.block k hk id)⟩
theorem Rel.re {E : Env} {s : St} {a a' : Act} {w : World} (h : Rel C B w0 E s a w) {sl : List AV} {h2 : List (Option (Option Blk))} {m : Nat} (hs : AllR (AV.rel C E w) sl a'.tmps.toList) (hd : a'.defers = []) (hh : s.heap = h2 ++ List.replicate m none) :
    Rel C B w0 E ⟨sl, h2⟩ a' w := by
  have hget : ∀ k b, h2[k]? = some (some (some b)) → s.heap[k]? = some (some (some b)) := fun k b hk => by
    rw [hh, List.getElem?_append_left (list_get_lt hk)]; exact hk
  refine { slots := hs, defers := hd, heap := fun k b hk => h.heap k b (hget k b hk), free := ?_, lo := h.lo, inj := fun k k' b b' n h1 h2 => h.inj k k' b b' n (hget _ _ h1) (hget _ _ h2), below := h.below, base := h.base, ok := h.ok }
  intro k hk
  refine h.free k ?_
  rw [hh, List.getElem?_append]
  split
  · rename_i hlt
    rcases hk with hk | hk
    · exact .inl hk
    · simp only at hk
      rw [List.getElem?_eq_none_iff] at hk; omega
  · rw [List.getElem?_replicate]
    split
    · exact .inl rfl
    · exact .inr rfl
theorem Rel.turn {E : Env} {s : St} {a : Act} {w W : World} {row : Option Nat} (h : Rel C B w0 E s a w) (hg : w.grownBy W row) (hr : ∀ r, row = some r → B ≤ r ∧ ∃ o : Obj, w.heap[r]? = some o ∧ o.isCells = false) : Rel C B w0 E s a W := by
  have hcell : ∀ b o u, w.cell? ⟨b, o, none⟩ = some u → W.cell? ⟨b, o, none⟩ = some u := fun b o u hu => cell_kept hu hg fun r e => (hr r e).2
  have hext : ExtE E E w W := ⟨fun _ _ h => h, fun _ _ h => h, fun _ _ h => h, fun _ _ _ h => h, hg.size, fun b o u _ hu => hcell b o u hu⟩
  refine { slots := h.slots.mono fun _ _ _ hr => AV.rel_map hr fun _ _ hs => SV.rel_ext hs hext, defers := h.defers, heap := ?_, free := h.free, lo := fun n hn => ⟨(h.lo n hn).1, Nat.lt_of_lt_of_le (h.lo n hn).2 hg.size⟩, inj := h.inj, below := h.below.grown hg h.base fun k e => .inl (hr k e).1, base := Nat.le_trans h.base hg.size, ok := h.ok }
  intro k b hk
  have hb := h.heap k b hk
  cases b with
  | cells e l =>
    obtain ⟨m, hm, hA, vs, hvs, hvr, h1⟩ := hb
    refine ⟨m, hm, hA, vs, ?_, hvr.mono fun _ _ _ hs => SV.rel_ext hs hext, h1⟩
    rw [hg.block m (heap_get_lt hvs) fun e => by
      obtain ⟨_, o, ho, hc⟩ := hr m e.symm
      rw [hvs] at ho; cases ho; cases hc]
    exact hvs
  | grow e xs =>
    obtain ⟨v, hv, hβ, hA, hf, ho⟩ := hb
    refine ⟨v, hv, hβ, hA, hf, ho.kept hg ?_⟩
    rcases ho.2 with ⟨rfl, _⟩ | ⟨g, cap, cur, rfl, _, hgc, _⟩
    · exact .inl rfl
    · refine .inr fun e => ?_
      obtain ⟨_, o, ho', hc⟩ := hr g e.symm
      rw [hgc] at ho'; cases ho'; cases hc
def simpleC : Code → Bool
  | .region _ ops _ => noDef ops
  | .seq a b => simpleC a && simpleC b
  | .ret => true
  | _ => false
def dsts : Code → List Nat
  | .region _ ops _ => dstsO ops
  | .seq a b => dsts a ++ dsts b
  | _ => []
theorem evC_in (hm : P.follows .mixedOrders = true) (hC : CtxOK P C) {L : Loops} {u : Nat} : ∀ (c : Code), simpleC c = true → ∀ (s : St) (k : X → St → Prop), evC P C L u c s k → EWi P C B w0 r n ds c (dsts c) s k
  | .region id ops draw, hs, s, k, h => by
    have h : evReg P C ops draw s (k .nrm) := h
    cases draw with
    | false => exact reg_in hm hC hs h
    | true =>
      simp only [evReg, cond_true] at h
      cases hok : regOK P C ops (closure ops) (locs ops s s.heap.length) s.heap.length with
      | false => rw [hok] at h; exact h.elim
      | true => rw [hok] at h; exact draw_in hm hC hs hok h
  | .seq c d, hs, s, k, h => by
    simp only [simpleC, Bool.and_eq_true] at hs
    refine EWi.seq (EWi.mono (evC_in hm hC c hs.1 s _ h) fun x s' hk => ?_)
    cases x with
    | nrm => exact evC_in hm hC d hs.2 s' k hk
    | ex id => exact hk
    | ret => exact hk
  | .ret, _, s, k, h => EWi.ret h
theorem slots_keep {E : Env} {w : World} {sl sl' : List AV} {a a' : Act} (h : AllR (AV.rel C E w) sl a.tmps.toList) (hl : sl'.length = a'.tmps.size) (hk : ∀ (i : Nat) (x : AV), sl'[i]? = some x → x = (AV.one false [SV.top]) ∨ (sl[i]? = some x ∧ a.tmps[i]? = a'.tmps[i]?) ∨ (∃ v, a'.tmps[i]? = some v ∧ AV.rel C E w x v)) : AllR (AV.rel C E w) sl' a'.tmps.toList := by
  refine ⟨by simpa using hl, fun i x v hx hv => ?_⟩
  rcases hk i x hx with rfl | ⟨h1, h2⟩ | ⟨u, h1, h2⟩
  · trivial
  · refine h.2 i x v h1 ?_
    simp only [Array.getElem?_toList] at hv ⊢
    rw [h2]; exact hv
  · simp only [Array.getElem?_toList] at hv
    rw [h1] at hv; cases hv; exact h2
end Go.Ev
namespace Go.Ev
open Go.RowKit
theorem joined_of {P : Program} {f : FuncId} {fn : Func} {s : ChangeSpec} {c : OpenClaim}
    (h0 : (c.wf (OpenSpec.ofChange s)) = true)
    (h1 : (laidOutB P) = true)
    (h2 : (mapsRowed P) = true)
    (h3 : (fn.params.all (P.readableRec ·)) = true)
    (h4 : (namedTie P c.named s.vars) = true)
    (h5 : ((c.stops == [])) = true)
    (h6 : ((P.stops == [])) = true)
    (h7 : ((c.knobs == [])) = true)
    (h8 : ((P.stopKnobs == [])) = true)
    (h9 : ((c.inPlace == P.inPlace f)) = true)
    (h10 : ((c.unfollowed == P.unfollowed f)) = true)
    (h11 : ((c.recurses == P.recurses f)) = true)
    (h12 : ((c.named == P.varsNamed f)) = true)
    (h13 : ((c.maps == (fn.params.toList ++ s.plain.varTypes P).any (P.mapsRec ·))) = true)
    (h14 : ((c.ifaces == (fn.params.toList ++ s.plain.varTypes P).any (P.ifacesRec ·))) = true)
    (h15 : ((c.mapsOut == P.mapsAmong fn.resultTypes.toList)) = true)
    (h16 : ((c.loops == (fn.params.toList ++ s.plain.varTypes P).any (P.loopsFrom ·))) = true)
    (h17 : ((c.wideKeys == (fn.params.toList ++ s.plain.varTypes P ++ fn.resultTypes.toList).any (P.wideKeysFrom ·))) = true)
    (h18 : (s.vars.all (P.varReadable ·)) = true)
    (h19 : (fn.resultTypes.all (fun t => P.readableRec t && decide (t < P.types.size))) = true)
    (h20 : ((c.ifacesOut == fn.resultTypes.toList.any (P.ifacesRec ·))) = true)
    (h21 : ((c.loopsOut == fn.resultTypes.toList.any (P.loopsFrom ·))) = true)
    (h22 : ((c.plainKeys == P.plainKeys)) = true)
    (h23 : (c.shortTexts.isNone) = true)
    (h24 : (P.stopsHeard) = true)
    (h25 : (P.mayEnter) = true)
    (h26 : ((c.lifted == P.liftsFinal)) = true)
    (h27 : ((P.make == some c.make)) = true)
    (h28 : ((c.kinds == (if c.domain.isEmpty then [] else fn.params.toList.map fun t => match P.underlying t with | some (.int k) => some k | _ => none))) = true)
    (h29 : ((c.pinned == c.pinnedBy)) = true)
    (h30 : ((c.veiled == (fn.params.toList ++ s.plain.varTypes P ++ fn.resultTypes.toList).any (P.veiledRec ·))) = true)
    (h31 : (c.veiledFits P fn.params.toList (fn.params.toList ++ s.plain.varTypes P ++ fn.resultTypes.toList)) = true)
    : joinedFacts P f fn s c = true := by
  unfold joinedFacts
  simp only [Bool.and_eq_true]
  exact ⟨⟨⟨⟨⟨⟨⟨⟨⟨⟨⟨⟨⟨⟨⟨⟨⟨⟨⟨⟨⟨⟨⟨⟨⟨⟨⟨⟨⟨⟨⟨h0, h1⟩, h2⟩, h3⟩, h4⟩, h5⟩, h6⟩, h7⟩, h8⟩, h9⟩, h10⟩, h11⟩, h12⟩, h13⟩, h14⟩, h15⟩, h16⟩, h17⟩, h18⟩, h19⟩, h20⟩, h21⟩, h22⟩, h23⟩, h24⟩, h25⟩, h26⟩, h27⟩, h28⟩, h29⟩, h30⟩, h31⟩
end Go.Ev
namespace Go.Ev
open Go.RowKit
theorem signs_of {s : String} {L : List Char} (h : s = String.ofList L) : s.toList = L := by rw [h, String.toList_ofList]
def notSp (c : Char) : Bool := !(c == Char.ofNat 32)
theorem words_step : ∀ L : List Char, wordsSigns L = L.takeWhile notSp :: (match L.dropWhile notSp with
    | [] => []
    | _ :: r => wordsSigns r)
  | [] => rfl
  | c :: L => by
    by_cases hc : c = Char.ofNat 32
    · subst hc; rfl
    · have hn : notSp c = true := by simp [notSp, hc]
      have ih := words_step L
      have e : wordsSigns (c :: L) = (match wordsSigns L with
        | w :: ws => (c :: w) :: ws
        | [] => [[c]]) := by
        rw [wordsSigns] <;> first | rfl | (intro h; exact hc h)
      rw [e, ih, List.takeWhile_cons_of_pos hn, List.dropWhile_cons_of_pos hn]
def tlW (L : List Char) : List Char := (L.dropWhile notSp).tail
theorem words_one {L : List Char} (h : (L.dropWhile notSp).isEmpty = false) : wordsSigns L = L.takeWhile notSp :: wordsSigns (tlW L) := by
  rw [words_step]
  unfold tlW
  cases hd : L.dropWhile notSp with
  | nil => rw [hd] at h; cases h
  | cons c r => rfl
theorem words_three {L A C : List Char} (h1 : (L.dropWhile notSp).isEmpty = false) (h2 : ((tlW L).dropWhile notSp).isEmpty = false) (h3 : ((tlW (tlW L)).dropWhile notSp).isEmpty = false)
    (k1 : L.takeWhile notSp = A) (k2 : isSumSigns ((tlW L).takeWhile notSp) = true) (k3 : (tlW (tlW L)).takeWhile notSp = C) : ∃ s R, wordsSigns L = A :: s :: C :: R ∧ isSumSigns s = true :=
  ⟨_, _, by rw [words_one h1, words_one h2, words_one h3, k1, k3], k2⟩
theorem behind_cut {P : Program} (h : ∃ s R, wordsSigns P.initOrder.toList = "harness".toList :: s :: "cut".toList :: R ∧ isSumSigns s = true) : ∃ R, behindMainWord (wordsSigns P.initOrder.toList) = "cut".toList :: R := by
  obtain ⟨s, R, h1, h2⟩ := h
  exact ⟨R, by rw [h1]; simp only [behindMainWord, h2]; rfl⟩
theorem strip_cut (R : List (List Char)) : stripLifts liftWords ("cut".toList :: R) = ([], "cut".toList :: R) := by
  have e : ∀ (os : List String), (os.all fun o => !("cut".toList == o.toList)) = true → stripLifts os ("cut".toList :: R) = ([], "cut".toList :: R) := by
    intro os
    induction os with
    | nil => intro _; rfl
    | cons o os ih =>
      intro h
      simp only [List.all_cons, Bool.and_eq_true] at h
      have h1 : ("cut".toList == o.toList) = false := by simpa using h.1
      show (if ("cut".toList == o.toList) = true then _ else _) = _
      rw [h1]
      exact ih h.2
  exact e liftWords (by decide +kernel)
theorem mayEnter_cut {P : Program} (h : ∃ R, behindMainWord (wordsSigns P.initOrder.toList) = "cut".toList :: R) (h1 : P.laysLater = false) (h2 : P.bearsReflect = false) (h3 : P.doorFits [] = true) : P.mayEnter = true := by
  obtain ⟨R, hR⟩ := h
  unfold Program.mayEnter
  rw [hR]
  simp only [strip_cut, h1, h2, h3, List.head?_cons, beq_self_eq_true]
  simp
theorem make_cut {P : Program} (h : ∃ R, behindMainWord (wordsSigns P.initOrder.toList) = "cut".toList :: R) : (P.make == some Make.cut) = true := by
  obtain ⟨R, hR⟩ := h
  unfold Program.make
  rw [hR]
  have e1 : ("cut".toList == "gc".toList) = false := by decide +kernel
  have e2 : ("cut".toList == "spec".toList) = false := by decide +kernel
  simp only [e1, e2, beq_self_eq_true]
  rfl
theorem lifts_cut {P : Program} (h : ∃ R, behindMainWord (wordsSigns P.initOrder.toList) = "cut".toList :: R) : P.liftsFinal = false := by
  obtain ⟨R, hR⟩ := h
  unfold Program.liftsFinal Program.headLifts
  rw [hR]
  have e1 : (some "cut".toList == some "carried".toList) = false := by decide +kernel
  simp only [strip_cut, List.head?_cons, e1, beq_self_eq_true]
  rfl
end Go.Ev
namespace Go.Ev
open Go.Fb
open Go.RowKit Go.ChangeShapes Go.WideShapes
end Go.Ev
