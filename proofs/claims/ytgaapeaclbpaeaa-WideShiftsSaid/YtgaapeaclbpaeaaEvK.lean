/- The step of a row whose law hands back true: from a function's contract. Conditions: as the theorems state. -/
import Derived.Test.YtgaapeaclbpaeaaEvJ
import Derived.WalkKit
import Derived.ProofKit
import Derived.OpenShut
import Derived.Carry
import Derived.Deep.Strs
namespace Go.Ev
open Go.RowKit Go.ChangeShapes Go.WideShapes

/-! ### A row's arguments, as the evaluator sees them -/
/-- cells of type t are those of an x that is so -/
def OpensC (P : Program) (t : TypeId) {α : Type} (cells : α → List Value) (ok : α → Prop) : Prop :=
  ∀ (H : Type) (enc : TypeId × Value → H) (W : World) (n : Nat) (cs : List Value) (x : DataW H × List MemPlace), DataW.trod enc P W 0 (fun _ => true) true n t cs = some x → ∃ y, ok y ∧ cs = cells y
def Opens (P : Program) (t : TypeId) {α : Type} (c : Cod α) (ok : α → Prop) : Prop :=
  ∀ (H : Type) (enc : TypeId × Value → H) (W : World) (base : Nat) (v : Value) (d : DataW H) (ps : List MemPlace), Value.okWide P W .any base t v → DataW.Trod enc P W 0 (fun _ => true) true t v d ps → ∃ x, ok x ∧ InR W (c.enc false x) v
def AOpens (P : Program) (ts : List TypeId) {α : Type} (A : ACod α) (ok : α → Prop) : Prop :=
  ∀ (H : Type) (enc : TypeId × Value → H) (W : World) (base : Nat) (vs : List Value) (ds : List (DataW H)) (ps : List MemPlace), (∀ (j : Nat) t v, ts[j]? = some t → vs[j]? = some v → Value.okWide P W .any base t v) →
    DataW.TrodAll enc P W 0 (fun _ => true) true ts vs ds ps → ∃ x, ok x ∧ AllR (InR W) (A.enc false x) vs

variable {P : Program}
theorem AOpens.nil : AOpens P [] aNil fun _ => True := by
  intro H enc W base vs ds ps _ h
  obtain ⟨rfl, _, _⟩ := trodAll_nil h
  exact ⟨(), trivial, AllR.nil⟩
theorem AOpens.one {t : TypeId} {α : Type} {c : Cod α} {ok : α → Prop} (h : Opens P t c ok) : AOpens P [t] (aOne c) ok := by
  intro H enc W base vs ds ps hv ht
  obtain ⟨v, vs', d, ds', p, q, rfl, rfl, rfl, hd, hr⟩ := trodAll_cons ht
  obtain ⟨rfl, _, _⟩ := trodAll_nil hr
  obtain ⟨x, hx, hin⟩ := h H enc W base v d p (hv 0 t v rfl rfl) hd
  exact ⟨x, hx, AllR.cons hin AllR.nil⟩
theorem AOpens.cons {t : TypeId} {ts : List TypeId} {α β : Type} {c : Cod α} {A : ACod β} {ok : α → Prop} {ok' : β → Prop} (h : Opens P t c ok) (h' : AOpens P ts A ok') : AOpens P (t :: ts) (aCons c A) fun x => ok x.1 ∧ ok' x.2 := by
  intro H enc W base vs ds ps hv ht
  obtain ⟨v, vs', d, ds', p, q, rfl, rfl, rfl, hd, hr⟩ := trodAll_cons ht
  obtain ⟨x, hx, hin⟩ := h H enc W base v d p (hv 0 t v rfl rfl) hd
  obtain ⟨y, hy, hin'⟩ := h' H enc W base vs' ds' q (fun j t v h1 h2 => hv (j + 1) t v h1 h2) hr
  exact ⟨(x, y), ⟨hx, hy⟩, AllR.cons hin hin'⟩

def okInt (k : IntKind) (n : Int) : Prop := (Lit.int k n).wf = true
theorem opens_bool {t : TypeId} (ht : P.underlying t = some .bool) : Opens P t cBool fun _ => True := by
  intro H enc W base v d ps hv h
  obtain ⟨b, rfl, _, _⟩ := open_bool ht hv h
  exact ⟨b, trivial, fun C E _ => rfl⟩
theorem opens_int {t : TypeId} {k : IntKind} (ht : P.underlying t = some (.int k)) : Opens P t (cInt k) (okInt k) := by
  intro H enc W base v d ps hv h
  obtain ⟨n, rfl, _, _, hw⟩ := open_int ht hv h
  exact ⟨n, hw, fun C E _ => rfl⟩
theorem opensC_bool {t : TypeId} (ht : P.underlying t = some .bool) : OpensC P t (fun b => [.bool b]) fun _ => True := by
  intro H enc W n cs x h
  obtain ⟨b, rfl, _⟩ := DataW.trod_bool ht h
  exact ⟨b, trivial, rfl⟩
theorem opensC_int {t : TypeId} {k : IntKind} (ht : P.underlying t = some (.int k)) : OpensC P t (fun n => [.int k n]) (okInt k) := by
  intro H enc W n cs x h
  obtain ⟨b, rfl, _, hw⟩ := DataW.trod_int ht h
  exact ⟨b, hw, rfl⟩
theorem opensC_struct2 {t : TypeId} {f0 f1 : Field} {α β : Type} {c0 : α → List Value} {c1 : β → List Value} {ok0 : α → Prop} {ok1 : β → Prop} (ht : P.underlying t = some (.struct #[f0, f1]))
    (h0 : OpensC P f0.type c0 ok0) (h1 : OpensC P f1.type c1 ok1) (ho : f0.offset = 0 ∧ f1.offset = P.cellsOf f0.type ∧ P.cellsOf t = P.cellsOf f0.type + P.cellsOf f1.type) :
    OpensC P t (fun x : α × β => c0 x.1 ++ c1 x.2) fun x => ok0 x.1 ∧ ok1 x.2 := by
  intro H enc W n cs x h
  obtain ⟨y0, y1, m, _, hl, e0, e1⟩ := trod_struct2 ht h
  obtain ⟨x0, k0, hc0⟩ := h0 _ _ _ _ _ _ e0
  obtain ⟨x1, k1, hc1⟩ := h1 _ _ _ _ _ _ e1
  refine ⟨(x0, x1), ⟨k0, k1⟩, ?_⟩
  show cs = c0 x0 ++ c1 x1
  rw [← hc0, ← hc1, ho.1, ho.2.1, List.drop_zero]
  rw [ho.2.2] at hl
  have : (cs.drop (P.cellsOf f0.type)).take (P.cellsOf f1.type) = cs.drop (P.cellsOf f0.type) := List.take_of_length_le (by simp; omega)
  rw [this, List.take_append_drop]
theorem opensC_struct3 {t : TypeId} {f0 f1 f2 : Field} {α β γ : Type} {c0 : α → List Value} {c1 : β → List Value} {c2 : γ → List Value} {ok0 : α → Prop} {ok1 : β → Prop} {ok2 : γ → Prop} (ht : P.underlying t = some (.struct #[f0, f1, f2]))
    (h0 : OpensC P f0.type c0 ok0) (h1 : OpensC P f1.type c1 ok1) (h2 : OpensC P f2.type c2 ok2)
    (ho : f0.offset = 0 ∧ f1.offset = P.cellsOf f0.type ∧ f2.offset = P.cellsOf f0.type + P.cellsOf f1.type ∧ P.cellsOf t = P.cellsOf f0.type + P.cellsOf f1.type + P.cellsOf f2.type) :
    OpensC P t (fun x : α × β × γ => c0 x.1 ++ (c1 x.2.1 ++ c2 x.2.2)) fun x => ok0 x.1 ∧ ok1 x.2.1 ∧ ok2 x.2.2 := by
  intro H enc W n cs x h
  obtain ⟨y0, y1, y2, m, _, hl, e0, e1, e2⟩ := Go.Deep.trod_struct3 ht h
  obtain ⟨x0, k0, hc0⟩ := h0 _ _ _ _ _ _ e0
  obtain ⟨x1, k1, hc1⟩ := h1 _ _ _ _ _ _ e1
  obtain ⟨x2, k2, hc2⟩ := h2 _ _ _ _ _ _ e2
  refine ⟨(x0, x1, x2), ⟨k0, k1, k2⟩, ?_⟩
  simp only
  rw [← hc0, ← hc1, ← hc2, ho.1, ho.2.1, ho.2.2.1, List.drop_zero]
  rw [ho.2.2.2] at hl
  have : (cs.drop (P.cellsOf f0.type + P.cellsOf f1.type)).take (P.cellsOf f2.type) = cs.drop (P.cellsOf f0.type + P.cellsOf f1.type) := List.take_of_length_le (by simp; omega)
  rw [this, ← List.drop_drop, List.take_append_drop, List.take_append_drop]
/-- a struct of plain cells, by value -/
theorem opens_struct {t : TypeId} {fs : Array Field} (ht : P.underlying t = some (.struct fs)) {α β : Type} {cells : α → List Value} {ok : α → Prop} (h : OpensC P t cells ok) {c : Cod β} {ok' : β → Prop} (to : α → β)
    (hc : ∀ x, c.enc false (to x) = .one true ((cells x).map fun v => match v with | .bool b => .bool b | .int k n => .int k n | v => .val v)) (hk : ∀ x, ok x → ok' (to x)) : Opens P t c ok' := by
  intro H enc W base v d ps hv hd
  obtain ⟨cs, rfl, _⟩ := okWide_struct ht hv
  obtain ⟨n, hn⟩ := hd
  obtain ⟨x, hx, hcs⟩ := h _ _ _ _ _ _ hn
  have hcs' : cs.toList = cells x := by simpa [Value.cells] using hcs
  refine ⟨to x, hk x hx, fun C E _ => ?_⟩
  rw [hc]
  refine ⟨cs, rfl, ?_⟩
  rw [hcs']
  refine ⟨by simp, fun i a b h1 h2 => ?_⟩
  rw [List.getElem?_map, h2] at h1
  simp only [Option.map_some, Option.some.injEq] at h1
  subst h1
  split <;> rfl

/-! ### What a law's row asks -/
theorem law_post {H : Type} {enc : TypeId × Value → H} {f : Func} {s : ChangeSpec} {apart fresh handsOn again : Bool} {W W' : World} {args : Array Value} {ds gs : List (DataW H)} {before : List MemPlace}
    (hl : laidOutB P = true) (hts : ∀ t ∈ f.params.toList, P.readableRec t = true ∧ t < P.types.size) {tb : TypeId} (hrt : f.resultTypes = #[tb]) (hb : P.underlying tb = some .bool) (hvn : s.vars = [])
    (hfn : s.fn H (ds ++ gs) = { results := [.lit (.bool true)], args := ds }) (hW : DataW.Whole enc P f.params.toList s.vars apart W args.toList ds gs before) (hbel : Below W.heap.size W W') :
    s.post enc P f apart fresh handsOn again W args (.bool true) W' := by
  have hW' := hW
  obtain ⟨p, q, hA, hV, hpq, hz, hn⟩ := hW
  rw [hvn] at hV
  obtain ⟨rfl, rfl⟩ := trodVars_none hV
  rw [List.append_nil] at hpq
  subst hpq
  have hlt : ∀ x ∈ before, x.block < W.heap.size := fun x hx => by simpa using hW'.lt x hx
  have hstay : ∀ sp : Nat → Bool, (∀ x ∈ before, sp x.block = true) → DataW.TrodAll enc P W' 0 sp true f.params.toList args.toList ds before := by
    intro sp hsp
    have key : ∀ (ts : List TypeId) (vs : List Value) (ds : List (DataW H)) (ps : List MemPlace), (∀ t ∈ ts, P.readableRec t = true ∧ t < P.types.size) → DataW.TrodAll enc P W 0 (fun _ => true) true ts vs ds ps → (∀ x ∈ ps, x.block < W.heap.size) → (∀ x ∈ ps, sp x.block = true) →
        DataW.TrodAll enc P W' 0 sp true ts vs ds ps := by
      intro ts
      induction ts with
      | nil => intro vs ds ps _ h _ _; obtain ⟨rfl, rfl, rfl⟩ := trodAll_nil h; exact trodAll_mk0
      | cons t ts ih =>
        intro vs ds ps hts h hlt hsp
        obtain ⟨v, vs', d, ds', p, q, rfl, rfl, rfl, hd, hr⟩ := trodAll_cons h
        refine trodAll_cons_mk (WideElems.Trod_stays hl (hts t (by simp)).1 (hts t (by simp)).2 hd (fun x hx => hbel.same (hlt x (by simp [hx]))) (fun x hx => hsp x (by simp [hx]))) ?_
        exact ih _ _ _ (fun t ht => hts t (by simp [ht])) hr (fun x hx => hlt x (by simp [hx])) (fun x hx => hsp x (by simp [hx]))
    exact key _ _ _ _ hts hA hlt hsp
  have hres : ∀ (b : Nat) (sp : Nat → Bool) (hd : Bool), DataW.TrodAll enc P W' b sp hd f.resultTypes.toList ((Value.bool true).resultList f.resultTypes.size) (s.fn H (ds ++ [])).results [] := by
    intro b sp hd
    rw [hfn, hrt]
    exact trodAll_cons_mk (shut_bool hb true) trodAll_mk0
  have hargs : ∀ sp : Nat → Bool, (∀ x ∈ before, sp x.block = true) → DataW.TrodAll enc P W' 0 sp true f.params.toList args.toList (s.fn H (ds ++ [])).args before := by
    intro sp hsp
    rw [hfn]
    exact hstay sp hsp
  have hvars : ∀ sp : Nat → Bool, DataW.TrodVars enc P W' sp s.vars (s.fn H (ds ++ [])).vars [] := by
    intro sp
    rw [hvn, hfn]
    exact rfl
  refine ⟨ds, [], before, [], before, [], hW', hres _ _ _, hargs _ (fun x hx => by simpa using hlt x hx), hvars _, hbel.frame _, fun _ => ?_⟩
  refine ⟨ok_one hrt rfl (okWide_bool_mk hb true), _, _, ([] ++ before) ++ [], ⟨[] ++ before, [], trodAll_append (hargs _ (fun _ _ => rfl)) (hres _ _ _), hvars _, rfl, ?_, ?_⟩, ?_⟩
  · intro b off hp
    have hp' : MemPlace.cell b off ∈ before := by simpa using hp
    rw [hbel.frozen (p := ⟨b, off, none⟩) (hlt _ hp')]
    exact hz b off hp'
  · intro ha
    simpa using hn ha
  · intro p hp _
    simpa using hp
/-- THE ROW's STEP, of a law that hands back true whatever came in -/
theorem law_contract {H : Type} {enc : TypeId × Value → H} {f : Func} {fid : FuncId} {s : ChangeSpec} {apart fresh handsOn again : Bool} {α : Type} {A : ACod α} {ok : α → Prop} (hA : AOpens P f.params.toList A ok)
    (hc : ∀ x, ok x → ∀ w vs, ArgsR (A.enc false x) w vs → Calls P fid vs w (Ans ((o1 cBool).enc true) w))
    (hl : laidOutB P = true) (hts : (f.params.toList.all fun t => P.readableRec t && decide (t < P.types.size)) = true) {tb : TypeId} (hrt : f.resultTypes = #[tb]) (hb : P.underlying tb = some .bool) (hvn : s.vars = [])
    (hfn : ∀ ds : List (DataW H), ds.length = f.params.size → s.fn H ds = { results := [.lit (.bool true)], args := ds })
    {W : World} {base : Nat} {args : Array Value} {ds gs : List (DataW H)} {before : List MemPlace} (hval : ∀ (j : Nat) t v, f.params[j]? = some t → args[j]? = some v → Value.okWide P W .any base t v)
    (hW : DataW.Whole enc P f.params.toList s.vars apart W args.toList ds gs before) :
    Calls P fid args W fun e W' => ∃ v, e = .returned v ∧ s.post enc P f apart fresh handsOn again W args v W' := by
  have hW' := hW
  obtain ⟨p, q, hA0, hV, hpq, hz, hn⟩ := hW
  rw [hvn] at hV
  obtain ⟨rfl, rfl⟩ := trodVars_none hV
  obtain ⟨x, hx, hin⟩ := hA H enc W base args.toList ds p (fun j t v h1 h2 => hval j t v (by simpa using h1) (by simpa using h2)) hA0
  have hlen : ∀ (ts : List TypeId) (vs : List Value) (ds : List (DataW H)) (ps : List MemPlace), DataW.TrodAll enc P W 0 (fun _ => true) true ts vs ds ps → ds.length = ts.length := by
    intro ts
    induction ts with
    | nil => intro vs ds ps h; obtain ⟨rfl, rfl, rfl⟩ := trodAll_nil h; rfl
    | cons t ts ih =>
      intro vs ds ps h
      obtain ⟨v, vs', d, ds', p, q, rfl, rfl, rfl, hd, hr⟩ := trodAll_cons h
      simp [ih _ _ _ hr]
  refine (hc x hx W args hin).mono ?_
  rintro e W' ⟨v, rfl, hv, hb'⟩
  have : v = .bool true := hv (mkC [] fun _ => True) (ES fun _ => True) (fun n h => ⟨fun h => h, fun _ => trivial⟩)
  subst this
  refine ⟨_, rfl, law_post hl (fun t ht => ?_) hrt hb hvn ?_ hW' hb'⟩
  · have := List.all_eq_true.1 hts t ht
    simpa using this
  · rw [List.append_nil]
    exact hfn ds (by simpa using hlen _ _ _ _ hA0)
end Go.Ev
