/- The symbolic evaluator: functions that answer a list of Bools of their own making. Conditions: as each theorem states. -/
import Derived.Test.YtggmmkdfgjnjfaaEc
namespace Go.Ev
open Go.RowKit
variable {P : Program} {C : Ctx} {B : Nat} {w0 : World}
def ownWb {α : Type} (e : TypeId) (A : ACod α) (pre : α → Bool) (g : α → List Bool) : WSumm where
  pre args rd := match A.dec rd args with
    | some x => pre x
    | none => false
  fn args rd key := match A.dec rd args with
    | some x => some (.one false [.own key], [(key, some (.grow e (.bool (g x))))])
    | none => none
/-- the promise of such a function's call -/
def OwnRb (e : TypeId) (ys : List Bool) (w : World) : Ending → World → Prop := fun ed w' => ∃ v, ed = .returned v ∧ (∃ b n c, v = .slice b n c) ∧ (∀ n, v.ownBlock = some n → w.heap.size ≤ n) ∧ w'.ownsRow 0 e 1 v ys.length (VL.bool ys).vals ∧ Below w.heap.size w w'
/-- the list that a result is -/
def finOb (P : Program) (rs : List ResultVar) (e : TypeId) (Q : List Bool → Prop) (x : X) (s : St) : Prop :=
  match x with
  | .ex _ => False
  | _ => match resS P rs s with
    | some (.one false [.own key]) => match s.rd (fun _ => true) key with
      | some (.grow e' (.bool xs)) => cond (Nat.beq e' e) (Q xs) False
      | _ => False
    | some (.one false [.val (.slice none 0 0)]) => Q []
    | _ => False
def evFOb (P : Program) (C : Ctx) (L : Loops) (u : Nat) (fn : Func) (args : List AV) (e : TypeId) (Q : List Bool → Prop) : Prop :=
  match fn.body with
  | some c => forceAs (start args fn.ntmps).slots fun sl => evC P C L u c ⟨sl, []⟩ (finOb P fn.results.toList e Q)
  | none => False
theorem finOb_spec {rs : List ResultVar} {e : TypeId} {Q : List Bool → Prop} {x : X} {s : St} (h : finOb P rs e Q x s) : (x = .nrm ∨ x = .ret) ∧ ∃ ys, Q ys ∧
    ((∃ key, resS P rs s = some (.one false [.own key]) ∧ s.rd (fun _ => true) key = some (.grow e (.bool ys))) ∨ (resS P rs s = some (.one false [.val (.slice none 0 0)]) ∧ ys = [])) := by
  have key : ∀ {p : Prop}, (match resS P rs s with
    | some (.one false [.own key]) => match s.rd (fun _ => true) key with
      | some (.grow e' (.bool xs)) => cond (Nat.beq e' e) (Q xs) False
      | _ => False
    | some (.one false [.val (.slice none 0 0)]) => Q []
    | _ => False) → p ∨ ∃ ys, Q ys ∧
    ((∃ key, resS P rs s = some (.one false [.own key]) ∧ s.rd (fun _ => true) key = some (.grow e (.bool ys))) ∨ (resS P rs s = some (.one false [.val (.slice none 0 0)]) ∧ ys = [])) := by
    intro p hh
    split at hh
    · rename_i key hr
      split at hh
      · rename_i _ e' xs hk
        cases hc : (Nat.beq e' e) with
        | false => rw [hc] at hh; exact hh.elim
        | true =>
          rw [hc] at hh
          have := Nat.eq_of_beq_eq_true hc
          subst this
          exact .inr ⟨xs, hh, .inl ⟨key, hr, hk⟩⟩
      · exact hh.elim
    · rename_i hr
      exact .inr ⟨[], hh, .inr ⟨hr, rfl⟩⟩
    · exact hh.elim
  cases x with
  | nrm => exact ⟨.inl rfl, (key (p := False) h).resolve_left id⟩
  | ret => exact ⟨.inr rfl, (key (p := False) h).resolve_left id⟩
  | ex id => exact h.elim
theorem calls_of_evFOb (hm : P.follows .mixedOrders = true) {f : FuncId} {fn : Func} {w : World} (hC : CtxOK P C) (hX : C.X = fun _ => False) (hv0 : C.v0 = none) (hF : ∀ n, w.heap.size ≤ n → C.F n) {L : Loops} {u : Nat} (hf : P.funcs[f]? = some fn)
    (hL : ∀ c, fn.body = some c → LoopsOK P C w.heap.size w L (loopsIn c)) {args : List AV} {vs : Array Value} (hargs : AllR (AV.rel C (ES C.F) w) args vs.toList) {e : TypeId} {Q : List Bool → Prop} (h : evFOb P C L u fn args e Q) :
    Calls P f vs w fun ed w' => ∃ ys, Q ys ∧ OwnRb e ys w ed w' := by
  unfold evFOb at h
  split at h
  · rename_i c hb
    rw [forceAs_eq] at h
    have h : evC P C L u c (start args fn.ntmps) (finOb P fn.results.toList e Q) := h
    refine calls_of_wp hf hb ?_
    have hrel : Rel C w.heap.size w (ES C.F) (start args fn.ntmps) { tmps := vs ++ Array.replicate (fn.ntmps - vs.size) undef, defers := [] } w := by
      refine { slots := start_slots hargs, defers := rfl, heap := ?_, free := fun _ _ => ⟨rfl, rfl⟩, lo := fun n h => h.elim, inj := ?_, below := BelowX.refl _ _ _, base := Nat.le_refl _, ok := ⟨hF, fun _ h => h.elim, rfl, hX.symm, fun v hv => by rw [hv0] at hv; cases hv⟩ }
      · intro k b hk; simp [start] at hk
      · intro k k' b b' n hk; simp [start] at hk
    refine wp_mono (evC_spec hm hC c (hL c hb) _ _ h _ _ _ hrel) ?_
    rintro ed a' w' ⟨x, E', s', rfl, hr, hk⟩
    obtain ⟨hx, ys, hQ, hres⟩ := finOb_spec hk
    have hnX : ∀ n, ¬ E'.X n := fun n hn => by rw [hr.ok.eX, hX] at hn; exact hn
    have hbl := hr.below.to hnX
    have main : ∃ u, (results fn a'.tmps).run P w' = .ok u w' ∧ OwnRb e ys w (.returned u) w' := by
      rcases hres with ⟨key, h1, h2⟩ | ⟨h1, rfl⟩
      · obtain ⟨u, hu, hur⟩ := resS_spec (P := P) hr h1
        obtain ⟨v, hv, _, hA, _, ho⟩ := rd_rel hr _ _ _ h2
        have h3 := hur.1
        rw [hv] at h3; cases h3
        refine ⟨u, hu, u, rfl, hur.2, fun n hn => ?_, ho, hbl⟩
        rcases (hr.lo n (hA n hn)).1 with h4 | h4
        · exact h4
        · exact absurd h4 (hnX n)
      · obtain ⟨u, hu, hur⟩ := resS_spec (P := P) hr h1
        cases hur
        exact ⟨_, hu, _, rfl, ⟨_, _, _, rfl⟩, fun n hn => (by cases hn), World.ownsRow_nil _ _ _ _, hbl⟩
    obtain ⟨u, hu, hown⟩ := main
    rcases hx with rfl | rfl
    · exact ⟨hr.defers, u, hu, ys, hQ, hown⟩
    · exact ⟨hr.defers, u, hu, ys, hQ, hown⟩
  · exact h.elim
theorem contractOb (hm : P.follows .mixedOrders = true) {T : Tab} (hT : AllGood P T) {f : FuncId} {fn : Func} (hf : P.funcs[f]? = some fn) {L : Loops} {u : Nat} (hL : ∀ F B w0 c, fn.body = some c → LoopsOK P (mkC T F) B w0 L (loopsIn c))
    {args : List AV} {e : TypeId} {t : Tr (List Bool)} (hs : t.safe = true) (h : ∀ F Q, evFOb P (mkC T F) L u fn args e Q = t.prop Q)
    (w : World) (vs : Array Value) (hp : ArgsR args w vs) : Calls P f vs w (OwnRb e t.val w) := by
  refine (calls_of_evFOb hm (mkC_ok hT fun n => w.heap.size ≤ n) rfl rfl (fun _ h => h) hf (fun c hc => hL _ _ _ c hc) (args := args) (hp.mono fun x v _ h => h _ _ fun n _ => ⟨fun h => h, fun e => by cases e⟩)
    (Q := fun ys => ys = t.val) (by rw [h]; exact Tr.prop_val hs rfl)).mono ?_
  rintro ed w' ⟨ys, rfl, h⟩
  exact h
theorem good_ownb {α : Type} {e : TypeId} {A : ACod α} {pre : α → Bool} {g : α → List Bool} {f : FuncId} (hc : callable P f) (h : ∀ x, pre x = true → ∀ w vs, ArgsR (A.enc false x) w vs → Calls P f vs w (OwnRb e (g x) w)) : GoodW P f (ownWb e A pre g) := by
  refine ⟨hc, fun C B w0 E s a w al args vs z ch key hpre hfn hfree _ hR hargs => ?_⟩
  simp only [ownWb] at hpre hfn
  split at hfn
  · rename_i x hx
    rw [hx] at hpre
    cases hfn
    have hin : ArgsR (A.enc false x) w vs := args_in hx (rd_rel hR al) hargs false _ (fun _ _ _ => trivial) (fun _ _ _ _ _ _ _ _ => trivial)
    refine (h x hpre w vs hin).mono ?_
    rintro ed w' ⟨v, rfl, hsh, hnew, ho, hb⟩
    obtain ⟨E', hσ, hE'⟩ := hR.own1 hfree (ys := .bool (g x)) hsh rfl ho (grownBy_of_below hb none) (fun g hg => by cases hg) (fun n hn => .inr (hnew n hn)) none
    exact ⟨v, E', rfl, hE', hσ, hsh⟩
  · cases hfn
end Go.Ev
