/- The symbolic evaluator: a function in pieces. Conditions: as each theorem states. -/
import Derived.Test.YtggmmkdfgjnjfaaEd
namespace Go.Ev
open Go.RowKit
variable {P : Program} {C : Ctx} {B : Nat} {w0 : World}
/-- the first n pieces of a sequence -/
def evTo (P : Program) (C : Ctx) (L : Loops) (u : Nat) : Nat → Code → St → (X → St → Prop) → (St → Prop) → Prop
  | 0, _, s, _, R => R s
  | n + 1, .seq a b, s, k, R => evC P C L u a s fun x s' => match x with
    | .nrm => evTo P C L u n b s' k R
    | .ex id => k (.ex id) s'
    | .ret => k .ret s'
  | _ + 1, _, _, _, _ => False
def tailC : Nat → Code → Code
  | 0, c => c
  | n + 1, .seq _ b => tailC n b
  | _ + 1, c => c
theorem evTo_spec (hm : P.follows .mixedOrders = true) (hC : CtxOK P C) {L : Loops} {u : Nat} {k k' : X → St → Prop} (hk : ∀ x s, k x s → k' x s) : ∀ (n : Nat) (c : Code), LoopsOK P C B w0 L (loopsIn c) → ∀ (s : St) (R : St → Prop), evTo P C L u n c s k R →
    (∀ s', R s' → EW P C B w0 (tailC n c) s' k') → EW P C B w0 c s k'
  | 0, c, _, s, R, h, hr => hr s h
  | n + 1, c, hL, s, R, h, hr => by
    cases c with
    | seq a b =>
      refine EW.seq ((evC_spec hm hC a (fun x hx => hL x (by simp [loopsIn, hx])) s _ h).mono fun x s' hq => ?_)
      cases x with
      | nrm => exact evTo_spec hm hC hk n b (fun x hx => hL x (by simp [loopsIn, hx])) s' R hq hr
      | ex id => exact hk _ _ hq
      | ret => exact hk _ _ hq
    | _ => exact h.elim
theorem EW.weak {c : Code} {s t : St} {k : X → St → Prop} (hw : Weak C s t) (h : EW P C B w0 c t k) : EW P C B w0 c s k := fun E a w hr => by
  obtain ⟨E', hr'⟩ := hw hr
  exact h E' a w hr'
/-- a Bool that is handed back -/
def kRet {ρ : Type} (P : Program) (rs : List ResultVar) (ts : List TypeId) (z : ρ) (Q : Option Bool × ρ → Prop) : X → St → Prop
  | .ret, s => match resOut P rs ts s with
    | some (.one false [.bool b]) => Q (some b, z)
    | _ => False
  | _, _ => False
/-- what is alive -/
def kDec {ρ : Type} (dec : St → Option ρ) (Q : Option Bool × ρ → Prop) (s : St) : Prop := match dec s with
  | some p => Q (none, p)
  | none => False
theorem kRet_none {ρ : Type} {rs : List ResultVar} {ts : List TypeId} {z p : ρ} {x : X} {s : St} (h : kRet P rs ts z (fun y => y = (none, p)) x s) : False := by
  unfold kRet at h
  split at h
  · split at h
    · cases h
    · exact h
  · exact h
theorem kRet_some {ρ : Type} {rs : List ResultVar} {ts : List TypeId} {z : ρ} {b : Bool} {x : X} {s : St} (h : kRet P rs ts z (fun y => y = (some b, z)) x s) : fin P rs ts (fun r => r = .one false [.bool b]) x s := by
  unfold kRet at h
  split at h
  · split at h
    · rename_i hq
      cases h
      simp only [fin, hq]
    · exact h.elim
  · exact h.elim
theorem kDec_some {ρ : Type} {dec : St → Option ρ} {p : ρ} {s : St} (h : kDec dec (fun y => y = (none, p)) s) : dec s = some p := by
  unfold kDec at h
  split at h
  · rename_i hq; cases h; exact hq
  · exact h.elim
/-- a function of no loops, by what its code does -/
theorem contractEW (hm : P.follows .mixedOrders = true) {T : Tab} (hT : AllGood P T) {f : FuncId} {fn : Func} (hf : P.funcs[f]? = some fn) {c : Code} (hb : fn.body = some c) {args : List AV} {r : AV}
    (h : ∀ (F : Nat → Prop) (B : Nat) (w0 : World), EW P (mkC T F) B w0 c (start args fn.ntmps) (fin P fn.results.toList fn.resultTypes.toList fun x => x = r)) (w : World) (vs : Array Value) (hp : ArgsR args w vs) : Calls P f vs w (Ans r w) := by
  let F : Nat → Prop := fun n => w.heap.size ≤ n
  have hC : CtxOK P (mkC T F) := mkC_ok hT F
  have hargs : AllR (AV.rel (mkC T F) (ES F) w) args vs.toList := hp.mono fun x v _ h => h _ _ fun n _ => ⟨fun h => h, fun e => by cases e⟩
  have main : Calls P f vs w fun e w' => ∃ x v, x = r ∧ e = .returned v ∧ InG true F w' x v ∧ Below w.heap.size w w' := by
    refine calls_of_wp hf hb ?_
    have hrel : Rel (mkC T F) w.heap.size w (ES F) (start args fn.ntmps) { tmps := vs ++ Array.replicate (fn.ntmps - vs.size) undef, defers := [] } w := by
      refine { slots := start_slots hargs, defers := rfl, heap := ?_, free := fun _ _ => ⟨rfl, rfl⟩, lo := fun n h => h.elim, inj := ?_, below := BelowX.refl _ _ _, base := Nat.le_refl _, ok := ⟨fun _ h => h, fun _ h => h.elim, rfl, rfl, fun v hv => by cases hv⟩ }
      · intro k b hk; simp [start] at hk
      · intro k k' b b' n hk; simp [start] at hk
    refine wp_mono (h F _ _ _ _ _ hrel) ?_
    rintro e a' w' ⟨x, E', s', rfl, hr, hk⟩
    obtain ⟨hx, r, hres, hQ⟩ := fin_spec hk
    unfold resOut at hres
    simp only [Option.bind_eq_some_iff] at hres
    obtain ⟨r0, hr0, hout⟩ := hres
    obtain ⟨u, hu, hur⟩ := resS_spec (P := P) hr hr0
    have hnX : ∀ n, ¬ E'.X n := fun n hn => by rw [hr.ok.eX] at hn; exact hn
    have hO : InG true F w' r u := by
      have := outA_spec (P := P) (rd_rel hr _) (fun n hn => ⟨by
        rcases (hr.lo n hn).1 with h1 | h1
        · exact hr.ok.F n h1
        · exact absurd h1 (hnX n), (hr.lo n hn).2⟩) hout hur
      rwa [hr.ok.eF] at this
    have hbl := hr.below.to hnX
    rcases hx with rfl | rfl
    · exact ⟨hr.defers, u, hu, r, u, hQ, rfl, hO, hbl⟩
    · exact ⟨hr.defers, u, hu, r, u, hQ, rfl, hO, hbl⟩
  refine main.mono ?_
  rintro e w' ⟨x, v, rfl, rfl, hv, hb⟩
  exact ⟨v, rfl, hv, hb⟩
end Go.Ev
