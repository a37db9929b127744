/- Contracts of functions from the evaluator's answer; codecs of arguments and results. -/
import Derived.Test.YtgaapeaclbpaeaaEvH
import Derived.Laws.Externs
namespace Go.Ev
open Go.RowKit

variable {P : Program}

/-! ### Contracts -/
abbrev Tab := List (FuncId × Summ)
def lookT : Tab → FuncId → Option Summ
  | [], _ => none
  | (g, s) :: r, f => cond (Nat.beq g f) (some s) (lookT r f)
def mkC (T : Tab) : Ctx := ⟨lookT T, fun _ => none, fun _ => .nilFunc⟩
def GoodF (P : Program) (f : FuncId) (sm : Summ) : Prop := callable P f ∧ ∀ C B w0, SumOK P C B w0 f #[] #[] sm
def AllGood (P : Program) (T : Tab) : Prop := ∀ p ∈ T, GoodF P p.1 p.2 ∨ ExtF P p.1 p.2

theorem lookT_mem : ∀ {T : Tab} {f sm}, lookT T f = some sm → (f, sm) ∈ T
  | [], f, sm, h => by cases h
  | (g, s) :: r, f, sm, h => by
    simp only [lookT] at h
    cases hb : Nat.beq g f with
    | true =>
      rw [hb] at h
      cases h
      rw [Nat.eq_of_beq_eq_true hb]
      simp
    | false =>
      rw [hb] at h
      exact List.mem_cons_of_mem _ (lookT_mem h)
theorem mkC_ok {T : Tab} (h : AllGood P T) (B : Nat) (w0 : World) : CtxOK P (mkC T) B w0 where
  sum f sm hs := (h _ (lookT_mem hs)).imp (fun g => ⟨g.1, g.2 _ _ _⟩) id
  fsum i sm hs := by cases hs
theorem AllGood.nil : AllGood P [] := fun _ h => by cases h
theorem AllGood.cons {f sm T} (h : GoodF P f sm) (t : AllGood P T) : AllGood P ((f, sm) :: T) := by
  intro p hp
  rcases List.mem_cons.1 hp with rfl | hp
  · exact .inl h
  · exact t p hp
theorem AllGood.ext {f sm T} (h : ExtF P f sm) (t : AllGood P T) : AllGood P ((f, sm) :: T) := by
  intro p hp
  rcases List.mem_cons.1 hp with rfl | hp
  · exact .inr h
  · exact t p hp

def noL : Loops := fun _ => none
theorem noL_ok {C B w0 cs} : LoopsOK P C B w0 noL cs := by
  intro c _ ls hls
  cases h : rid c <;> rw [h] at hls <;> cases hls

/-- it answers r; what was there is as it was -/
def Ans (r : AV) (w : World) : Ending → World → Prop := fun e w' => ∃ v, e = .returned v ∧ OutR w.heap.size w' r v ∧ Below w.heap.size w w'
def ArgsR (args : List AV) (w : World) (vs : Array Value) : Prop := AllR (InR w) args vs.toList

/-- a contract out of the evaluator's answer -/
theorem contract (hm : P.follows .mixedOrders = true) {T : Tab} (hT : AllGood P T) {f : FuncId} {fn : Func} (hf : P.funcs[f]? = some fn) {L : Loops} {u : Nat} (hL : ∀ B w0 c, fn.body = some c → LoopsOK P (mkC T) B w0 L (loopsIn c))
    {args : List AV} {r : AV} (h : evF P (mkC T) L u fn args (fun x => x = r)) (w : World) (vs : Array Value) (hp : ArgsR args w vs) : Calls P f vs w (Ans r w) := by
  refine (calls_of_evF hm (mkC_ok hT _ w) hf (fun c hc => hL _ _ c hc) (args := args) (hp.mono fun x v _ h => h _ _) h).mono ?_
  rintro e w' ⟨x, v, rfl, rfl, hv, hb⟩
  exact ⟨v, rfl, hv, hb⟩

/-! ### Answers as trees of tests -/
inductive Tr (α : Type) where
  | leaf (a : α)
  | br (b : Bool) (t e : Tr α)
  | ast (b : Bool) (t : Tr α)
  | nst (b : Bool) (t : Tr α)
def Tr.val {α : Type} : Tr α → α
  | .leaf a => a
  | .br b t e => cond b t.val e.val
  | .ast _ t => t.val
  | .nst _ t => t.val
/-- does nothing panic? -/
def Tr.safe {α : Type} : Tr α → Bool
  | .leaf _ => true
  | .br b t e => cond b t.safe e.safe
  | .ast b t => b && t.safe
  | .nst b t => !b && t.safe
def Tr.noAst {α : Type} : Tr α → Bool
  | .leaf _ => true
  | .br _ t e => t.noAst && e.noAst
  | .ast _ _ => false
  | .nst _ _ => false
def Tr.prop {α : Type} (Q : α → Prop) : Tr α → Prop
  | .leaf a => Q a
  | .br b t e => cond b (t.prop Q) (e.prop Q)
  | .ast b t => cond b (t.prop Q) False
  | .nst b t => cond b False (t.prop Q)
theorem Tr.prop_val {α : Type} {Q : α → Prop} : ∀ {t : Tr α}, t.safe = true → Q t.val → t.prop Q
  | .leaf a, _, h => h
  | .br true t e, hs, h => Tr.prop_val (t := t) hs h
  | .br false t e, hs, h => Tr.prop_val (t := e) hs h
  | .ast b t, hs, h => by
    simp only [Tr.safe, Bool.and_eq_true] at hs
    obtain ⟨rfl, hs⟩ := hs
    exact Tr.prop_val (t := t) hs h
  | .nst b t, hs, h => by
    simp only [Tr.safe, Bool.and_eq_true, Bool.not_eq_true'] at hs
    obtain ⟨rfl, hs⟩ := hs
    exact Tr.prop_val (t := t) hs h
theorem Tr.safe_of {α : Type} : ∀ {t : Tr α}, t.noAst = true → t.safe = true
  | .leaf a, _ => rfl
  | .br b t e, h => by
    simp only [Tr.noAst, Bool.and_eq_true] at h
    cases b
    · exact Tr.safe_of (t := e) h.2
    · exact Tr.safe_of (t := t) h.1
  | .ast b t, h => by cases h
  | .nst b t, h => by cases h

theorem contractT (hm : P.follows .mixedOrders = true) {T : Tab} (hT : AllGood P T) {f : FuncId} {fn : Func} (hf : P.funcs[f]? = some fn) {L : Loops} {u : Nat} (hL : ∀ B w0 c, fn.body = some c → LoopsOK P (mkC T) B w0 L (loopsIn c))
    {args : List AV} {ρ : Type} {enc : ρ → AV} {t : Tr ρ} (hs : t.safe = true) (h : ∀ Q, evF P (mkC T) L u fn args Q = t.prop fun x => Q (enc x)) (w : World) (vs : Array Value) (hp : ArgsR args w vs) :
    Calls P f vs w (Ans (enc t.val) w) :=
  contract hm hT hf hL (by rw [h]; exact Tr.prop_val hs rfl) w vs hp

/-! ### Typed values -/
theorem plain_in {g : Bool} {l : List SV} (hp : ((g || l.length == 1) && l.all SV.plain) = true) {C E w v} (h : AV.rel C E w (.one g l) v) : InR w (.one g l) v := by
  intro C' lo
  have := oneV_of hp h
  subst this
  exact oneV_rel hp
/-- what a caller hands in, as the function sees it -/
def ToIn (rd : Nat → Option Blk) (a x : AV) : Prop := ∀ C E w v, (∀ k b, rd k = some b → BlkR C E w k b) → AV.rel C E w a v → InR w x v

structure Cod (α : Type) where
  /-- the flag: it is a result -/
  enc : Bool → α → AV
  dec : (Nat → Option Blk) → AV → Option α
  ok : ∀ rd a x, dec rd a = some x → ToIn rd a (enc false x)
structure ACod (α : Type) where
  enc : α → List AV
  dec : (Nat → Option Blk) → List AV → Option α
  ok : ∀ rd a x, dec rd a = some x → AllR (ToIn rd) a (enc x)

def cBool : Cod Bool where
  enc _ b := .one false [.bool b]
  dec _ | .one false [.bool b] => some b
        | _ => none
  ok rd a x h := by
    split at h
    · cases h; exact fun C E w v _ hv => plain_in rfl hv
    · cases h
def cInt (k : IntKind) : Cod Int where
  enc _ n := .one false [.int k n]
  dec _ | .one false [.int k' n] => if k' = k then some n else none
        | _ => none
  ok rd a x h := by
    split at h
    · split at h
      · rename_i hk; subst hk; cases h; exact fun C E w v _ hv => plain_in rfl hv
      · cases h
    · cases h
def aNil : ACod Unit where
  enc _ := []
  dec _ | [] => some ()
        | _ => none
  ok rd a x h := by
    split at h
    · exact AllR.nil
    · cases h
def aCons {α β : Type} (c : Cod α) (A : ACod β) : ACod (α × β) where
  enc x := c.enc false x.1 :: A.enc x.2
  dec rd | a :: r => match c.dec rd a, A.dec rd r with
          | some x, some y => some (x, y)
          | _, _ => none
         | [] => none
  ok rd a x h := by
    split at h
    · split at h
      · rename_i h1 h2; cases h; exact AllR.cons (c.ok _ _ _ h1) (A.ok _ _ _ h2)
      · cases h
    · cases h
def aOne {α : Type} (c : Cod α) : ACod α where
  enc x := [c.enc false x]
  dec rd | [a] => c.dec rd a
         | _ => none
  ok rd a x h := by
    split at h
    · exact AllR.cons (c.ok _ _ _ h) AllR.nil
    · cases h

def unone : AV → Bool × List SV
  | .one g l => (g, l)
  | .tup _ => (false, [])
/-- results -/
structure Out (α : Type) where
  enc : α → AV
  dec : AV → Option α
def noRd : Nat → Option Blk := fun _ => none
def o1 {α : Type} (c : Cod α) : Out α := ⟨c.enc true, c.dec noRd⟩
def o2 {α β : Type} (c : Cod α) (d : Cod β) : Out (α × β) where
  enc x := .tup [unone (c.enc true x.1), unone (d.enc true x.2)]
  dec | .tup [(g, l), (g', l')] => match c.dec noRd (.one g l), d.dec noRd (.one g' l') with
        | some x, some y => some (x, y)
        | _, _ => none
      | _ => none
def o3 {α β γ : Type} (c : Cod α) (d : Cod β) (e : Cod γ) : Out (α × β × γ) where
  enc x := .tup [unone (c.enc true x.1), unone (d.enc true x.2.1), unone (e.enc true x.2.2)]
  dec | .tup [(g, l), (g', l'), (g'', l'')] => match c.dec noRd (.one g l), d.dec noRd (.one g' l'), e.dec noRd (.one g'' l'') with
        | some x, some y, some z => some (x, y, z)
        | _, _, _ => none
      | _ => none

theorem list_in {w : World} {xs : VL} {v : Value} (h : ListAt w xs v) : InR w (.one false [.vec false xs]) v := by
  intro C lo
  obtain ⟨a, cap, rfl, hc, hn, hr⟩ := h
  exact ⟨a, cap, rfl, hc, hn, hr.imp id fun ⟨b, off, h1, h2, h3⟩ => ⟨b, off, h1, fun h => h, h2, fun h => (by cases h), h3⟩⟩
theorem nil_list {w : World} {xs : VL} (h : xs.len = 0) : ListAt w xs (.slice none 0 0) := ⟨none, 0, by rw [h], by omega, fun _ => rfl, .inl h⟩

/-- known cells, as a list of integers -/
def intsOf (k : IntKind) (rd : Nat → Option Blk) : SV → Option (List Int)
  | .sl key off len cap => match rd key with
    | some (.cells _ l) => if off + len ≤ l.length ∧ len ≤ cap then ints? k (cut l off len) else none
    | _ => none
  | .val (.slice none 0 0) => some []
  | s => match asVL rd s with
    | some (.int k' l) => if k' = k then some l else none
    | _ => none
def boolsOf (rd : Nat → Option Blk) : SV → Option (List Bool)
  | .sl key off len cap => match rd key with
    | some (.cells _ l) => if off + len ≤ l.length ∧ len ≤ cap then bools? (cut l off len) else none
    | _ => none
  | .val (.slice none 0 0) => some []
  | s => match asVL rd s with
    | some (.bool l) => some l
    | _ => none

theorem sl_list {C E w} {rd : Nat → Option Blk} (hrd : ∀ k b, rd k = some b → BlkR C E w k b) {key off len cap : Nat} {e : TypeId} {l : List SV} (hk : rd key = some (.cells e l)) (hle : off + len ≤ l.length ∧ len ≤ cap) {xs : VL} (hlen : xs.len = len) (hwd : xs.wd = 1)
    (hat : ∀ i, i < len → xs.at i = (cut l off len)[i]?.toList) (hpl : (cut l off len).all SV.plain = true) {v : Value} (hs : SV.rel C E w (.sl key off len cap) v) : ListAt w xs v := by
  obtain ⟨n, hn, _, vs, hvs, hvr, _⟩ := hrd _ _ hk
  obtain ⟨m, hm, rfl⟩ := hs
  rw [hn] at hm; cases hm
  have hcut := exacts_of_plain hpl ((hvr.drop off).take len)
  refine ⟨_, cap, by rw [hlen], by omega, fun e => (by cases e), .inr ⟨n, off, rfl, heap_get_lt hvs, fun i hi j c hj => ?_⟩⟩
  rw [hlen] at hi
  rw [hat i hi] at hj
  have hil : i < (cut l off len).length := by simp [cut]; omega
  rw [List.getElem?_eq_getElem hil] at hj
  simp only [Option.toList] at hj
  rcases j with _ | j
  · simp only [List.getElem?_cons_zero, Option.some.injEq] at hj
    have h1 : (List.take len (List.drop off vs.toList))[i]? = some c.exact := by
      rw [hcut, List.getElem?_map, List.getElem?_eq_getElem hil]
      simp [hj]
    rw [List.getElem?_take, List.getElem?_drop, if_pos hi] at h1
    rw [hwd]
    simpa [World.cell?, hvs] using h1
  · simp at hj

def cInts (k : IntKind) : Cod (List Int) where
  enc fr l := .one false [.vec fr (.int k l)]
  dec rd | .one false [s] => intsOf k rd s
         | _ => none
  ok rd a x h := by
    split at h
    · rename_i s
      intro C E w v hrd hv
      refine list_in ?_
      unfold intsOf at h
      split at h
      · rename_i key off len cap
        split at h
        · rename_i _ e l hk
          split at h
          · rename_i hle
            have hx := ints?_spec h
            have hlen : x.length = len := by
              have : (cut l off len).length = len := by simp [cut]; omega
              rw [hx] at this; simpa using this
            refine sl_list hrd hk hle (by simp [VL.len, hlen]) rfl (fun i hi => ?_) (by rw [hx]; simp [SV.plain]) hv
            rw [hx]
            simp [VL.at, hlen, hi, List.getD]
          · cases h
        · cases h
      · cases h; cases hv; exact nil_list rfl
      · split at h
        · rename_i k' l hl
          split at h
          · rename_i hk; subst hk; cases h
            exact asVL_spec hrd hl hv
          · cases h
        · cases h
    · cases h
def cBools : Cod (List Bool) where
  enc fr l := .one false [.vec fr (.bool l)]
  dec rd | .one false [s] => boolsOf rd s
         | _ => none
  ok rd a x h := by
    split at h
    · rename_i s
      intro C E w v hrd hv
      refine list_in ?_
      unfold boolsOf at h
      split at h
      · rename_i key off len cap
        split at h
        · rename_i _ e l hk
          split at h
          · rename_i hle
            have hx := bools?_spec h
            have hlen : x.length = len := by
              have : (cut l off len).length = len := by simp [cut]; omega
              rw [hx] at this; simpa using this
            refine sl_list hrd hk hle (by simp [VL.len, hlen]) rfl (fun i hi => ?_) (by rw [hx]; simp [SV.plain]) hv
            rw [hx]
            simp [VL.at, hlen, hi, List.getD]
          · cases h
        · cases h
      · cases h; cases hv; exact nil_list rfl
      · split at h
        · rename_i l hl
          cases h
          exact asVL_spec hrd hl hv
        · cases h
    · cases h

def sumOf {α : Type} (A : ACod α) (pre : α → Bool) (r : α → AV) : Summ where
  pre args rd := match A.dec rd args with
    | some x => pre x
    | none => false
  fn args rd := match A.dec rd args with
    | some x => some (r x)
    | none => none
def sumT {α : Type} (A : ACod α) (r : α → AV) : Summ := sumOf A (fun _ => true) r

theorem good_sum {α : Type} {A : ACod α} {pre : α → Bool} {r : α → AV} {f : FuncId} (hc : callable P f) (h : ∀ x, pre x = true → ∀ w vs, ArgsR (A.enc x) w vs → Calls P f vs w (Ans (r x) w)) : GoodF P f (sumOf A pre r) := by
  refine ⟨hc, fun C B w0 E w args vs rd z hpre hfn hargs hrd _ hbase hlo hA => ?_⟩
  simp only [sumOf] at hpre hfn
  split at hfn
  · rename_i x hx
    rw [hx] at hpre
    cases hfn
    have ha := A.ok _ _ _ hx
    have hin : ArgsR (A.enc x) w vs := by
      refine ⟨ha.1.symm.trans hargs.1, fun i y v hy hv => ?_⟩
      have hil : i < args.length := by have := list_get_lt hy; have := ha.1; omega
      exact ha.2 i args[i] y (by simp [hil]) hy C E w v hrd (hargs.2 i args[i] v (by simp [hil]) hv)
    simp only [Array.empty_append, Array.append_empty]
    refine (h x hpre w vs hin).mono ?_
    rintro e w' ⟨v, rfl, hv, hb⟩
    exact ⟨v, rfl, hv C E (fun n hn => (hA n hn).2) (by rw [hlo]; exact hbase), hb⟩
  · cases hfn
theorem good_sumT {α : Type} {A : ACod α} {r : α → AV} {f : FuncId} (hc : callable P f) (h : ∀ x w vs, ArgsR (A.enc x) w vs → Calls P f vs w (Ans (r x) w)) : GoodF P f (sumT A r) :=
  good_sum hc fun x _ w vs hp => h x w vs hp

/-- a contract of a function that the model answers for -/
theorem ext_sum {α : Type} {A : ACod α} {pre : α → Bool} {r : α → AV} {f : FuncId} {fn : Func} {e : Array Value → Sem Value} (hf : P.funcs[f]? = some fn) (hname : (fn.name == "runtime.NumGoroutine") = false)
    (hb : fn.body.isNone = true) (hn : Extern.findNext fn = none) (he : Extern.find fn = some e)
    (h : ∀ x, pre x = true → ∀ w vs, ArgsR (A.enc x) w vs → (e vs).run P w = .ok (r x).toV w) (hp : ∀ x, (r x).plain = true) : ExtF P f (sumOf A pre r) := by
  intro C E w args vs rd z hpre hfn hargs hrd
  simp only [sumOf] at hpre hfn
  split at hfn
  · rename_i x hx
    rw [hx] at hpre
    cases hfn
    refine ⟨(r x).toV, ?_, AV.rel_toV (hp x)⟩
    rw [run_callFunc_extern hf hname hb hn he]
    have ha := A.ok _ _ _ hx
    have hin : ArgsR (A.enc x) w vs := by
      refine ⟨ha.1.symm.trans hargs.1, fun i y v hy hv => ?_⟩
      have hil : i < args.length := by have := list_get_lt hy; have := ha.1; omega
      exact ha.2 i args[i] y (by simp [hil]) hy C E w v hrd (hargs.2 i args[i] v (by simp [hil]) hv)
    rw [h x hpre w vs hin]
    rfl
  · cases hfn
theorem callable_of {f : FuncId} {fn : Func} (hf : P.funcs[f]? = some fn) (hn : (fn.name == "runtime.NumGoroutine") = false) (hb : fn.body.isNone = false) : callable P f := ⟨fn, hf, hn, hb⟩
end Go.Ev
