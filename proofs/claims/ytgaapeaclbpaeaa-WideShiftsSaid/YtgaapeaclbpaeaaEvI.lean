/- Contracts of functions from the evaluator's answer; codecs of arguments and results. -/
import Derived.Test.YtgaapeaclbpaeaaEvH
import Derived.Laws.Externs
namespace Go.Ev
open Go.RowKit

variable {P : Program}

/-! ### Contracts -/
inductive Ent where
  | s (sm : Summ)
  | w (sm : WSumm)
abbrev Tab := List (FuncId × Ent)
def lookS : Tab → FuncId → Option Summ
  | [], _ => none
  | (g, .s sm) :: r, f => cond (Nat.beq g f) (some sm) (lookS r f)
  | (g, .w _) :: r, f => cond (Nat.beq g f) none (lookS r f)
def lookW : Tab → FuncId → Option WSumm
  | [], _ => none
  | (g, .w sm) :: r, f => cond (Nat.beq g f) (some sm) (lookW r f)
  | (g, .s _) :: r, f => cond (Nat.beq g f) none (lookW r f)
/-- the setting of a function; F: the blocks that count as new -/
def mkC (T : Tab) (F : Nat → Prop) : Ctx := ⟨lookS T, fun _ => none, fun _ => .nilFunc, lookW T, F, fun _ => False, none⟩
/-- the setting of a function that is lent a list -/
def mkB (T : Tab) (v0 : Value) : Ctx := ⟨lookS T, fun _ => none, fun _ => .nilFunc, lookW T, fun _ => True, fun n => v0.ownBlock = some n, some v0⟩
def GoodF (P : Program) (f : FuncId) (sm : Summ) : Prop := callable P f ∧ ∀ C, SumOK P C f #[] #[] sm
def GoodW (P : Program) (f : FuncId) (sm : WSumm) : Prop := callable P f ∧ ∀ C, WSumOK P C f sm
def Good (P : Program) (f : FuncId) : Ent → Prop
  | .s sm => GoodF P f sm ∨ ExtF P f sm
  | .w sm => GoodW P f sm
def AllGood (P : Program) (T : Tab) : Prop := ∀ p ∈ T, Good P p.1 p.2

theorem lookS_mem : ∀ {T : Tab} {f sm}, lookS T f = some sm → (f, Ent.s sm) ∈ T
  | [], f, sm, h => by cases h
  | (g, .s s) :: r, f, sm, h => by
    simp only [lookS] at h
    cases hb : Nat.beq g f with
    | true =>
      rw [hb] at h
      cases h
      rw [Nat.eq_of_beq_eq_true hb]
      simp
    | false =>
      rw [hb] at h
      exact List.mem_cons_of_mem _ (lookS_mem h)
  | (g, .w s) :: r, f, sm, h => by
    simp only [lookS] at h
    cases hb : Nat.beq g f with
    | true => rw [hb] at h; cases h
    | false => rw [hb] at h; exact List.mem_cons_of_mem _ (lookS_mem h)
theorem lookW_mem : ∀ {T : Tab} {f sm}, lookW T f = some sm → (f, Ent.w sm) ∈ T
  | [], f, sm, h => by cases h
  | (g, .w s) :: r, f, sm, h => by
    simp only [lookW] at h
    cases hb : Nat.beq g f with
    | true =>
      rw [hb] at h
      cases h
      rw [Nat.eq_of_beq_eq_true hb]
      simp
    | false =>
      rw [hb] at h
      exact List.mem_cons_of_mem _ (lookW_mem h)
  | (g, .s s) :: r, f, sm, h => by
    simp only [lookW] at h
    cases hb : Nat.beq g f with
    | true => rw [hb] at h; cases h
    | false => rw [hb] at h; exact List.mem_cons_of_mem _ (lookW_mem h)
theorem mkC_ok {T : Tab} (h : AllGood P T) (F : Nat → Prop) : CtxOK P (mkC T F) where
  sum f sm hs := (h _ (lookS_mem hs)).imp (fun g => ⟨g.1, g.2 _⟩) id
  fsum i sm hs := by cases hs
  wsum f sm hs := ⟨(h _ (lookW_mem hs)).1, (h _ (lookW_mem hs)).2 _⟩
theorem mkB_ok {T : Tab} (h : AllGood P T) (v0 : Value) : CtxOK P (mkB T v0) where
  sum f sm hs := (h _ (lookS_mem hs)).imp (fun g => ⟨g.1, g.2 _⟩) id
  fsum i sm hs := by cases hs
  wsum f sm hs := ⟨(h _ (lookW_mem hs)).1, (h _ (lookW_mem hs)).2 _⟩
theorem AllGood.nil : AllGood P [] := fun _ h => by cases h
theorem AllGood.cons {f sm T} (h : GoodF P f sm) (t : AllGood P T) : AllGood P ((f, .s sm) :: T) := by
  intro p hp
  rcases List.mem_cons.1 hp with rfl | hp
  · exact .inl h
  · exact t p hp
theorem AllGood.ext {f sm T} (h : ExtF P f sm) (t : AllGood P T) : AllGood P ((f, .s sm) :: T) := by
  intro p hp
  rcases List.mem_cons.1 hp with rfl | hp
  · exact .inr h
  · exact t p hp
theorem AllGood.consW {f sm T} (h : GoodW P f sm) (t : AllGood P T) : AllGood P ((f, .w sm) :: T) := by
  intro p hp
  rcases List.mem_cons.1 hp with rfl | hp
  · exact h
  · exact t p hp

def noL : Loops := fun _ => none
theorem noL_ok {C B w0 cs} : LoopsOK P C B w0 noL cs := by
  intro c _ ls hls
  cases h : rid c <;> rw [h] at hls <;> cases hls

/-- it answers r, whose lists lie in new blocks; what was there is as it was -/
def Ans (r : AV) (w : World) : Ending → World → Prop := fun e w' => ∃ v, e = .returned v ∧ OutR w.heap.size w' r v ∧ Below w.heap.size w w'
def ArgsR (args : List AV) (w : World) (vs : Array Value) : Prop := AllR (InR w) args vs.toList
/-- the same; the result's lists lie in new blocks, or in those of the arguments -/
def AnsF (F : Nat → Prop) (r : AV) (w : World) : Ending → World → Prop := fun e w' => ∃ v, e = .returned v ∧ InG true F w' r v ∧ Below w.heap.size w w'
def ArgsF (F : Nat → Prop) (args : List AV) (w : World) (vs : Array Value) : Prop := AllR (InG true F w) args vs.toList

/-- a contract out of the evaluator's answer -/
theorem contractF (hm : P.follows .mixedOrders = true) {T : Tab} (hT : AllGood P T) {f : FuncId} {fn : Func} (hf : P.funcs[f]? = some fn) {L : Loops} {u : Nat} {F : Nat → Prop} (hL : ∀ B w0 c, fn.body = some c → LoopsOK P (mkC T F) B w0 L (loopsIn c))
    {args : List AV} {r : AV} (h : evF P (mkC T F) L u fn args (fun x => x = r)) (w : World) (hF : ∀ n, w.heap.size ≤ n → F n) (vs : Array Value) (hp : AllR (AV.rel (mkC T F) (ES F) w) args vs.toList) : Calls P f vs w (AnsF F r w) := by
  refine (calls_of_evF hm (mkC_ok hT F) rfl rfl hF hf (fun c hc => hL _ _ c hc) (args := args) hp h).mono ?_
  rintro e w' ⟨x, v, rfl, rfl, hv, hb⟩
  exact ⟨v, rfl, hv, hb⟩

/-! ### Answers as trees of tests -/
inductive Tr (α : Type) where
  | leaf (a : α)
  | br (b : Bool) (t e : Tr α)
  | ast (b : Bool) (t : Tr α)
  | nst (b : Bool) (t : Tr α)
def Tr.val {α : Type} : Tr α → α
  | .leaf a => a
  | .br b t e => cond b t.val e.val
  | .ast _ t => t.val
  | .nst _ t => t.val
/-- does nothing panic? -/
def Tr.safe {α : Type} : Tr α → Bool
  | .leaf _ => true
  | .br b t e => cond b t.safe e.safe
  | .ast b t => b && t.safe
  | .nst b t => !b && t.safe
def Tr.noAst {α : Type} : Tr α → Bool
  | .leaf _ => true
  | .br _ t e => t.noAst && e.noAst
  | .ast _ _ => false
  | .nst _ _ => false
def Tr.prop {α : Type} (Q : α → Prop) : Tr α → Prop
  | .leaf a => Q a
  | .br b t e => cond b (t.prop Q) (e.prop Q)
  | .ast b t => cond b (t.prop Q) False
  | .nst b t => cond b False (t.prop Q)
theorem Tr.prop_val {α : Type} {Q : α → Prop} : ∀ {t : Tr α}, t.safe = true → Q t.val → t.prop Q
  | .leaf a, _, h => h
  | .br true t e, hs, h => Tr.prop_val (t := t) hs h
  | .br false t e, hs, h => Tr.prop_val (t := e) hs h
  | .ast b t, hs, h => by
    simp only [Tr.safe, Bool.and_eq_true] at hs
    obtain ⟨rfl, hs⟩ := hs
    exact Tr.prop_val (t := t) hs h
  | .nst b t, hs, h => by
    simp only [Tr.safe, Bool.and_eq_true, Bool.not_eq_true'] at hs
    obtain ⟨rfl, hs⟩ := hs
    exact Tr.prop_val (t := t) hs h
theorem Tr.safe_of {α : Type} : ∀ {t : Tr α}, t.noAst = true → t.safe = true
  | .leaf a, _ => rfl
  | .br b t e, h => by
    simp only [Tr.noAst, Bool.and_eq_true] at h
    cases b
    · exact Tr.safe_of (t := e) h.2
    · exact Tr.safe_of (t := t) h.1
  | .ast b t, h => by cases h
  | .nst b t, h => by cases h


theorem contractT (hm : P.follows .mixedOrders = true) {T : Tab} (hT : AllGood P T) {f : FuncId} {fn : Func} (hf : P.funcs[f]? = some fn) {L : Loops} {u : Nat} (hL : ∀ F B w0 c, fn.body = some c → LoopsOK P (mkC T F) B w0 L (loopsIn c))
    {args : List AV} {ρ : Type} {enc : ρ → AV} {t : Tr ρ} (hs : t.safe = true) (h : ∀ F Q, evF P (mkC T F) L u fn args Q = t.prop fun x => Q (enc x)) (w : World) (vs : Array Value) (hp : ArgsR args w vs) :
    Calls P f vs w (Ans (enc t.val) w) :=
  contractF hm hT hf (F := fun n => w.heap.size ≤ n) (hL _) (by rw [h]; exact Tr.prop_val hs rfl) w (fun _ h => h) vs (hp.mono fun x v _ h => h _ _ fun n _ => ⟨fun h => h, fun e => by cases e⟩)
theorem contractA (hm : P.follows .mixedOrders = true) {T : Tab} (hT : AllGood P T) {f : FuncId} {fn : Func} (hf : P.funcs[f]? = some fn) {L : Loops} {u : Nat} (hL : ∀ F B w0 c, fn.body = some c → LoopsOK P (mkC T F) B w0 L (loopsIn c))
    {args : List AV} {ρ : Type} {enc : ρ → AV} {t : Tr ρ} (hs : t.safe = true) (h : ∀ F Q, evF P (mkC T F) L u fn args Q = t.prop fun x => Q (enc x)) (w : World) (F : Nat → Prop) (hF : ∀ n, w.heap.size ≤ n → F n) (vs : Array Value) (hp : ArgsF F args w vs) :
    Calls P f vs w (AnsF F (enc t.val) w) :=
  contractF hm hT hf (hL F) (by rw [h]; exact Tr.prop_val hs rfl) w hF vs (hp.mono fun x v _ h => h _ _ fun n hn => ⟨fun h => h, fun _ => hn⟩)

/-! ### Typed values -/
def SV.fresh (rd : Nat → Option Blk) : SV → Bool
  | .vec fr _ => fr
  | .sl k _ _ _ => match rd k with
    | some (.cells _ l) => l.all fun | .vec fr _ => fr | s => s.plain
    | _ => false
  | .ptr _ _ => false
  | .clo _ l => l.isEmpty
  | .clv _ _ => false
  | .pvc _ => false
  | .epv _ _ _ _ => false
  | _ => true
def SV.keys : SV → List Nat
  | .ptr k _ => [k]
  | .sl k _ _ _ => [k]
  | .clo _ l => l
  | .own k => [k]
  | .sub k _ _ _ => [k]
  | .epo k _ _ _ => [k]
  | _ => []
def AV.cells : AV → List SV
  | .one _ l => l
  | .tup l => (l.map (·.2)).flatten
def AV.fresh (rd : Nat → Option Blk) (x : AV) : Bool := x.cells.all (SV.fresh rd)
def AV.keys (x : AV) : List Nat := (x.cells.map SV.keys).flatten

theorem plain_in {g : Bool} {l : List SV} (hp : ((g || l.length == 1) && l.all SV.plain) = true) {C E w v} (h : AV.rel C E w (.one g l) v) {fr : Bool} {G : Nat → Prop} : InG fr G w (.one g l) v := by
  intro C' E' _
  have := oneV_of hp h
  subst this
  exact oneV_rel hp
/-- what a caller hands in, as the function sees it: the lists lie in blocks of a kind, if all of the caller's do -/
def ToIn (rd : Nat → Option Blk) (a : AV) (y : Bool → AV) : Prop := ∀ (C : Ctx) (E : Env) (w : World) (v : Value) (fr : Bool) (G : Nat → Prop), (∀ k b, rd k = some b → BlkR C E w k b) → (∀ n, ¬ E.A n → (a.fresh rd = true → E.F n) → G n) → (∀ k ∈ a.keys, ∀ b n, rd k = some b → E.blk k = some n → G n) →
  AV.rel C E w a v → InG fr G w (y fr) v

structure Cod (α : Type) where
  /-- the flag: its lists lie in blocks that count as new -/
  enc : Bool → α → AV
  dec : (Nat → Option Blk) → AV → Option α
  ok : ∀ rd a x, dec rd a = some x → ToIn rd a (fun fr => enc fr x)
  weak : ∀ x, enc false x = (enc true x).weak
structure ACod (α : Type) where
  enc : Bool → α → List AV
  dec : (Nat → Option Blk) → List AV → Option α
  ok : ∀ rd a x, dec rd a = some x → (enc false x).length = a.length ∧ ∀ (i : Nat) (a' : AV), a[i]? = some a' → ∃ y : Bool → AV, (∀ fr, (enc fr x)[i]? = some (y fr)) ∧ ToIn rd a' y
  len : ∀ x, (enc true x).length = (enc false x).length

theorem toIn_plain {rd : Nat → Option Blk} {g : Bool} {l : List SV} (hp : ((g || l.length == 1) && l.all SV.plain) = true) : ToIn rd (.one g l) (fun _ => .one g l) := fun _C _E _w _v _fr _G _ _ _ hv => plain_in hp hv
def cBool : Cod Bool where
  enc _ b := .one false [.bool b]
  dec _ | .one false [.bool b] => some b
        | _ => none
  ok rd a x h := by
    split at h
    · cases h; exact toIn_plain rfl
    · cases h
  weak _ := rfl
def cInt (k : IntKind) : Cod Int where
  enc _ n := .one false [.int k n]
  dec _ | .one false [.int k' n] => if k' = k then some n else none
        | _ => none
  ok rd a x h := by
    split at h
    · split at h
      · rename_i hk; subst hk; cases h; exact toIn_plain rfl
      · cases h
    · cases h
  weak _ := rfl
def cStr : Cod (List UInt8) where
  enc _ l := .one false [.str l]
  dec _ | .one false [s] => s.bytes?
        | _ => none
  ok rd a x h := by
    split at h
    · intro C E w v fr G _ _ _ hv C' E' _
      exact bytes?_rel h hv
    · cases h
  weak _ := rfl
def aNil : ACod Unit where
  enc _ _ := []
  dec _ | [] => some ()
        | _ => none
  ok rd a x h := by
    split at h
    · exact ⟨rfl, fun i a' h => by simp at h⟩
    · cases h
  len _ := rfl
def aCons {α β : Type} (c : Cod α) (A : ACod β) : ACod (α × β) where
  enc fr x := c.enc fr x.1 :: A.enc fr x.2
  dec rd | a :: r => match c.dec rd a, A.dec rd r with
          | some x, some y => some (x, y)
          | _, _ => none
         | [] => none
  ok rd a x h := by
    split at h
    · split at h
      · rename_i h1 h2; cases h
        obtain ⟨h3, h4⟩ := A.ok _ _ _ h2
        refine ⟨by simp [h3], fun i a' ha => ?_⟩
        rcases i with _ | i
        · simp only [List.getElem?_cons_zero, Option.some.injEq] at ha
          subst ha
          exact ⟨_, fun _ => rfl, c.ok _ _ _ h1⟩
        · exact h4 i a' (by simpa using ha)
      · cases h
    · cases h
  len x := by simp [A.len]
def aOne {α : Type} (c : Cod α) : ACod α where
  enc fr x := [c.enc fr x]
  dec rd | [a] => c.dec rd a
         | _ => none
  ok rd a x h := by
    split at h
    · refine ⟨rfl, fun i a' ha => ?_⟩
      rcases i with _ | i
      · simp only [List.getElem?_cons_zero, Option.some.injEq] at ha
        subst ha
        exact ⟨_, fun _ => rfl, c.ok _ _ _ h⟩
      · simp at ha
    · cases h
  len _ := rfl

def unone : AV → Bool × List SV
  | .one g l => (g, l)
  | .tup _ => (false, [])
/-- results -/
structure Out (α : Type) where
  enc : α → AV
  dec : AV → Option α
def noRd : Nat → Option Blk := fun _ => none
def o0 : Out Unit := ⟨fun _ => .tup [], fun | .tup [] => some () | _ => none⟩
def o1 {α : Type} (c : Cod α) : Out α := ⟨c.enc true, c.dec noRd⟩
def o2 {α β : Type} (c : Cod α) (d : Cod β) : Out (α × β) where
  enc x := .tup [unone (c.enc true x.1), unone (d.enc true x.2)]
  dec | .tup [(g, l), (g', l')] => match c.dec noRd (.one g l), d.dec noRd (.one g' l') with
        | some x, some y => some (x, y)
        | _, _ => none
      | _ => none
def o3 {α β γ : Type} (c : Cod α) (d : Cod β) (e : Cod γ) : Out (α × β × γ) where
  enc x := .tup [unone (c.enc true x.1), unone (d.enc true x.2.1), unone (e.enc true x.2.2)]
  dec | .tup [(g, l), (g', l'), (g'', l'')] => match c.dec noRd (.one g l), d.dec noRd (.one g' l'), e.dec noRd (.one g'' l'') with
        | some x, some y, some z => some (x, y, z)
        | _, _, _ => none
      | _ => none
def o4 {α β γ δ : Type} (c : Cod α) (d : Cod β) (e : Cod γ) (f : Cod δ) : Out (α × β × γ × δ) where
  enc x := .tup [unone (c.enc true x.1), unone (d.enc true x.2.1), unone (e.enc true x.2.2.1), unone (f.enc true x.2.2.2)]
  dec | .tup [(g, l), (g', l'), (g'', l''), (g3, l3)] => match c.dec noRd (.one g l), d.dec noRd (.one g' l'), e.dec noRd (.one g'' l''), f.dec noRd (.one g3 l3) with
        | some x, some y, some z, some u => some (x, y, z, u)
        | _, _, _, _ => none
      | _ => none

/-- a list in a block of a kind, as an argument -/
theorem list_G {fr : Bool} {G : Nat → Prop} {w : World} {fr' : Bool} {xs : VL} {v : Value} (h : VecG G w fr' xs v) : InG fr G w (.one false [.vec fr xs]) v := by
  intro C E hE
  exact (VecG.mono h (fun b _ hb => hE b hb) (Nat.le_refl _) (fun _ _ _ _ h => h)).flag
theorem list_in {w : World} {xs : VL} {v : Value} (h : ListAt w xs v) : InR w (.one false [.vec false xs]) v := list_G h
theorem nil_G {G : Nat → Prop} {w : World} {fr : Bool} {xs : VL} (h : xs.len = 0) : VecG G w fr xs (.slice none 0 0) := ⟨none, 0, by rw [h], by omega, fun _ => rfl, .inl h⟩
theorem nil_list {w : World} {xs : VL} (h : xs.len = 0) : ListAt w xs (.slice none 0 0) := nil_G h

/-- known cells, as a list of integers -/
def intsOf (k : IntKind) (rd : Nat → Option Blk) : SV → Option (List Int)
  | .sl key off len cap => match rd key with
    | some (.cells _ l) => if off + len ≤ l.length ∧ len ≤ cap then ints? k (cut l off len) else none
    | _ => none
  | .val (.slice none 0 0) => some []
  | s => match asVL rd s with
    | some (.int k' l) => if k' = k then some l else none
    | _ => none
def boolsOf (rd : Nat → Option Blk) : SV → Option (List Bool)
  | .sl key off len cap => match rd key with
    | some (.cells _ l) => if off + len ≤ l.length ∧ len ≤ cap then bools? (cut l off len) else none
    | _ => none
  | .val (.slice none 0 0) => some []
  | s => match asVL rd s with
    | some (.bool l) => some l
    | _ => none

theorem sl_list {C E w} {G : Nat → Prop} {fr : Bool} {rd : Nat → Option Blk} (hrd : ∀ k b, rd k = some b → BlkR C E w k b) {key off len cap : Nat} {e : TypeId} {l : List SV} (hk : rd key = some (.cells e l)) (hG : ∀ b n, rd key = some b → E.blk key = some n → G n) (hle : off + len ≤ l.length ∧ len ≤ cap) {xs : VL} (hf : xs.flat = true) (hlen : xs.len = len) (hwd : xs.wd = 1)
    (hat : ∀ i, i < len → xs.at false i = (cut l off len)[i]?.toList) (hpl : (cut l off len).all SV.plain = true) {v : Value} (hs : SV.rel C E w (.sl key off len cap) v) : VecG G w fr xs v := by
  obtain ⟨n, hn, _, vs, hvs, hvr, _⟩ := hrd _ _ hk
  obtain ⟨m, hm, rfl⟩ := hs
  rw [hn] at hm; cases hm
  have hcut := exacts_of_plain hpl ((hvr.drop off).take len)
  refine ⟨_, cap, by rw [hlen], by omega, fun e => (by cases e), .inr ⟨n, off, rfl, hG _ _ hk (by simp [Env.blk, hn]), heap_get_lt hvs, fun i hi => RdX.at hf fun j c hj => ?_⟩⟩
  rw [hlen] at hi
  rw [hat i hi] at hj
  have hil : i < (cut l off len).length := by simp [cut]; omega
  rw [List.getElem?_eq_getElem hil] at hj
  simp only [Option.toList] at hj
  rcases j with _ | j
  · simp only [List.getElem?_cons_zero, Option.some.injEq] at hj
    have h1 : (List.take len (List.drop off vs.toList))[i]? = some c.exact := by
      rw [hcut, List.getElem?_map, List.getElem?_eq_getElem hil]
      simp [hj]
    rw [List.getElem?_take, List.getElem?_drop, if_pos hi] at h1
    rw [hwd]
    simpa [World.cell?, hvs] using h1
  · simp at hj

/-- what a caller hands in, one cell -/
def ToG (rd : Nat → Option Blk) (s : SV) (xs : VL) : Prop := ∀ (C : Ctx) (E : Env) (w : World) (v : Value) (G : Nat → Prop), (∀ k b, rd k = some b → BlkR C E w k b) → (∀ n, ¬ E.A n → (s.fresh rd = true → E.F n) → G n) → (∀ k ∈ s.keys, ∀ b n, rd k = some b → E.blk k = some n → G n) →
  SV.rel C E w s v → VecG G w false xs v
theorem asVL_to {rd : Nat → Option Blk} {s : SV} {xs : VL} (h : asVL rd s = some xs) : ToG rd s xs := by
  intro C E w v G hrd h1 h2 hv
  unfold asVL at h
  split at h
  · rename_i fr' ys
    cases h
    exact (VecG.mono hv (fun b _ hb => h1 b hb.1 hb.2) (Nat.le_refl _) (fun _ _ _ _ h => h)).flag
  · split at h
    · rename_i k _ e ys hk
      cases h
      obtain ⟨u, hu, hβ, _, hf, ho⟩ := hrd _ _ hk
      have := hv.1
      rw [hu] at this; cases this
      exact own_G hf ho fun n hn => h2 k (by simp [SV.keys]) _ n hk (by simp [Env.blk, hβ, hu, hn])
    · cases h
  · split at h
    · rename_i k wd lo n _ e ys hk
      split at h
      case isFalse => cases h
      rename_i hwd
      cases h
      obtain ⟨u, hu, hβ, _, hf, ho⟩ := hrd _ _ hk
      exact sub_G hf hu ho hwd hv fun n hn => h2 k (by simp [SV.keys]) _ n hk (by simp [Env.blk, hβ, hu, hn])
    · cases h
  · cases h
theorem intsOf_to {k : IntKind} {rd : Nat → Option Blk} {s : SV} {x : List Int} (h : intsOf k rd s = some x) : ToG rd s (.int k x) := by
  unfold intsOf at h
  split at h
  · rename_i key off len cap
    split at h
    · rename_i _ e l hk
      split at h
      · rename_i hle
        intro C E w v G hrd _ h2 hv
        have hx := ints?_spec h
        have hlen : x.length = len := by
          have : (cut l off len).length = len := by simp [cut]; omega
          rw [hx] at this; simpa using this
        refine sl_list hrd hk (fun b n hb hn => h2 key (by simp [SV.keys]) b n hb hn) hle rfl (by simp [VL.len, hlen]) rfl (fun i hi => ?_) (by rw [hx]; simp [SV.plain]) hv
        rw [hx]
        simp [VL.at, hlen, hi, List.getD]
      · cases h
    · cases h
  · cases h; intro C E w v G _ _ _ hv; cases hv; exact nil_G rfl
  · split at h
    · rename_i k' l hl
      split at h
      · rename_i hk; subst hk; cases h
        exact asVL_to hl
      · cases h
    · cases h
theorem boolsOf_to {rd : Nat → Option Blk} {s : SV} {x : List Bool} (h : boolsOf rd s = some x) : ToG rd s (.bool x) := by
  unfold boolsOf at h
  split at h
  · rename_i key off len cap
    split at h
    · rename_i _ e l hk
      split at h
      · rename_i hle
        intro C E w v G hrd _ h2 hv
        have hx := bools?_spec h
        have hlen : x.length = len := by
          have : (cut l off len).length = len := by simp [cut]; omega
          rw [hx] at this; simpa using this
        refine sl_list hrd hk (fun b n hb hn => h2 key (by simp [SV.keys]) b n hb hn) hle rfl (by simp [VL.len, hlen]) rfl (fun i hi => ?_) (by rw [hx]; simp [SV.plain]) hv
        rw [hx]
        simp [VL.at, hlen, hi, List.getD]
      · cases h
    · cases h
  · cases h; intro C E w v G _ _ _ hv; cases hv; exact nil_G rfl
  · split at h
    · rename_i l hl
      cases h
      exact asVL_to hl
    · cases h
theorem ToG.one {rd : Nat → Option Blk} {s : SV} {xs : VL} (h : ToG rd s xs) : ToIn rd (.one false [s]) (fun fr => .one false [.vec fr xs]) := by
  intro C E w v fr G hrd h1 h2 hv
  exact list_G (h C E w v G hrd (fun n hn hf => h1 n hn fun e => hf (by simpa [AV.fresh, AV.cells] using e)) (fun k hk => h2 k (by simpa [AV.keys, AV.cells] using hk)) hv)

def cInts (k : IntKind) : Cod (List Int) where
  enc fr l := .one false [.vec fr (.int k l)]
  dec rd | .one false [s] => intsOf k rd s
         | _ => none
  ok rd a x h := by
    split at h
    · exact (intsOf_to h).one
    · cases h
  weak _ := rfl
def cBools : Cod (List Bool) where
  enc fr l := .one false [.vec fr (.bool l)]
  dec rd | .one false [s] => boolsOf rd s
         | _ => none
  ok rd a x h := by
    split at h
    · exact (boolsOf_to h).one
    · cases h
  weak _ := rfl

/-! ### Structs, cell by cell -/
structure CC (α : Type) where
  n : Nat
  enc : Bool → α → List SV
  dec : (Nat → Option Blk) → List SV → Option α
  ok : ∀ rd l x, dec rd l = some x → (enc false x).length = l.length ∧ ∀ (i : Nat) (s : SV), l[i]? = some s → ∃ y : Bool → SV, (∀ fr, (enc fr x)[i]? = some (y fr)) ∧ ToIn rd (.one false [s]) (fun fr => .one false [y fr])
  weak : ∀ x, enc false x = (enc true x).map SV.weak
def ccInt (k : IntKind) : CC Int where
  n := 1
  enc _ n := [.int k n]
  dec _ | [.int k' n] => if k' = k then some n else none
        | _ => none
  ok rd l x h := by
    split at h
    · split at h
      · rename_i hk; subst hk; cases h
        refine ⟨rfl, fun i s hs => ?_⟩
        rcases i with _ | i
        · simp only [List.getElem?_cons_zero, Option.some.injEq] at hs; subst hs; exact ⟨_, fun _ => rfl, toIn_plain rfl⟩
        · simp at hs
      · cases h
    · cases h
  weak _ := rfl
def ccBool : CC Bool where
  n := 1
  enc _ b := [.bool b]
  dec _ | [.bool b] => some b
        | _ => none
  ok rd l x h := by
    split at h
    · cases h
      refine ⟨rfl, fun i s hs => ?_⟩
      rcases i with _ | i
      · simp only [List.getElem?_cons_zero, Option.some.injEq] at hs; subst hs; exact ⟨_, fun _ => rfl, toIn_plain rfl⟩
      · simp at hs
    · cases h
  weak _ := rfl
def ccInts (k : IntKind) : CC (List Int) where
  n := 1
  enc fr l := [.vec fr (.int k l)]
  dec rd | [s] => intsOf k rd s
         | _ => none
  ok rd l x h := by
    split at h
    · refine ⟨rfl, fun i s hs => ?_⟩
      rcases i with _ | i
      · simp only [List.getElem?_cons_zero, Option.some.injEq] at hs; subst hs; exact ⟨_, fun _ => rfl, (intsOf_to h).one⟩
      · simp at hs
    · cases h
  weak _ := rfl
def ccBools : CC (List Bool) where
  n := 1
  enc fr l := [.vec fr (.bool l)]
  dec rd | [s] => boolsOf rd s
         | _ => none
  ok rd l x h := by
    split at h
    · refine ⟨rfl, fun i s hs => ?_⟩
      rcases i with _ | i
      · simp only [List.getElem?_cons_zero, Option.some.injEq] at hs; subst hs; exact ⟨_, fun _ => rfl, (boolsOf_to h).one⟩
      · simp at hs
    · cases h
  weak _ := rfl
def ccCons {α β : Type} (a : CC α) (b : CC β) : CC (α × β) where
  n := a.n + b.n
  enc fr x := a.enc fr x.1 ++ b.enc fr x.2
  dec rd l := match a.dec rd (l.take a.n), b.dec rd (l.drop a.n) with
    | some x, some y => some (x, y)
    | _, _ => none
  ok rd l x h := by
    split at h
    · rename_i x y hx hy
      cases h
      obtain ⟨h1, h2⟩ := a.ok _ _ _ hx
      obtain ⟨h3, h4⟩ := b.ok _ _ _ hy
      have hl : (l.take a.n).length + (l.drop a.n).length = l.length := by rw [← List.length_append, List.take_append_drop]
      have hlen : ∀ fr, (a.enc fr x).length = (l.take a.n).length := by
        intro fr
        cases fr with
        | false => exact h1
        | true => rw [← h1, a.weak x]; simp
      refine ⟨by simp only [List.length_append, h1, h3]; exact hl, fun i s hs => ?_⟩
      by_cases hi : i < (l.take a.n).length
      · have hs' : (l.take a.n)[i]? = some s := by
          have : i < a.n := by simp at hi; omega
          rw [List.getElem?_take, if_pos this]; exact hs
        obtain ⟨y, e1, e2⟩ := h2 i s hs'
        exact ⟨y, fun fr => by rw [List.getElem?_append_left (by rw [hlen]; exact hi)]; exact e1 fr, e2⟩
      · have hil := list_get_lt hs
        have hs' : (l.drop a.n)[i - (l.take a.n).length]? = some s := by
          rw [List.getElem?_drop]
          have : a.n + (i - (l.take a.n).length) = i := by simp at hi ⊢; omega
          rw [this]; exact hs
        obtain ⟨y, e1, e2⟩ := h4 _ s hs'
        exact ⟨y, fun fr => by rw [List.getElem?_append_right (by rw [hlen]; omega), hlen]; exact e1 fr, e2⟩
    · cases h
  weak x := by simp only [a.weak, b.weak, List.map_append]
def ccMap {α β : Type} (c : CC α) (to : α → β) (of : β → α) (h : ∀ x, of (to x) = x) : CC β where
  n := c.n
  enc fr x := c.enc fr (of x)
  dec rd l := (c.dec rd l).map to
  ok rd l x hx := by
    simp only [Option.map_eq_some_iff] at hx
    obtain ⟨y, hy, rfl⟩ := hx
    simp only [h]
    exact c.ok rd l y hy
  weak x := c.weak _
def cStruct {α : Type} (c : CC α) : Cod α where
  enc fr x := .one true (c.enc fr x)
  dec rd | .one true l => c.dec rd l
         | _ => none
  ok rd a x h := by
    split at h
    · rename_i l
      obtain ⟨h1, h2⟩ := c.ok _ _ _ h
      have hlen : ∀ fr, (c.enc fr x).length = l.length := by
        intro fr
        cases fr with
        | false => exact h1
        | true => rw [← h1, c.weak x]; simp
      intro C E w v fr G hrd e1 e2 hv C' E' hE
      obtain ⟨vs, rfl, hr⟩ := hv
      refine ⟨vs, rfl, (hlen fr).trans hr.1, fun i s u hs hu => ?_⟩
      have hil : i < l.length := by have := list_get_lt hs; rw [hlen] at this; exact this
      obtain ⟨y, hy, ht⟩ := h2 i l[i] (List.getElem?_eq_getElem hil)
      rw [hy fr] at hs
      cases hs
      have hm : l[i] ∈ l := List.getElem_mem hil
      exact ht C E w u fr G hrd (fun n hn hf => e1 n hn fun e => hf (by
          have := List.all_eq_true.1 e l[i] hm
          simpa [AV.fresh, AV.cells] using this))
        (fun k hk => e2 k (by
          simp only [AV.keys, AV.cells, List.map_cons, List.map_nil, List.flatten_cons, List.flatten_nil, List.append_nil] at hk
          simp only [AV.keys, AV.cells, List.mem_flatten, List.mem_map]
          exact ⟨_, ⟨l[i], hm, rfl⟩, hk⟩))
        (hr.2 i l[i] u (List.getElem?_eq_getElem hil) hu) C' E' hE
    · cases h
  weak x := by simp only [AV.weak, c.weak]

/-! ### Summaries -/
def sumOf {α : Type} (A : ACod α) (pre : α → Bool) (r : α → AV) : Summ where
  pre args rd := match A.dec rd args with
    | some x => pre x
    | none => false
  fn args rd := match A.dec rd args with
    | some x => some (r x)
    | none => none
def sumT {α : Type} (A : ACod α) (r : α → AV) : Summ := sumOf A (fun _ => true) r

theorem args_in {α : Type} {A : ACod α} {rd : Nat → Option Blk} {args : List AV} {x : α} (hx : A.dec rd args = some x) {C E w} {vs : Array Value} (hrd : ∀ k b, rd k = some b → BlkR C E w k b) (hargs : AllR (AV.rel C E w) args vs.toList) (fr : Bool) (G : Nat → Prop)
    (h1 : ∀ n, ¬ E.A n → ((args.all fun a => a.fresh rd) = true → E.F n) → G n) (h2 : ∀ a ∈ args, ∀ k ∈ a.keys, ∀ b n, rd k = some b → E.blk k = some n → G n) : AllR (InG fr G w) (A.enc fr x) vs.toList := by
  obtain ⟨ha, hb⟩ := A.ok _ _ _ hx
  have hlen : (A.enc fr x).length = args.length := by cases fr; exact ha; rw [A.len]; exact ha
  refine ⟨hlen.trans hargs.1, fun i y v hy hv => ?_⟩
  have hil : i < args.length := by have := list_get_lt hy; omega
  obtain ⟨z, hz, ht⟩ := hb i args[i] (List.getElem?_eq_getElem hil)
  rw [hz fr] at hy
  cases hy
  have hm : args[i] ∈ args := List.getElem_mem hil
  exact ht C E w v fr G hrd (fun n hn hf => h1 n hn fun e => hf (List.all_eq_true.1 e _ hm)) (fun k hk => h2 _ hm k hk) (hargs.2 i args[i] v (List.getElem?_eq_getElem hil) hv)
theorem good_sum {α : Type} {A : ACod α} {pre : α → Bool} {r : α → AV} {f : FuncId} (hc : callable P f) (h : ∀ x, pre x = true → ∀ w vs, ArgsR (A.enc false x) w vs → Calls P f vs w (Ans (r x) w)) : GoodF P f (sumOf A pre r) := by
  refine ⟨hc, fun C E w args vs rd z hpre hfn hargs hrd hF hA => ?_⟩
  simp only [sumOf] at hpre hfn
  split at hfn
  · rename_i x hx
    rw [hx] at hpre
    cases hfn
    have hin : ArgsR (A.enc false x) w vs := args_in hx hrd hargs false _ (fun _ _ _ => trivial) (fun _ _ _ _ _ _ _ _ => trivial)
    simp only [Array.empty_append, Array.append_empty]
    refine (h x hpre w vs hin).mono ?_
    rintro e w' ⟨v, rfl, hv, hb⟩
    exact ⟨v, rfl, hv C E (fun n hn => ⟨fun hA' => by have := hA n hA'; omega, fun _ => hF n hn⟩), hb⟩
  · cases hfn
theorem good_sumT {α : Type} {A : ACod α} {r : α → AV} {f : FuncId} (hc : callable P f) (h : ∀ x w vs, ArgsR (A.enc false x) w vs → Calls P f vs w (Ans (r x) w)) : GoodF P f (sumT A r) :=
  good_sum hc fun x _ w vs hp => h x w vs hp

/-- a contract of a function that the model answers for -/
theorem ext_sum {α : Type} {A : ACod α} {pre : α → Bool} {r : α → AV} {f : FuncId} {fn : Func} {e : Array Value → Sem Value} (hf : P.funcs[f]? = some fn) (hname : (fn.name == "runtime.NumGoroutine") = false)
    (hb : fn.body.isNone = true) (hn : Extern.findNext fn = none) (he : Extern.find fn = some e)
    (h : ∀ x, pre x = true → ∀ w vs, ArgsR (A.enc false x) w vs → (e vs).run P w = .ok (r x).toV w) (hp : ∀ x, (r x).plain = true) : ExtF P f (sumOf A pre r) := by
  intro C E w args vs rd z hpre hfn hargs hrd
  simp only [sumOf] at hpre hfn
  split at hfn
  · rename_i x hx
    rw [hx] at hpre
    cases hfn
    refine ⟨(r x).toV, ?_, AV.rel_toV (hp x)⟩
    rw [run_callFunc_extern hf hname hb hn he]
    have hin : ArgsR (A.enc false x) w vs := args_in hx hrd hargs false _ (fun _ _ _ => trivial) (fun _ _ _ _ _ _ _ _ => trivial)
    rw [h x hpre w vs hin]
    rfl
  · cases hfn
theorem callable_of {f : FuncId} {fn : Func} (hf : P.funcs[f]? = some fn) (hn : (fn.name == "runtime.NumGoroutine") = false) (hb : fn.body.isNone = false) : callable P f := ⟨fn, hf, hn, hb⟩
end Go.Ev
