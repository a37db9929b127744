/- The evaluator of code is sound. Conditions: the summaries and the loops' summaries are sound. -/
import Derived.Test.YtgaapeaclbpaeaaEvG
import Derived.Deep.LoopGhost
import Derived.LoopN
namespace Go.Ev
open Go.RowKit

variable {P : Program} {C : Ctx} {B : Nat} {w0 : World}

/-! ### The evaluator -/
def isB (s : St) (d : Nat) : Option Bool :=
  match s.slots[d]? with
  | some (.one false [.bool b]) => some b
  | _ => none
/-! States are kept worked out (the kernel does no more than it must, and would walk through all changes again and again) -/
def forceS : SV → (SV → Prop) → Prop
  | .bool b, k => k (.bool b)
  | .int i n, k => k (.int i n)
  | .ptr a b, k => k (.ptr a b)
  | .val v, k => k (.val v)
  | .vec fr xs, k => k (.vec fr xs)
  | .epv fr xs i o, k => k (.epv fr xs i o)
  | .str l, k => k (.str l)
  | .emp, k => k .emp
  | .pvc xs, k => k (.pvc xs)
  | .sl a b c d, k => k (.sl a b c d)
  | .fnv i, k => k (.fnv i)
  | .clo f l, k => k (.clo f l)
  | .clv f l, k => k (.clv f l)
  | .own a, k => k (.own a)
  | .sub a b c d, k => k (.sub a b c d)
  | .epo a b c d, k => k (.epo a b c d)
  | .top, k => k .top
  | .und, k => k .und
theorem forceS_eq (s : SV) (k : SV → Prop) : forceS s k = k s := by cases s <;> rfl
def forceSs : List SV → (List SV → Prop) → Prop
  | [], k => k []
  | s :: l, k => forceS s fun s => forceSs l fun l => k (s :: l)
theorem forceSs_eq : ∀ (l : List SV) (k : List SV → Prop), forceSs l k = k l
  | [], k => rfl
  | s :: l, k => by simp only [forceSs, forceS_eq]; exact forceSs_eq l _
def forceA : AV → (AV → Prop) → Prop
  | .one true l, k => forceSs l fun l => k (.one true l)
  | .one false l, k => forceSs l fun l => k (.one false l)
  | .tup l, k => k (.tup l)
theorem forceA_eq (x : AV) (k : AV → Prop) : forceA x k = k x := by
  match x with
  | .one true l => exact forceSs_eq l _
  | .one false l => exact forceSs_eq l _
  | .tup l => rfl
def forceAs : List AV → (List AV → Prop) → Prop
  | [], k => k []
  | s :: l, k => forceA s fun s => forceAs l fun l => k (s :: l)
theorem forceAs_eq : ∀ (l : List AV) (k : List AV → Prop), forceAs l k = k l
  | [], k => rfl
  | s :: l, k => by simp only [forceAs, forceA_eq]; exact forceAs_eq l _
def forceB : Option (Option Blk) → (Option (Option Blk) → Prop) → Prop
  | none, k => k none
  | some none, k => k (some none)
  | some (some (.cells e l)), k => forceSs l fun l => k (some (some (.cells e l)))
  | some (some (.grow e xs)), k => k (some (some (.grow e xs)))
theorem forceB_eq (x : Option (Option Blk)) (k : Option (Option Blk) → Prop) : forceB x k = k x := by
  match x with
  | none => rfl
  | some none => rfl
  | some (some (.cells e l)) => exact forceSs_eq l _
  | some (some (.grow e xs)) => rfl
def forceH : List (Option (Option Blk)) → (List (Option (Option Blk)) → Prop) → Prop
  | [], k => k []
  | s :: l, k => forceB s fun s => forceH l fun l => k (s :: l)
theorem forceH_eq : ∀ (l : List (Option (Option Blk))) (k : List (Option (Option Blk)) → Prop), forceH l k = k l
  | [], k => rfl
  | s :: l, k => by simp only [forceH, forceB_eq]; exact forceH_eq l _
def setK : List AV → Nat → AV → (List AV → Prop) → Prop
  | [], _, _, k => k []
  | _ :: l, 0, v, k => k (v :: l)
  | a :: l, n + 1, v, k => setK l n v fun l => k (a :: l)
theorem setK_eq : ∀ (l : List AV) (n : Nat) (v : AV) (k : List AV → Prop), setK l n v k = k (l.set n v)
  | [], _n, _v, _k => rfl
  | _a :: _l, 0, _v, _k => rfl
  | _a :: l, n + 1, v, _k => setK_eq l n v _
def putK (s : St) (d : Option Nat) (v : AV) (k : St → Prop) : Prop :=
  match s, d with
  | ⟨sl, h⟩, some d => forceA v fun v => setK sl d v fun sl => k ⟨sl, h⟩
  | s, none => k s
theorem putK_eq (s : St) (d : Option Nat) (v : AV) (k : St → Prop) : putK s d v k = k (s.put d v) := by
  obtain ⟨sl, h⟩ := s
  cases d with
  | none => rfl
  | some d => simp only [putK, forceA_eq, setK_eq]; rfl
def chgK (l : List (Nat × Option Blk)) (s : St) (k : St → Prop) : Prop :=
  match s with
  | ⟨sl, h⟩ => forceH (chg l h) fun h => k ⟨sl, h⟩
theorem chgK_eq (l : List (Nat × Option Blk)) (s : St) (k : St → Prop) : chgK l s k = k { s with heap := chg l s.heap } := by
  obtain ⟨sl, h⟩ := s
  simp only [chgK, forceH_eq]
/-- a test that is not decided yet is decided here -/
def brS (d : Option Nat) (s : St) (k : St → Prop) : Prop :=
  match d with
  | none => k s
  | some d => match s.slots[d]? with
    | some (.one false [.bool b]) => cond b (putK s (some d) (.one false [.bool true]) k) (putK s (some d) (.one false [.bool false]) k)
    | _ => k s
theorem set_self {l : List AV} {d : Nat} {x : AV} (h : l[d]? = some x) : l.set d x = l := by
  apply List.ext_getElem?
  intro i
  rw [List.getElem?_set]
  by_cases e : d = i
  · subst e
    rw [if_pos rfl]
    split
    · exact h.symm
    · rename_i h'; rw [List.getElem?_eq_none (by omega)] at h; cases h
  · rw [if_neg e]
theorem brS_spec {d : Option Nat} {s : St} {k : St → Prop} (h : brS d s k) : k s := by
  unfold brS at h
  split at h
  · exact h
  · rename_i d
    split at h
    · rename_i b hb
      cases b
      · simp only [cond_false, putK_eq, St.put] at h
        rw [set_self hb] at h
        exact h
      · simp only [cond_true, putK_eq, St.put] at h
        rw [set_self hb] at h
        exact h
    · exact h

def dOpK (P : Program) (C : Ctx) (o : Oper) (al : Nat → Bool) (key : Nat) (s : St) (k : St → Prop) : Prop :=
  match kd P C o.op with
  | .p => match effP P o s.ρ with
    | some v => putK s o.dst v k
    | none => False
  | .r => match effR P C o s.ρ (s.rd al) with
    | some v => putK s o.dst v k
    | none => False
  | .a => match effA P o s.ρ key, s.heap[key]? with
    | some (v, l), some none => putK s o.dst v fun s => chgK l s k
    | _, _ => False
  | .w => match effW P C o s.ρ (s.rd al) key, s.heap[key]? with
    | some (v, l), some none => putK s o.dst v fun s => chgK l s k
    | _, _ => False
def guardSlot (ops : Array Oper) (o : Oper) : Option Nat :=
  match o.guard with
  | none => none
  | some (j, _) => (ops[j]?).bind (·.dst)
def pickSlot (o : Oper) : Option Nat :=
  match o.op with
  | .pick (.tmp t) _ _ => some t
  | _ => none
def evOp (P : Program) (C : Ctx) (ops : Array Oper) (al : Nat → Bool) (nk i : Nat) (s : St) (k : St → Prop) : Prop :=
  match ops[i]? with
  | none => False
  | some o => brS (guardSlot ops o) s fun s => match s.guard ops o with
    | none => False
    | some false => putK s o.dst undefA k
    | some true => brS (pickSlot o) s fun s => cond (asr P C o s.ρ (s.rdk P C o al)) (dOpK P C o al (nk + i) s k) False
def evOps (P : Program) (C : Ctx) (ops : Array Oper) (al : Nat → Nat → Bool) (nk : Nat) : List Nat → St → (St → Prop) → Prop
  | [], s, k => k s
  | i :: is, s, k => evOp P C ops (al i) nk i s fun s => evOps P C ops al nk is s k

theorem evOp_spec {ops : Array Oper} {al : Nat → Bool} {nk i : Nat} {s : St} {k : St → Prop} (h : evOp P C ops al nk i s k) : ∃ s', dOp P C ops al nk i s = some s' ∧ k s' := by
  unfold evOp at h
  unfold dOp
  split at h
  · exact h.elim
  · rename_i o ho
    rw [ho]
    simp only
    have h := brS_spec h
    split at h
    · exact h.elim
    · rename_i hg; rw [putK_eq] at h; rw [hg]; exact ⟨_, rfl, h⟩
    · rename_i hg
      rw [hg]
      have h := brS_spec h
      cases ha : asr P C o s.ρ (s.rdk P C o al) with
      | false => rw [ha] at h; exact h.elim
      | true =>
        rw [ha] at h
        simp only [cond_true] at h ⊢
        unfold dOpK at h
        cases hk : kd P C o.op with
        | p =>
          rw [hk] at h; simp only at h ⊢
          split at h
          · rename_i v hv; rw [putK_eq] at h; rw [hv]; exact ⟨_, rfl, h⟩
          · exact h.elim
        | r =>
          rw [hk] at h; simp only at h ⊢
          split at h
          · rename_i v hv; rw [putK_eq] at h; rw [hv]; exact ⟨_, rfl, h⟩
          · exact h.elim
        | a =>
          rw [hk] at h; simp only at h ⊢
          split at h
          · rename_i v l hv hf; rw [putK_eq, chgK_eq] at h; rw [hv, hf]; refine ⟨_, rfl, ?_⟩; cases hd : o.dst <;> rw [hd] at h <;> exact h
          · exact h.elim
        | w =>
          rw [hk] at h; simp only at h ⊢
          split at h
          · rename_i v l hv hf; rw [putK_eq, chgK_eq] at h; rw [hv, hf]; refine ⟨_, rfl, ?_⟩; cases hd : o.dst <;> rw [hd] at h <;> exact h
          · exact h.elim
theorem evOps_spec {ops : Array Oper} {al : Nat → Nat → Bool} {nk : Nat} : ∀ {is : List Nat} {s : St} {k : St → Prop}, evOps P C ops al nk is s k → ∃ s', dRun P C ops al nk is s = some s' ∧ k s'
  | [], s, k, h => ⟨s, rfl, h⟩
  | i :: is, s, k, h => by
    obtain ⟨s1, h1, h2⟩ := evOp_spec h
    obtain ⟨s2, h3, h4⟩ := evOps_spec h2
    exact ⟨s2, by simp only [dRun, h1]; exact h3, h4⟩

def St.ext (s : St) (n : Nat) : St := { s with heap := s.heap ++ List.replicate n none }
theorem ext_get {s : St} {n k : Nat} {b} (hk : (s.ext n).heap[k]? = some (some b)) : s.heap[k]? = some (some b) := by
  unfold St.ext at hk
  simp only [List.getElem?_append] at hk
  split at hk
  · exact hk
  · rw [List.getElem?_replicate] at hk; split at hk <;> cases hk
theorem Rel.ext {E s a w} (h : Rel C B w0 E s a w) (n : Nat) : Rel C B w0 E (s.ext n) a w where
  slots := h.slots
  defers := h.defers
  heap k b hk := h.heap k b (ext_get hk)
  free k hk := by
    unfold St.ext at hk
    simp only [List.getElem?_append] at hk
    refine h.free k ?_
    split at hk
    · exact hk
    · exact .inr (List.getElem?_eq_none (by omega))
  lo := h.lo
  inj k k' b b' n h1 h2 := h.inj k k' b b' n (ext_get h1) (ext_get h2)
  below := h.below
  base := h.base
  ok := h.ok

def extK (s : St) (n : Nat) (k : St → Prop) : Prop :=
  match s with
  | ⟨sl, h⟩ => forceH (h ++ List.replicate n none) fun h => k ⟨sl, h⟩
theorem extK_eq (s : St) (n : Nat) (k : St → Prop) : extK s n k = k (s.ext n) := by
  obtain ⟨sl, h⟩ := s
  simp only [extK, forceH_eq]; rfl
def evReg (P : Program) (C : Ctx) (ops : Array Oper) (draw : Bool) (s : St) (k : St → Prop) : Prop :=
  bif draw then
    cond (regOK P C ops (closure ops) (locs ops s s.heap.length) s.heap.length) (extK s ops.size fun s' => evOps P C ops (alo (locs ops s s.heap.length) (fun i => (closure ops).getD i 0) s.heap.length) s.heap.length (List.range ops.size) s' k) False
  else extK s ops.size fun s' => evOps P C ops (fun _ _ => true) s.heap.length (List.range ops.size) s' k

inductive X where
  | nrm
  | ex (id : Nat)
  | ret
def X.out : X → Exit
  | .nrm => .normal
  | .ex id => .exit id
  | .ret => .ret

/-- what is shown of a piece of code, started in a state -/
def EW (P : Program) (C : Ctx) (B : Nat) (w0 : World) (c : Code) (s : St) (k : X → St → Prop) : Prop :=
  ∀ E a w, Rel C B w0 E s a w → c.wp P (fun e a' w' => ∃ x E' s', e = X.out x ∧ Rel C B w0 E' s' a' w' ∧ k x s') a w

theorem evReg_spec (hm : P.follows .mixedOrders = true) (hC : CtxOK P C) {ops : Array Oper} {draw : Bool} {id : Nat} {s : St} {k : X → St → Prop} (h : evReg P C ops draw s (k .nrm)) : EW P C B w0 (.region id ops draw) s k := by
  intro E a w hr
  cases draw with
  | false =>
    simp only [evReg, cond_false, extK_eq] at h
    obtain ⟨s', h1, h2⟩ := evOps_spec h
    exact wp_region (dRun_sound hC (hr.ext _) h1 fun E' a' w' hr' => ⟨.nrm, E', s', rfl, hr', h2⟩)
  | true =>
    simp only [evReg, cond_true] at h
    cases hok : regOK P C ops (closure ops) (locs ops s s.heap.length) s.heap.length with
    | false => rw [hok] at h; exact h.elim
    | true =>
      rw [hok] at h
      simp only [cond_true, extK_eq] at h
      obtain ⟨s', h1, h2⟩ := evOps_spec h
      exact region_draw hm hC hok (hr.ext _) h1 fun E' a' w' hr' => ⟨.nrm, E', s', rfl, hr', h2⟩

/-- the number of a piece of code: its first region's -/
def rid : Code → Option Nat
  | .region id _ _ => some id
  | .seq a b => match rid a with
    | some n => some n
    | none => rid b
  | .cond _ a b => match rid a with
    | some n => some n
    | none => rid b
  | .block _ c => rid c
  | .loop c => rid c
  | .scope c => rid c
  | _ => none

abbrev Loops := Nat → Option (St → (X → St → Prop) → Prop)

/-- a loop, round by round -/
def evLoop (ev : St → (X → St → Prop) → Prop) : Nat → St → (X → St → Prop) → Prop
  | 0, _, _ => False
  | n + 1, s, k => ev s fun x s => match x with
    | .nrm => evLoop ev n s k
    | .ex id => k (.ex id) s
    | .ret => k .ret s

def condSlot : Operand → Option Nat
  | .tmp t => some t
  | _ => none
def evC (P : Program) (C : Ctx) (L : Loops) (u : Nat) : Code → St → (X → St → Prop) → Prop
  | .skip, s, k => k .nrm s
  | .region _ ops draw, s, k => evReg P C ops draw s (k .nrm)
  | .seq a b, s, k => evC P C L u a s fun x s => match x with
    | .nrm => evC P C L u b s k
    | .ex id => k (.ex id) s
    | .ret => k .ret s
  | .cond c a b, s, k => brS (condSlot c) s fun s => match s.ρ c with
    | some (.one false [.bool t]) => cond t (evC P C L u a s k) (evC P C L u b s k)
    | _ => False
  | .block id c, s, k => evC P C L u c s fun x s => match x with
    | .nrm => k .nrm s
    | .ex id' => cond (id' == id) (k .nrm s) (k (.ex id') s)
    | .ret => k .ret s
  | .loop c, s, k => match (rid c).bind L with
    | some ls => ls s k
    | none => evLoop (fun s k => evC P C L u c s k) u s k
  | .exit id, s, k => k (.ex id) s
  | .ret, s, k => k .ret s
  | _, _, _ => False

/-- the loops of a piece of code -/
def loopsIn : Code → List Code
  | .seq a b => loopsIn a ++ loopsIn b
  | .cond _ a b => loopsIn a ++ loopsIn b
  | .block _ c => loopsIn c
  | .loop c => c :: loopsIn c
  | _ => []
def LoopsOK (P : Program) (C : Ctx) (B : Nat) (w0 : World) (L : Loops) (cs : List Code) : Prop :=
  ∀ c ∈ cs, ∀ ls, (rid c).bind L = some ls → ∀ s k, ls s k → EW P C B w0 (.loop c) s k

theorem EW.mono {c : Code} {s : St} {k k' : X → St → Prop} (h : EW P C B w0 c s k) (hk : ∀ x s, k x s → k' x s) : EW P C B w0 c s k' :=
  fun E a w hr => wp_mono (h E a w hr) fun _ _ _ ⟨x, E', s', he, hr', h'⟩ => ⟨x, E', s', he, hr', hk x s' h'⟩

theorem EW.seq {c d : Code} {s : St} {k : X → St → Prop} (h : EW P C B w0 c s fun x s => match x with
    | .nrm => EW P C B w0 d s k
    | .ex id => k (.ex id) s
    | .ret => k .ret s) : EW P C B w0 (.seq c d) s k := by
  intro E a w hr
  refine wp_seq (wp_mono (h E a w hr) ?_)
  rintro e a' w' ⟨x, E', s', rfl, hr', h'⟩
  cases x with
  | nrm => exact h' E' a' w' hr'
  | ex id => exact ⟨.ex id, E', s', rfl, hr', h'⟩
  | ret => exact ⟨.ret, E', s', rfl, hr', h'⟩

theorem EW.block {id : Nat} {c : Code} {s : St} {k : X → St → Prop} (h : EW P C B w0 c s fun x s => match x with
    | .nrm => k .nrm s
    | .ex id' => cond (id' == id) (k .nrm s) (k (.ex id') s)
    | .ret => k .ret s) : EW P C B w0 (.block id c) s k := by
  intro E a w hr
  refine wp_block (wp_mono (h E a w hr) ?_)
  rintro e a' w' ⟨x, E', s', rfl, hr', h'⟩
  cases x with
  | nrm => exact ⟨.nrm, E', s', rfl, hr', h'⟩
  | ex id' =>
    simp only [X.out, Exit.inBlock]
    by_cases he : id' = id
    · subst he
      simp only [beq_self_eq_true, cond_true] at h'
      rw [if_pos rfl]
      exact ⟨.nrm, E', s', rfl, hr', h'⟩
    · have : (id' == id) = false := by simpa using he
      simp only [this, cond_false] at h'
      rw [if_neg he]
      exact ⟨.ex id', E', s', rfl, hr', h'⟩
  | ret => exact ⟨.ret, E', s', rfl, hr', h'⟩

theorem evLoop_spec {c : Code} {ev : St → (X → St → Prop) → Prop} (hev : ∀ s k, ev s k → EW P C B w0 c s k) : ∀ (n : Nat) (s : St) (k : X → St → Prop), evLoop ev n s k → ∀ E a w, Rel C B w0 E s a w →
    Code.rounds P c (fun e a' w' => ∃ x E' s', e = X.out x ∧ Rel C B w0 E' s' a' w' ∧ k x s') n a w
  | 0, _, _, h, _, _, _, _ => h.elim
  | n + 1, s, k, h, E, a, w, hr => by
    rw [rounds_succ]
    refine wp_mono (hev _ _ h E a w hr) ?_
    rintro e a' w' ⟨x, E', s', rfl, hr', h'⟩
    cases x with
    | nrm => exact evLoop_spec hev n s' k h' E' a' w' hr'
    | ex id => exact ⟨.ex id, E', s', rfl, hr', h'⟩
    | ret => exact ⟨.ret, E', s', rfl, hr', h'⟩

theorem evC_spec (hm : P.follows .mixedOrders = true) (hC : CtxOK P C) {L : Loops} {u : Nat} : ∀ (c : Code), LoopsOK P C B w0 L (loopsIn c) → ∀ (s : St) (k : X → St → Prop), evC P C L u c s k → EW P C B w0 c s k
  | .skip, _, s, k, h => fun E a w hr => wp_skip ⟨.nrm, E, s, rfl, hr, h⟩
  | .region id ops draw, _, s, k, h => evReg_spec hm hC h
  | .seq c d, hL, s, k, h => EW.seq <| (evC_spec hm hC c (fun x hx => hL x (by simp [loopsIn, hx])) s _ h).mono fun x s' hk => by
    cases x with
    | nrm => exact evC_spec hm hC d (fun x hx => hL x (by simp [loopsIn, hx])) s' k hk
    | ex id => exact hk
    | ret => exact hk
  | .cond o c d, hL, s, k, h => by
    have h := brS_spec h
    split at h
    · rename_i t ht
      intro E a w hr
      have ht' : a.eval o = .bool t := hr.eval ht
      cases t with
      | true => exact wp_cond_true ht' (evC_spec hm hC c (fun x hx => hL x (by simp [loopsIn, hx])) s k h E a w hr)
      | false => exact wp_cond_false ht' (evC_spec hm hC d (fun x hx => hL x (by simp [loopsIn, hx])) s k h E a w hr)
    · exact h.elim
  | .block id c, hL, s, k, h => EW.block (evC_spec hm hC c hL s _ h)
  | .loop c, hL, s, k, h => by
    unfold evC at h
    split at h
    · rename_i ls hls
      exact hL c (by simp [loopsIn]) ls hls s k h
    · intro E a w hr
      exact wp_loop_rounds u (evLoop_spec (fun s k h => evC_spec hm hC c (fun x hx => hL x (by simp [loopsIn, hx])) s k h) u s k h E a w hr)
  | .exit id, _, s, k, h => fun E a w hr => wp_exit ⟨.ex id, E, s, rfl, hr, h⟩
  | .ret, _, s, k, h => fun E a w hr => wp_ret ⟨.ret, E, s, rfl, hr, h⟩
  | .rangeFunc .., _, s, k, h => h.elim
  | .scope _, _, s, k, h => h.elim
  | .label _, _, s, k, h => h.elim
  | .goto _, _, s, k, h => h.elim
  | .refuse _, _, s, k, h => h.elim

/-! ### Results -/
def loadS (P : Program) (s : St) (t : TypeId) : AV → Option AV
  | .one false [.ptr k off] => match (s.heap[k]?).join.join with
    | some (.cells _ l) => partS P t l off
    | _ => none
  | _ => none
def resOne (P : Program) (s : St) : ResultVar → Option AV
  | .tmp t => s.slots[t]?
  | .cell a t => (s.slots[a]?).bind (loadS P s t)
def resList (P : Program) (s : St) : List ResultVar → Option (List AV)
  | [] => some []
  | r :: rs => match resOne P s r, resList P s rs with
    | some v, some l => some (v :: l)
    | _, _ => none
def ones : List AV → Option (List (Bool × List SV))
  | [] => some []
  | .one g l :: r => (ones r).map ((g, l) :: ·)
  | _ => none
def resS (P : Program) (rs : List ResultVar) (s : St) : Option AV :=
  match resList P s rs with
  | some [v] => some v
  | some l => (ones l).map .tup
  | none => none

def resM (tmps : Array Value) : ResultVar → Sem Value
  | .tmp t => pure (tmps.getD t undef)
  | .cell x t => do loadVar t (← asAddr (tmps.getD x undef))
theorem results_eq (fn : Func) (tmps : Array Value) : results fn tmps = (do let vs ← fn.results.mapM (resM tmps); pure (if h : vs.size = 1 then vs[0] else .tuple vs)) := rfl
theorem resOne_spec {E s a w} (h : Rel C B w0 E s a w) {r : ResultVar} {v : AV} (hv : resOne P s r = some v) :
    ∃ u, (resM a.tmps r).run P w = .ok u w ∧ AV.rel C E w v u := by
  cases r with
  | tmp t =>
    obtain ⟨u, hu, hr⟩ := h.slots.get hv
    have hu' : a.tmps[t]? = some u := by simpa using hu
    exact ⟨u, by simp [resM, hu'], hr⟩
  | cell x t =>
    simp only [resOne, Option.bind_eq_some_iff] at hv
    obtain ⟨y, hy, hv⟩ := hv
    unfold loadS at hv
    split at hv
    · rename_i k off
      split at hv
      · rename_i e l hl
        obtain ⟨u, hu, n, hn, rfl⟩ := h.slots.get hy
        have hu' : a.tmps[x]? = some (.pointer (some ⟨n, off, none⟩)) := by simpa using hu
        have hk : s.heap[k]? = some (some (some (.cells e l))) := by
          cases h1 : s.heap[k]? with
          | none => simp [h1] at hl
          | some z => cases z with
            | none => simp [h1] at hl
            | some z => cases z with
              | none => simp [h1] at hl
              | some z => simp [h1] at hl; subst hl; rfl
        obtain ⟨m, hm, _, vs, hvs, hvr, _⟩ := h.heap k _ hk
        rw [hn] at hm; cases hm
        obtain ⟨v', hv', hr⟩ := loadVar_spec (P := P) (C := C) (E := E) (w := w) (b := n) (o0 := 0) hv (fun j c hj => by
          obtain ⟨v, hv', hr⟩ := hvr.get hj
          exact ⟨v, by simpa [World.cell?, hvs] using hv', hr⟩)
        simp only [Nat.zero_add] at hv'
        exact ⟨v', by simp [resM, hu', asAddr, hv'], hr⟩
      · cases hv
    · cases hv

theorem resList_spec {E s a w} (h : Rel C B w0 E s a w) : ∀ {rs : List ResultVar} {l : List AV}, resList P s rs = some l →
    ∃ us, (rs.mapM (resM a.tmps)).run P w = .ok us w ∧ AllR (AV.rel C E w) l us
  | [], l, hl => by cases hl; exact ⟨[], rfl, AllR.nil⟩
  | r :: rs, l, hl => by
    simp only [resList] at hl
    split at hl
    · rename_i v l' hv hl'
      cases hl
      obtain ⟨u, hu, hur⟩ := resOne_spec h hv
      obtain ⟨us, hus, husr⟩ := resList_spec h hl'
      refine ⟨u :: us, ?_, AllR.cons hur husr⟩
      simp only [List.mapM_cons, Sem.run_bind, Sem.run_pure]
      rw [hu]
      simp only [Result.andThen_ok]
      rw [hus]
      rfl
    · cases hl

theorem ones_spec {E w} : ∀ {l : List AV} {m us}, ones l = some m → AllR (AV.rel C E w) l us → AllR (fun (p : Bool × List SV) v => OneR C E w p.1 p.2 v) m us
  | [], m, us, h, hr => by cases h; have := hr.unnil; subst this; exact AllR.nil
  | .one g l :: r, m, us, h, hr => by
    simp only [ones, Option.map_eq_some_iff] at h
    obtain ⟨m', hm, rfl⟩ := h
    obtain ⟨u, us', rfl, hu, hr'⟩ := hr.uncons
    exact AllR.cons hu (ones_spec hm hr')
  | .tup _ :: r, m, us, h, hr => by cases h

theorem resS_spec {E s a w} (h : Rel C B w0 E s a w) {fn : Func} {v : AV} (hv : resS P fn.results.toList s = some v) : ∃ u, (results fn a.tmps).run P w = .ok u w ∧ AV.rel C E w v u := by
  unfold resS at hv
  have key : ∀ l, resList P s fn.results.toList = some l → ∃ us : Array Value, (results fn a.tmps).run P w = .ok (if h : us.size = 1 then us[0] else .tuple us) w ∧ AllR (AV.rel C E w) l us.toList := by
    intro l hl
    obtain ⟨us, hus, hr⟩ := resList_spec h hl
    refine ⟨us.toArray, ?_, by simpa using hr⟩
    rw [results_eq]
    simp only [Sem.run_bind]
    rw [Array.mapM_eq_mapM_toList]
    simp only [Sem.run_map]
    rw [hus]
    rfl
  split at hv
  · rename_i v' hl
    cases hv
    obtain ⟨us, hus, hr⟩ := key _ hl
    obtain ⟨u, us', hu', hu, hr'⟩ := hr.uncons
    have := hr'.unnil; subst this
    have e : us = #[u] := by apply Array.ext'; simpa using hu'
    subst e
    exact ⟨u, by rw [hus]; rfl, hu⟩
  · rename_i l hne hl
    simp only [Option.map_eq_some_iff] at hv
    obtain ⟨m, hm, rfl⟩ := hv
    obtain ⟨us, hus, hr⟩ := key _ hl
    have hsz : ¬ us.size = 1 := by
      intro h1
      have := hr.1
      simp [h1] at this
      obtain ⟨x, hx⟩ := List.length_eq_one_iff.1 this
      exact hne x hx
    exact ⟨.tuple us, by rw [hus, dif_neg hsz], us, rfl, ones_spec hm hr⟩
  · cases hv

/-! ### A function -/
/-- results without addresses -/
def SV.toV : SV → Value
  | .bool b => .bool b
  | .int k n => .int k n
  | .val v => v
  | _ => undef
def oneV (g : Bool) (l : List SV) : Value :=
  match g, l with
  | true, l => .agg (l.map SV.toV).toArray
  | false, [s] => s.toV
  | false, _ => undef
def AV.plain : AV → Bool
  | .one g l => (g || l.length == 1) && l.all SV.plain
  | .tup l => l.all fun p => (p.1 || p.2.length == 1) && p.2.all SV.plain
def AV.toV : AV → Value
  | .one g l => oneV g l
  | .tup l => .tuple (l.map fun p => oneV p.1 p.2).toArray

theorem SV.toV_of {E w s v} (hp : SV.plain s = true) (h : SV.rel C E w s v) : v = s.toV := by
  cases s <;> simp only [SV.plain, Bool.false_eq_true] at hp <;> exact h
theorem SV.rel_toV {E w s} (hp : SV.plain s = true) : SV.rel C E w s s.toV := by
  cases s <;> simp only [SV.plain, Bool.false_eq_true] at hp <;> rfl
theorem oneV_of {E w g l v} (hp : ((g || l.length == 1) && l.all SV.plain) = true) (h : OneR C E w g l v) : v = oneV g l := by
  simp only [Bool.and_eq_true] at hp
  cases g with
  | true =>
    obtain ⟨vs, rfl, hr⟩ := h
    have : vs.toList = l.map SV.toV := by
      apply List.ext_getElem?
      intro i
      cases hl : l[i]? with
      | none =>
        have h1 : l.length ≤ i := by simpa using hl
        rw [List.getElem?_eq_none (by rw [← hr.1]; exact h1)]
        simp [hl]
      | some s =>
        obtain ⟨u, hu, hur⟩ := hr.get hl
        rw [hu, SV.toV_of (List.all_eq_true.1 hp.2 s (List.mem_of_getElem? hl)) hur]
        simp [hl]
    show Value.agg vs = .agg _
    rw [← this]
  | false =>
    match l, h with
    | [s], h => exact SV.toV_of (by simpa using hp.2) h
theorem oneV_rel {E w g l} (hp : ((g || l.length == 1) && l.all SV.plain) = true) : OneR C E w g l (oneV g l) := by
  simp only [Bool.and_eq_true] at hp
  cases g with
  | true =>
    refine ⟨_, rfl, ?_⟩
    simp only
    have : l = l.map id := by simp
    conv => lhs; rw [this]
    exact AllR.map fun s hs => SV.rel_toV (List.all_eq_true.1 hp.2 s hs)
  | false =>
    match l, hp with
    | [s], hp => exact SV.rel_toV (by simpa using hp.2)
    | [], hp => simp at hp
    | _ :: _ :: _, hp => simp at hp
theorem AV.toV_of {E w x v} (hp : AV.plain x = true) (h : AV.rel C E w x v) : v = x.toV := by
  cases x with
  | one g l => exact oneV_of hp h
  | tup l =>
    obtain ⟨vs, rfl, hr⟩ := h
    have : vs.toList = l.map fun p => oneV p.1 p.2 := by
      apply List.ext_getElem?
      intro i
      cases hl : l[i]? with
      | none =>
        have h1 : l.length ≤ i := by simpa using hl
        rw [List.getElem?_eq_none (by rw [← hr.1]; exact h1)]
        simp [hl]
      | some s =>
        obtain ⟨u, hu, hur⟩ := hr.get hl
        rw [hu, oneV_of (List.all_eq_true.1 hp s (List.mem_of_getElem? hl)) hur]
        simp [hl]
    show Value.tuple vs = .tuple _
    rw [← this]
theorem AV.rel_toV {E w x} (hp : AV.plain x = true) : AV.rel C E w x x.toV := by
  cases x with
  | one g l => exact oneV_rel hp
  | tup l =>
    refine ⟨_, rfl, ?_⟩
    simp only
    have : l = l.map id := by simp
    conv => lhs; rw [this]
    exact AllR.map fun p hp' => oneV_rel (List.all_eq_true.1 hp p hp')


/-! ### What goes in, and what comes out -/
/-- a value whose lists lie in blocks of a kind -/
def InG (fr : Bool) (G : Nat → Prop) (w : World) (x : AV) (v : Value) : Prop := ∀ C E, (∀ n, G n → E.G fr n) → AV.rel C E w x v
/-- an argument -/
def InR (w : World) (x : AV) (v : Value) : Prop := InG false (fun _ => True) w x v
/-- a result of a call that began with B blocks -/
def OutR (B : Nat) (w : World) (x : AV) (v : Value) : Prop := InG true (fun n => B ≤ n) w x v
def SV.weak : SV → SV
  | .vec _ xs => .vec false xs
  | .epv _ xs i o => .epv false xs i o
  | s => s
def AV.weak : AV → AV
  | .one g l => .one g (l.map SV.weak)
  | .tup l => .tup (l.map fun p => (p.1, p.2.map SV.weak))
theorem SV.weak_rel {C : Ctx} {E E1 : Env} {w : World} {s : SV} {v : Value} (hβ : E1.β = E.β) (hσ : E1.σ = E.σ) (hA : E1.A = E.A) (h : SV.rel C E1 w s v) : SV.rel C E w s.weak v := by
  have hG : ∀ fr b, E1.G fr b → E.G false b := fun fr b hb => ⟨by rw [← hA]; exact hb.1, fun e => by cases e⟩
  have hp : ∀ xs v, PvcR E1 w xs v → PvcR E w xs v := by
    rintro xs v ⟨b, off, u, rfl, h1, h2, h3, h4⟩
    exact ⟨b, off, u, rfl, by rw [← hA]; exact h1, h2, h3, VecG.mono h4 (fun b _ hb => hG _ b hb) (Nat.le_refl _) (fun _ _ _ _ h => h)⟩
  cases s <;> simp only [SV.weak] <;> try exact h
  case ptr => simpa only [SV.rel, hβ] using h
  case vec fr xs => exact (VecG.mono h (fun b _ hb => hG _ b hb) (Nat.le_refl _) (fun _ _ _ _ h => h)).flag
  case epv fr xs i o =>
    obtain ⟨b, off, rfl, h1, h2, h3⟩ := h
    exact ⟨b, off, rfl, hG _ _ h1, h2, at_flag (h3.mono h1 (fun b _ hb => hG _ b hb) (Nat.le_refl _) (fun _ _ _ _ h => h))⟩
  case pvc xs => exact hp _ _ h
  case sl => simpa only [SV.rel, hβ] using h
  case clo => simpa only [SV.rel, hβ] using h
  case clv f xss =>
    obtain ⟨ps, rfl, h1⟩ := h
    exact ⟨ps, rfl, h1.mono fun xs v _ h => hp xs v h⟩
  case own => simpa only [SV.rel, hσ] using h
  case sub => simpa only [SV.rel, hσ] using h
  case epo => simpa only [SV.rel, hσ] using h
theorem OneR.weak_rel {C : Ctx} {E E1 : Env} {w : World} {g : Bool} {l : List SV} {v : Value} (hβ : E1.β = E.β) (hσ : E1.σ = E.σ) (hA : E1.A = E.A) (h : OneR C E1 w g l v) : OneR C E w g (l.map SV.weak) v := by
  cases g with
  | true =>
    obtain ⟨vs, rfl, h⟩ := h
    refine ⟨vs, rfl, by simpa using h.1, fun i a b ha hb => ?_⟩
    simp only [List.getElem?_map, Option.map_eq_some_iff] at ha
    obtain ⟨s, hs, rfl⟩ := ha
    exact SV.weak_rel hβ hσ hA (h.2 i s b hs hb)
  | false =>
    match l, h with
    | [s], h => exact SV.weak_rel hβ hσ hA h
theorem AV.weak_rel {C : Ctx} {E E1 : Env} {w : World} {x : AV} {v : Value} (hβ : E1.β = E.β) (hσ : E1.σ = E.σ) (hA : E1.A = E.A) (h : AV.rel C E1 w x v) : AV.rel C E w x.weak v := by
  cases x with
  | one g l => exact OneR.weak_rel hβ hσ hA h
  | tup l =>
    obtain ⟨vs, rfl, h⟩ := h
    refine ⟨vs, rfl, by simpa using h.1, fun i a b ha hb => ?_⟩
    simp only [List.getElem?_map, Option.map_eq_some_iff] at ha
    obtain ⟨p, hp, rfl⟩ := ha
    exact OneR.weak_rel hβ hσ hA (h.2 i p b hp hb)
theorem InG.weak {G : Nat → Prop} {w : World} {x : AV} {v : Value} (h : InG true G w x v) : InG false G w x.weak v := fun C E hE =>
  AV.weak_rel (E1 := { E with F := fun _ => True }) rfl rfl rfl (h C { E with F := fun _ => True } fun n hn => ⟨(hE n hn).1, fun _ => trivial⟩)

/-- what an empty list of that type is -/
def nilT (P : Program) (t : TypeId) : Option VL :=
  match P.underlying t with
  | some (.slice e) => match P.underlying e with
    | some (.int k) => some (.int k [])
    | some .bool => some (.bool [])
    | _ => none
  | _ => none
def nilF (P : Program) : List Field → List (Option VL)
  | [] => []
  | f :: r => match szT P f.type with
    | some 1 => nilT P f.type :: nilF P r
    | some n => List.replicate n none ++ nilF P r
    | none => []
def nilsT (P : Program) (t : TypeId) : List (Option VL) :=
  match P.underlying t with
  | some (.struct fs) => nilF P fs.toList
  | some (.slice _) => [nilT P t]
  | _ => []
/-- a result, as outsiders see it -/
def outSV (P : Program) (rd : Nat → Option Blk) (nl : Option VL) : SV → Option SV
  | .bool b => some (.bool b)
  | .int k n => some (.int k n)
  | .val (.slice none 0 0) => match nl with
    | some xs => match xs.len with
      | 0 => some (.vec true xs)
      | _ => none
    | none => some (.val (.slice none 0 0))
  | .val (.string s) => some (.str s.data.toList)
  | .val v => some (.val v)
  | .str l => some (.str l)
  | .vec true xs => some (.vec true xs)
  | .own k => match rd k with
    | some (.grow _ xs) => some (.vec true xs)
    | _ => none
  | .sub k wd lo n => match rd k with
    | some (.grow _ xs) => if xs.wd = wd then some (.vec true (xs.cut lo n)) else none
    | _ => none
  | .sl k off len cap => match rd k with
    | some (.cells e l) => if len ≤ cap ∧ off + len ≤ l.length then (cellsVL P e (cut l off len)).map (.vec true ·) else none
    | _ => none
  | _ => none
def hdN : List (Option VL) → Option VL
  | [] => none
  | x :: _ => x
def outL (P : Program) (rd : Nat → Option Blk) : List (Option VL) → List SV → Option (List SV)
  | _, [] => some []
  | nl, s :: r => match outSV P rd (hdN nl) s, outL P rd nl.tail r with
    | some x, some l => some (x :: l)
    | _, _ => none
def outLL (P : Program) (rd : Nat → Option Blk) : List TypeId → List (Bool × List SV) → Option (List (Bool × List SV))
  | _, [] => some []
  | ts, (g, l) :: r => match outL P rd (nilsT P (ts.headD 0)) l, outLL P rd ts.tail r with
    | some x, some m => some ((g, x) :: m)
    | _, _ => none
def outA (P : Program) (rd : Nat → Option Blk) (ts : List TypeId) : AV → Option AV
  | .one g l => (outL P rd (nilsT P (ts.headD 0)) l).map (.one g ·)
  | .tup l => (outLL P rd ts l).map .tup

section
variable {E : Env} {w : World} {rd : Nat → Option Blk}
theorem outSV_spec (hrd : ∀ k b, rd k = some b → BlkR C E w k b) (hAF : ∀ n, E.A n → E.F n ∧ n < w.heap.size) {nl : Option VL} {s r : SV} {v : Value} (ho : outSV P rd nl s = some r) (hs : SV.rel C E w s v) {C' : Ctx} {E' : Env} (hE : ∀ n, E.F n → E'.G true n) : SV.rel C' E' w r v := by
  unfold outSV at ho
  split at ho
  · cases ho; exact hs
  · cases ho; exact hs
  · split at ho
    · rename_i xs
      split at ho
      · rename_i h0
        cases ho; cases hs
        exact ⟨none, 0, by rw [h0], by omega, fun _ => rfl, .inl h0⟩
      · cases ho
    · cases ho; exact hs
  · cases ho; cases hs; rfl
  · cases ho; exact hs
  · cases ho; exact hs
  · cases ho
    exact VecG.mono hs (fun b _ hb => hE b (hb.2 rfl)) (Nat.le_refl _) (fun _ _ _ _ h => h)
  · split at ho
    · rename_i k _ e xs hk
      cases ho
      obtain ⟨u, hu, _, hg, hfl, how⟩ := hrd _ _ hk
      have := hs.1
      rw [hu] at this; cases this
      exact own_G hfl how fun n hn => hE n (hAF n (hg n hn)).1
    · cases ho
  · split at ho
    · rename_i k wd lo n _ e xs hk
      split at ho
      · rename_i hwd
        cases ho
        obtain ⟨u, hu, _, hg, hfl, how⟩ := hrd _ _ hk
        exact sub_G hfl hu how hwd hs fun n hn => hE n (hAF n (hg n hn)).1
      · cases ho
    · cases ho
  · split at ho
    · rename_i k off len cap _ e l hk
      split at ho
      · rename_i hle
        simp only [Option.map_eq_some_iff] at ho
        obtain ⟨xs, hxs, rfl⟩ := ho
        obtain ⟨hv, hlen, hwd, hpl⟩ := cellsVL_spec hxs
        obtain ⟨n, hn, hnA, vs, hvs, hvr, _⟩ := hrd _ _ hk
        obtain ⟨m, hm, rfl⟩ := hs
        rw [hn] at hm; cases hm
        have hcl : (cut l off len).length = len := by simp [cut]; omega
        have hcut := exacts_of_plain hpl ((hvr.drop off).take len)
        have hfl : xs.flat = true := by
          unfold cellsVL at hxs
          split at hxs
          · simp only [Option.map_eq_some_iff] at hxs; obtain ⟨_, _, rfl⟩ := hxs; rfl
          · simp only [Option.map_eq_some_iff] at hxs; obtain ⟨_, _, rfl⟩ := hxs; rfl
          · cases hxs
        refine ⟨_, cap, by rw [hlen, hcl], by rw [hlen, hcl]; omega, fun e => (by cases e), .inr ⟨n, off, rfl, hE n (hAF n hnA).1, (hAF n hnA).2, fun i hi => RdX.at hfl fun j c hj => ?_⟩⟩
        have hjl := list_get_lt hj
        rw [VL.at_length, hwd] at hjl
        have hj0 : j = 0 := by omega
        subst hj0
        have hvg := VL.vals_get (xs := xs) (i := i) (j := 0) hi (by omega)
        rw [hj, hv, ← hcut, List.getElem?_take, List.getElem?_drop] at hvg
        rw [hlen, hcl] at hi
        rw [hwd] at hvg
        simp only [Nat.mul_one, Nat.add_zero, if_pos hi, Option.map_some] at hvg
        rw [hwd]
        simp only [Nat.mul_one, Nat.add_zero]
        simpa [World.cell?, hvs] using hvg
      · cases ho
    · cases ho
  · cases ho
theorem outL_spec (hrd : ∀ k b, rd k = some b → BlkR C E w k b) (hAF : ∀ n, E.A n → E.F n ∧ n < w.heap.size) {C' : Ctx} {E' : Env} (hE : ∀ n, E.F n → E'.G true n) :
    ∀ {nl : List (Option VL)} {l m : List SV} {vs : List Value}, outL P rd nl l = some m → AllR (SV.rel C E w) l vs → AllR (SV.rel C' E' w) m vs
  | _, [], m, vs, ho, h => by cases ho; have := h.unnil; subst this; exact AllR.nil
  | nl, s :: r, m, vs, ho, h => by
    simp only [outL] at ho
    split at ho
    · rename_i x l hx hl'
      cases ho
      obtain ⟨v, vs', rfl, hv, h'⟩ := h.uncons
      exact AllR.cons (outSV_spec hrd hAF hx hv hE) (outL_spec hrd hAF hE hl' h')
    · cases ho
theorem outOne_spec (hrd : ∀ k b, rd k = some b → BlkR C E w k b) (hAF : ∀ n, E.A n → E.F n ∧ n < w.heap.size) {C' : Ctx} {E' : Env} (hE : ∀ n, E.F n → E'.G true n) {g : Bool} {nl : List (Option VL)} {l m : List SV} {v : Value}
    (ho : outL P rd nl l = some m) (h : OneR C E w g l v) : OneR C' E' w g m v := by
  cases g with
  | true =>
    obtain ⟨vs, rfl, h⟩ := h
    exact ⟨vs, rfl, outL_spec hrd hAF hE ho h⟩
  | false =>
    match l, h with
    | [s], h =>
      simp only [outL] at ho
      split at ho
      · rename_i x r hx hr
        cases hr; cases ho
        exact outSV_spec hrd hAF hx h hE
      · cases ho
theorem outLL_spec (hrd : ∀ k b, rd k = some b → BlkR C E w k b) (hAF : ∀ n, E.A n → E.F n ∧ n < w.heap.size) {C' : Ctx} {E' : Env} (hE : ∀ n, E.F n → E'.G true n) :
    ∀ {ts : List TypeId} {l m : List (Bool × List SV)} {vs : List Value}, outLL P rd ts l = some m → AllR (fun (p : Bool × List SV) v => OneR C E w p.1 p.2 v) l vs → AllR (fun (p : Bool × List SV) v => OneR C' E' w p.1 p.2 v) m vs
  | _, [], m, vs, ho, h => by cases ho; have := h.unnil; subst this; exact AllR.nil
  | ts, (g, s) :: r, m, vs, ho, h => by
    simp only [outLL] at ho
    split at ho
    · rename_i x l hx hl'
      cases ho
      obtain ⟨v, vs', rfl, hv, h'⟩ := h.uncons
      exact AllR.cons (outOne_spec hrd hAF hE hx hv) (outLL_spec hrd hAF hE hl' h')
    · cases ho
theorem outA_spec (hrd : ∀ k b, rd k = some b → BlkR C E w k b) (hAF : ∀ n, E.A n → E.F n ∧ n < w.heap.size) {ts : List TypeId} {x r : AV} {v : Value} (ho : outA P rd ts x = some r) (h : AV.rel C E w x v) : InG true E.F w r v := by
  intro C' E' hE
  cases x with
  | one g l =>
    simp only [outA, Option.map_eq_some_iff] at ho
    obtain ⟨m, hm, rfl⟩ := ho
    exact outOne_spec hrd hAF hE hm h
  | tup l =>
    simp only [outA, Option.map_eq_some_iff] at ho
    obtain ⟨m, hm, rfl⟩ := ho
    obtain ⟨vs, rfl, h⟩ := h
    exact ⟨vs, rfl, outLL_spec hrd hAF hE hm h⟩
end

def start (args : List AV) (n : Nat) : St := ⟨args ++ List.replicate (n - args.length) undefA, []⟩
def resOut (P : Program) (rs : List ResultVar) (ts : List TypeId) (s : St) : Option AV := (resS P rs s).bind (outA P (s.rd fun _ => true) ts)
/-- what is shown of a function's end -/
def fin (P : Program) (rs : List ResultVar) (ts : List TypeId) (Q : AV → Prop) (x : X) (s : St) : Prop :=
  match x with
  | .nrm => match resOut P rs ts s with
    | some r => Q r
    | none => False
  | .ret => match resOut P rs ts s with
    | some r => Q r
    | none => False
  | .ex _ => False
def evF (P : Program) (C : Ctx) (L : Loops) (u : Nat) (fn : Func) (args : List AV) (Q : AV → Prop) : Prop :=
  match fn.body with
  | some c => forceAs (start args fn.ntmps).slots fun sl => evC P C L u c ⟨sl, []⟩ (fin P fn.results.toList fn.resultTypes.toList Q)
  | none => False

theorem fin_spec {rs : List ResultVar} {ts : List TypeId} {Q : AV → Prop} {x : X} {s : St} (h : fin P rs ts Q x s) : (x = .nrm ∨ x = .ret) ∧ ∃ r, resOut P rs ts s = some r ∧ Q r := by
  cases x with
  | nrm => simp only [fin] at h; split at h
           · rename_i r hr; exact ⟨.inl rfl, r, hr, h⟩
           · exact h.elim
  | ret => simp only [fin] at h; split at h
           · rename_i r hr; exact ⟨.inr rfl, r, hr, h⟩
           · exact h.elim
  | ex id => exact h.elim

theorem start_slots {C : Ctx} {E : Env} {w : World} {args : List AV} {vs : Array Value} {n : Nat} (hargs : AllR (AV.rel C E w) args vs.toList) :
    AllR (AV.rel C E w) (args ++ List.replicate (n - args.length) undefA) (vs ++ Array.replicate (n - vs.size) undef).toList := by
  have e : vs.size = args.length := by have := hargs.1; simp at this; omega
  simp only [Array.toList_append, Array.toList_replicate, e]
  refine hargs.app ⟨by simp, fun i x v hx hv => ?_⟩
  rw [List.getElem?_replicate] at hx hv
  split at hx
  · rename_i hi
    rw [if_pos hi] at hv
    cases hx; cases hv
    exact undef_rel C _ w
  · cases hx

/-- the setting at a function's start -/
def ES (F : Nat → Prop) : Env := ⟨fun _ => none, fun _ => none, fun _ => False, F, fun _ => False⟩
theorem calls_of_evF (hm : P.follows .mixedOrders = true) {f : FuncId} {fn : Func} {w : World} (hC : CtxOK P C) (hX : C.X = fun _ => False) (hv0 : C.v0 = none) (hF : ∀ n, w.heap.size ≤ n → C.F n) {L : Loops} {u : Nat} (hf : P.funcs[f]? = some fn)
    (hL : ∀ c, fn.body = some c → LoopsOK P C w.heap.size w L (loopsIn c)) {args : List AV} {vs : Array Value} (hargs : AllR (AV.rel C (ES C.F) w) args vs.toList) {Q : AV → Prop} (h : evF P C L u fn args Q) :
    Calls P f vs w fun e w' => ∃ r v, Q r ∧ e = .returned v ∧ InG true C.F w' r v ∧ Below w.heap.size w w' := by
  unfold evF at h
  split at h
  · rename_i c hb
    rw [forceAs_eq] at h
    have h : evC P C L u c (start args fn.ntmps) (fin P fn.results.toList fn.resultTypes.toList Q) := h
    refine calls_of_wp hf hb ?_
    have hrel : Rel C w.heap.size w (ES C.F) (start args fn.ntmps) { tmps := vs ++ Array.replicate (fn.ntmps - vs.size) undef, defers := [] } w := by
      refine { slots := start_slots hargs, defers := rfl, heap := ?_, free := fun _ _ => ⟨rfl, rfl⟩, lo := fun n h => h.elim, inj := ?_, below := BelowX.refl _ _ _, base := Nat.le_refl _, ok := ⟨hF, fun _ h => h.elim, rfl, hX.symm, fun v hv => by rw [hv0] at hv; cases hv⟩ }
      · intro k b hk; simp [start] at hk
      · intro k k' b b' n hk; simp [start] at hk
    refine wp_mono (evC_spec hm hC c (hL c hb) _ _ h _ _ _ hrel) ?_
    rintro e a' w' ⟨x, E', s', rfl, hr, hk⟩
    obtain ⟨hx, r, hres, hQ⟩ := fin_spec hk
    unfold resOut at hres
    simp only [Option.bind_eq_some_iff] at hres
    obtain ⟨r0, hr0, hout⟩ := hres
    obtain ⟨u, hu, hur⟩ := resS_spec (P := P) hr hr0
    have hnX : ∀ n, ¬ E'.X n := fun n hn => by rw [hr.ok.eX, hX] at hn; exact hn
    have hO : InG true C.F w' r u := by
      have := outA_spec (P := P) (rd_rel hr _) (fun n hn => ⟨by
        rcases (hr.lo n hn).1 with h1 | h1
        · exact hr.ok.F n h1
        · exact absurd h1 (hnX n), (hr.lo n hn).2⟩) hout hur
      rwa [hr.ok.eF] at this
    have hbl := hr.below.to hnX
    rcases hx with rfl | rfl
    · exact ⟨hr.defers, u, hu, r, u, hQ, rfl, hO, hbl⟩
    · exact ⟨hr.defers, u, hu, r, u, hQ, rfl, hO, hbl⟩
  · exact h.elim

/-! ### A function that writes into a list that it is lent -/
/-- a result without addresses, and what the list is now -/
def finB (P : Program) (rs : List ResultVar) (e : TypeId) (Q : AV → VL → Prop) (x : X) (s : St) : Prop :=
  match x with
  | .ex _ => False
  | _ => match resS P rs s, s.rd (fun _ => true) 0 with
    | some r, some (.grow e' xs) => cond (r.plain && Nat.beq e' e) (Q r xs) False
    | _, _ => False
def startB (args : List AV) (n : Nat) (e : TypeId) (xs : VL) : St := ⟨args ++ List.replicate (n - args.length) undefA, [some (some (.grow e xs))]⟩
def evFB (P : Program) (C : Ctx) (L : Loops) (u : Nat) (fn : Func) (args : List AV) (e : TypeId) (xs : VL) (Q : AV → VL → Prop) : Prop :=
  match fn.body with
  | some c => forceAs (startB args fn.ntmps e xs).slots fun sl => evC P C L u c ⟨sl, [some (some (.grow e xs))]⟩ (finB P fn.results.toList e Q)
  | none => False
/-- the setting at such a function's start -/
def EB (X : Nat → Prop) (v0 : Value) : Env := ⟨fun _ => none, fun k => match k with | 0 => some v0 | _ => none, X, fun _ => True, X⟩
theorem finB_spec {rs : List ResultVar} {e : TypeId} {Q : AV → VL → Prop} {x : X} {s : St} (h : finB P rs e Q x s) : (x = .nrm ∨ x = .ret) ∧ ∃ r xs, resS P rs s = some r ∧ s.rd (fun _ => true) 0 = some (.grow e xs) ∧ r.plain = true ∧ Q r xs := by
  have key : ∀ {p : Prop}, (match resS P rs s, s.rd (fun _ => true) 0 with
    | some r, some (.grow e' xs) => cond (r.plain && Nat.beq e' e) (Q r xs) False
    | _, _ => False) → p ∨ ∃ r xs, resS P rs s = some r ∧ s.rd (fun _ => true) 0 = some (.grow e xs) ∧ r.plain = true ∧ Q r xs := by
    intro p h
    split at h
    · rename_i r e' xs h1 h2
      cases hp : r.plain with
      | false => rw [hp] at h; exact h.elim
      | true =>
        rw [hp] at h
        cases he : Nat.beq e' e with
        | false => rw [he] at h; exact h.elim
        | true =>
          have := Nat.eq_of_beq_eq_true he
          subst this
          rw [he] at h
          exact .inr ⟨r, xs, h1, h2, hp, h⟩
    · exact h.elim
  cases x with
  | nrm => exact ⟨.inl rfl, (key (p := False) h).resolve_left id⟩
  | ret => exact ⟨.inr rfl, (key (p := False) h).resolve_left id⟩
  | ex id => exact h.elim
theorem calls_of_evFB (hm : P.follows .mixedOrders = true) {f : FuncId} {fn : Func} {w : World} (hC : CtxOK P C) {v0 : Value} (hX : C.X = fun n => v0.ownBlock = some n) (hF : C.F = fun _ => True) (hv0 : C.v0 = some v0) {L : Loops} {u : Nat} (hf : P.funcs[f]? = some fn)
    (hL : ∀ c, fn.body = some c → LoopsOK P C w.heap.size w L (loopsIn c)) {args : List AV} {vs : Array Value} (hargs : AllR (AV.rel C (EB C.X v0) w) args vs.toList) {e : TypeId} {xs : VL} (hfl : xs.flat = true) (ho : w.ownsRow 0 e xs.wd v0 xs.len xs.vals)
    {Q : AV → VL → Prop} (h : evFB P C L u fn args e xs Q) :
    Calls P f vs w fun ed w' => ∃ (r : AV) (ys : VL), Q r ys ∧ ed = .returned r.toV ∧ r.plain = true ∧ (ys.flat = true ∧ w'.ownsRow 0 e ys.wd v0 ys.len ys.vals) ∧ BelowX C.X w.heap.size w w' := by
  unfold evFB at h
  split at h
  · rename_i c hb
    rw [forceAs_eq] at h
    have h : evC P C L u c (startB args fn.ntmps e xs) (finB P fn.results.toList e Q) := h
    refine calls_of_wp hf hb ?_
    have hrel : Rel C w.heap.size w (EB C.X v0) (startB args fn.ntmps e xs) { tmps := vs ++ Array.replicate (fn.ntmps - vs.size) undef, defers := [] } w := by
      refine { slots := start_slots hargs, defers := rfl, heap := ?_, free := ?_, lo := ?_, inj := ?_, below := BelowX.refl _ _ _, base := Nat.le_refl _, ok := ⟨fun _ _ => trivial, fun _ _ => trivial, by rw [hF]; rfl, rfl, fun v hv => by rw [hv0] at hv; cases hv; rfl⟩ }
      · intro k b hk
        rcases k with _ | k
        · simp only [startB, List.getElem?_cons_zero, Option.some.injEq] at hk
          subst hk
          exact ⟨v0, rfl, rfl, fun n hn => by show C.X n; rw [hX]; exact hn, hfl, ho⟩
        · simp [startB] at hk
      · intro k hk
        rcases k with _ | k
        · simp [startB] at hk
        · exact ⟨rfl, rfl⟩
      · intro n hn
        refine ⟨.inr hn, ?_⟩
        have hn' : C.X n := hn
        rw [hX] at hn'
        exact (ho.lt n hn').2
      · intro k k' b b' n hk hk'
        rcases k with _ | k <;> rcases k' with _ | k'
        · intros; rfl
        · simp [startB] at hk'
        · simp [startB] at hk
        · simp [startB] at hk
    refine wp_mono (evC_spec hm hC c (hL c hb) _ _ h _ _ _ hrel) ?_
    rintro ed a' w' ⟨x, E', s', rfl, hr, hk⟩
    obtain ⟨hx, r, ys, hr0, hrd, hpl, hQ⟩ := finB_spec hk
    obtain ⟨u, hu, hur⟩ := resS_spec (P := P) hr hr0
    have hu' := AV.toV_of hpl hur
    subst hu'
    obtain ⟨v, hv, _, _, hyf, hyo⟩ := rd_rel hr _ _ _ hrd
    rw [hr.ok.v0 v0 hv0] at hv
    cases hv
    have hb' := hr.below
    rw [hr.ok.eX] at hb'
    rcases hx with rfl | rfl
    · exact ⟨hr.defers, _, hu, r, ys, hQ, rfl, hpl, ⟨hyf, hyo⟩, hb'⟩
    · exact ⟨hr.defers, _, hu, r, ys, hQ, rfl, hpl, ⟨hyf, hyo⟩, hb'⟩
  · exact h.elim
end Go.Ev
