/- The evaluator of code is sound. Conditions: the summaries and the loops' summaries are sound. -/
import Derived.Test.YtgaapeaclbpaeaaEvG
import Derived.Deep.LoopGhost
import Derived.LoopN
namespace Go.Ev
open Go.RowKit

variable {P : Program} {C : Ctx} {B : Nat} {w0 : World}

/-! ### The evaluator -/
def isB (s : St) (d : Nat) : Option Bool :=
  match s.slots[d]? with
  | some (.one false [.bool b]) => some b
  | _ => none
/-! States are kept worked out (the kernel does no more than it must, and would walk through all changes again and again) -/
def forceS : SV → (SV → Prop) → Prop
  | .bool b, k => k (.bool b)
  | .int i n, k => k (.int i n)
  | .ptr a b, k => k (.ptr a b)
  | .val v, k => k (.val v)
  | .vec fr xs, k => k (.vec fr xs)
  | .epv xs i o, k => k (.epv xs i o)
  | .pvc xs, k => k (.pvc xs)
  | .sl a b c d, k => k (.sl a b c d)
  | .fnv i, k => k (.fnv i)
  | .clo f l, k => k (.clo f l)
  | .clv f l, k => k (.clv f l)
  | .own a, k => k (.own a)
  | .sub a b c d, k => k (.sub a b c d)
  | .epo a b c d, k => k (.epo a b c d)
  | .top, k => k .top
  | .und, k => k .und
theorem forceS_eq (s : SV) (k : SV → Prop) : forceS s k = k s := by cases s <;> rfl
def forceSs : List SV → (List SV → Prop) → Prop
  | [], k => k []
  | s :: l, k => forceS s fun s => forceSs l fun l => k (s :: l)
theorem forceSs_eq : ∀ (l : List SV) (k : List SV → Prop), forceSs l k = k l
  | [], k => rfl
  | s :: l, k => by simp only [forceSs, forceS_eq]; exact forceSs_eq l _
def forceA : AV → (AV → Prop) → Prop
  | .one true l, k => forceSs l fun l => k (.one true l)
  | .one false l, k => forceSs l fun l => k (.one false l)
  | .tup l, k => k (.tup l)
theorem forceA_eq (x : AV) (k : AV → Prop) : forceA x k = k x := by
  match x with
  | .one true l => exact forceSs_eq l _
  | .one false l => exact forceSs_eq l _
  | .tup l => rfl
def forceAs : List AV → (List AV → Prop) → Prop
  | [], k => k []
  | s :: l, k => forceA s fun s => forceAs l fun l => k (s :: l)
theorem forceAs_eq : ∀ (l : List AV) (k : List AV → Prop), forceAs l k = k l
  | [], k => rfl
  | s :: l, k => by simp only [forceAs, forceA_eq]; exact forceAs_eq l _
def forceB : Option (Option Blk) → (Option (Option Blk) → Prop) → Prop
  | none, k => k none
  | some none, k => k (some none)
  | some (some (.cells e l)), k => forceSs l fun l => k (some (some (.cells e l)))
  | some (some (.grow e xs)), k => k (some (some (.grow e xs)))
theorem forceB_eq (x : Option (Option Blk)) (k : Option (Option Blk) → Prop) : forceB x k = k x := by
  match x with
  | none => rfl
  | some none => rfl
  | some (some (.cells e l)) => exact forceSs_eq l _
  | some (some (.grow e xs)) => rfl
def forceH : List (Option (Option Blk)) → (List (Option (Option Blk)) → Prop) → Prop
  | [], k => k []
  | s :: l, k => forceB s fun s => forceH l fun l => k (s :: l)
theorem forceH_eq : ∀ (l : List (Option (Option Blk))) (k : List (Option (Option Blk)) → Prop), forceH l k = k l
  | [], k => rfl
  | s :: l, k => by simp only [forceH, forceB_eq]; exact forceH_eq l _
def setK : List AV → Nat → AV → (List AV → Prop) → Prop
  | [], _, _, k => k []
  | _ :: l, 0, v, k => k (v :: l)
  | a :: l, n + 1, v, k => setK l n v fun l => k (a :: l)
theorem setK_eq : ∀ (l : List AV) (n : Nat) (v : AV) (k : List AV → Prop), setK l n v k = k (l.set n v)
  | [], _n, _v, _k => rfl
  | _a :: _l, 0, _v, _k => rfl
  | _a :: l, n + 1, v, _k => setK_eq l n v _
def putK (s : St) (d : Option Nat) (v : AV) (k : St → Prop) : Prop :=
  match s, d with
  | ⟨sl, h⟩, some d => forceA v fun v => setK sl d v fun sl => k ⟨sl, h⟩
  | s, none => k s
theorem putK_eq (s : St) (d : Option Nat) (v : AV) (k : St → Prop) : putK s d v k = k (s.put d v) := by
  obtain ⟨sl, h⟩ := s
  cases d with
  | none => rfl
  | some d => simp only [putK, forceA_eq, setK_eq]; rfl
def chgK (l : List (Nat × Option Blk)) (s : St) (k : St → Prop) : Prop :=
  match s with
  | ⟨sl, h⟩ => forceH (chg l h) fun h => k ⟨sl, h⟩
theorem chgK_eq (l : List (Nat × Option Blk)) (s : St) (k : St → Prop) : chgK l s k = k { s with heap := chg l s.heap } := by
  obtain ⟨sl, h⟩ := s
  simp only [chgK, forceH_eq]
/-- a test that is not decided yet is decided here -/
def brS (d : Option Nat) (s : St) (k : St → Prop) : Prop :=
  match d with
  | none => k s
  | some d => match s.slots[d]? with
    | some (.one false [.bool b]) => cond b (putK s (some d) (.one false [.bool true]) k) (putK s (some d) (.one false [.bool false]) k)
    | _ => k s
theorem set_self {l : List AV} {d : Nat} {x : AV} (h : l[d]? = some x) : l.set d x = l := by
  apply List.ext_getElem?
  intro i
  rw [List.getElem?_set]
  by_cases e : d = i
  · subst e
    rw [if_pos rfl]
    split
    · exact h.symm
    · rename_i h'; rw [List.getElem?_eq_none (by omega)] at h; cases h
  · rw [if_neg e]
theorem brS_spec {d : Option Nat} {s : St} {k : St → Prop} (h : brS d s k) : k s := by
  unfold brS at h
  split at h
  · exact h
  · rename_i d
    split at h
    · rename_i b hb
      cases b
      · simp only [cond_false, putK_eq, St.put] at h
        rw [set_self hb] at h
        exact h
      · simp only [cond_true, putK_eq, St.put] at h
        rw [set_self hb] at h
        exact h
    · exact h

def dOpK (P : Program) (C : Ctx) (o : Oper) (al : Nat → Bool) (key : Nat) (s : St) (k : St → Prop) : Prop :=
  match kd o.op with
  | .p => match effP P o s.ρ with
    | some v => putK s o.dst v k
    | none => False
  | .r => match effR P C o s.ρ (s.rd al) with
    | some v => putK s o.dst v k
    | none => False
  | .a => match effA P o s.ρ key, s.heap[key]? with
    | some (v, l), some none => putK s o.dst v fun s => chgK l s k
    | _, _ => False
  | .w => match effW P o s.ρ (s.rd al) key, s.heap[key]? with
    | some (v, l), some none => putK s o.dst v fun s => chgK l s k
    | _, _ => False
def guardSlot (ops : Array Oper) (o : Oper) : Option Nat :=
  match o.guard with
  | none => none
  | some (j, _) => (ops[j]?).bind (·.dst)
def pickSlot (o : Oper) : Option Nat :=
  match o.op with
  | .pick (.tmp t) _ _ => some t
  | _ => none
def evOp (P : Program) (C : Ctx) (ops : Array Oper) (al : Nat → Bool) (nk i : Nat) (s : St) (k : St → Prop) : Prop :=
  match ops[i]? with
  | none => False
  | some o => brS (guardSlot ops o) s fun s => match s.guard ops o with
    | none => False
    | some false => putK s o.dst undefA k
    | some true => brS (pickSlot o) s fun s => cond (asr P C o s.ρ (s.rdk o al)) (dOpK P C o al (nk + i) s k) False
def evOps (P : Program) (C : Ctx) (ops : Array Oper) (al : Nat → Nat → Bool) (nk : Nat) : List Nat → St → (St → Prop) → Prop
  | [], s, k => k s
  | i :: is, s, k => evOp P C ops (al i) nk i s fun s => evOps P C ops al nk is s k

theorem evOp_spec {ops : Array Oper} {al : Nat → Bool} {nk i : Nat} {s : St} {k : St → Prop} (h : evOp P C ops al nk i s k) : ∃ s', dOp P C ops al nk i s = some s' ∧ k s' := by
  unfold evOp at h
  unfold dOp
  split at h
  · exact h.elim
  · rename_i o ho
    rw [ho]
    simp only
    have h := brS_spec h
    split at h
    · exact h.elim
    · rename_i hg; rw [putK_eq] at h; rw [hg]; exact ⟨_, rfl, h⟩
    · rename_i hg
      rw [hg]
      have h := brS_spec h
      cases ha : asr P C o s.ρ (s.rdk o al) with
      | false => rw [ha] at h; exact h.elim
      | true =>
        rw [ha] at h
        simp only [cond_true] at h ⊢
        unfold dOpK at h
        cases hk : kd o.op with
        | p =>
          rw [hk] at h; simp only at h ⊢
          split at h
          · rename_i v hv; rw [putK_eq] at h; rw [hv]; exact ⟨_, rfl, h⟩
          · exact h.elim
        | r =>
          rw [hk] at h; simp only at h ⊢
          split at h
          · rename_i v hv; rw [putK_eq] at h; rw [hv]; exact ⟨_, rfl, h⟩
          · exact h.elim
        | a =>
          rw [hk] at h; simp only at h ⊢
          split at h
          · rename_i v l hv hf; rw [putK_eq, chgK_eq] at h; rw [hv, hf]; refine ⟨_, rfl, ?_⟩; cases hd : o.dst <;> rw [hd] at h <;> exact h
          · exact h.elim
        | w =>
          rw [hk] at h; simp only at h ⊢
          split at h
          · rename_i v l hv hf; rw [putK_eq, chgK_eq] at h; rw [hv, hf]; refine ⟨_, rfl, ?_⟩; cases hd : o.dst <;> rw [hd] at h <;> exact h
          · exact h.elim
theorem evOps_spec {ops : Array Oper} {al : Nat → Nat → Bool} {nk : Nat} : ∀ {is : List Nat} {s : St} {k : St → Prop}, evOps P C ops al nk is s k → ∃ s', dRun P C ops al nk is s = some s' ∧ k s'
  | [], s, k, h => ⟨s, rfl, h⟩
  | i :: is, s, k, h => by
    obtain ⟨s1, h1, h2⟩ := evOp_spec h
    obtain ⟨s2, h3, h4⟩ := evOps_spec h2
    exact ⟨s2, by simp only [dRun, h1]; exact h3, h4⟩

def St.ext (s : St) (n : Nat) : St := { s with heap := s.heap ++ List.replicate n none }
theorem ext_get {s : St} {n k : Nat} {b} (hk : (s.ext n).heap[k]? = some (some b)) : s.heap[k]? = some (some b) := by
  unfold St.ext at hk
  simp only [List.getElem?_append] at hk
  split at hk
  · exact hk
  · rw [List.getElem?_replicate] at hk; split at hk <;> cases hk
theorem Rel.ext {E s a w} (h : Rel C B w0 E s a w) (n : Nat) : Rel C B w0 E (s.ext n) a w where
  slots := h.slots
  defers := h.defers
  heap k b hk := h.heap k b (ext_get hk)
  free k hk := by
    unfold St.ext at hk
    simp only [List.getElem?_append] at hk
    refine h.free k ?_
    split at hk
    · exact hk
    · exact .inr (List.getElem?_eq_none (by omega))
  lo := h.lo
  inj k k' b b' n h1 h2 := h.inj k k' b b' n (ext_get h1) (ext_get h2)
  below := h.below
  base := h.base
  elo := h.elo

def extK (s : St) (n : Nat) (k : St → Prop) : Prop :=
  match s with
  | ⟨sl, h⟩ => forceH (h ++ List.replicate n none) fun h => k ⟨sl, h⟩
theorem extK_eq (s : St) (n : Nat) (k : St → Prop) : extK s n k = k (s.ext n) := by
  obtain ⟨sl, h⟩ := s
  simp only [extK, forceH_eq]; rfl
def evReg (P : Program) (C : Ctx) (ops : Array Oper) (draw : Bool) (s : St) (k : St → Prop) : Prop :=
  bif draw then
    cond (regOK ops (closure ops) (locs ops s s.heap.length) s.heap.length) (extK s ops.size fun s' => evOps P C ops (alo (locs ops s s.heap.length) (fun i => (closure ops).getD i 0) s.heap.length) s.heap.length (List.range ops.size) s' k) False
  else extK s ops.size fun s' => evOps P C ops (fun _ _ => true) s.heap.length (List.range ops.size) s' k

inductive X where
  | nrm
  | ex (id : Nat)
  | ret
def X.out : X → Exit
  | .nrm => .normal
  | .ex id => .exit id
  | .ret => .ret

/-- what is shown of a piece of code, started in a state -/
def EW (P : Program) (C : Ctx) (B : Nat) (w0 : World) (c : Code) (s : St) (k : X → St → Prop) : Prop :=
  ∀ E a w, Rel C B w0 E s a w → c.wp P (fun e a' w' => ∃ x E' s', e = X.out x ∧ Rel C B w0 E' s' a' w' ∧ k x s') a w

theorem evReg_spec (hm : P.follows .mixedOrders = true) (hC : CtxOK P C B w0) {ops : Array Oper} {draw : Bool} {id : Nat} {s : St} {k : X → St → Prop} (h : evReg P C ops draw s (k .nrm)) : EW P C B w0 (.region id ops draw) s k := by
  intro E a w hr
  cases draw with
  | false =>
    simp only [evReg, cond_false, extK_eq] at h
    obtain ⟨s', h1, h2⟩ := evOps_spec h
    exact wp_region (dRun_sound hC (hr.ext _) h1 fun E' a' w' hr' => ⟨.nrm, E', s', rfl, hr', h2⟩)
  | true =>
    simp only [evReg, cond_true] at h
    cases hok : regOK ops (closure ops) (locs ops s s.heap.length) s.heap.length with
    | false => rw [hok] at h; exact h.elim
    | true =>
      rw [hok] at h
      simp only [cond_true, extK_eq] at h
      obtain ⟨s', h1, h2⟩ := evOps_spec h
      exact region_draw hm hC hok (hr.ext _) h1 fun E' a' w' hr' => ⟨.nrm, E', s', rfl, hr', h2⟩

/-- the number of a piece of code: its first region's -/
def rid : Code → Option Nat
  | .region id _ _ => some id
  | .seq a b => match rid a with
    | some n => some n
    | none => rid b
  | .cond _ a b => match rid a with
    | some n => some n
    | none => rid b
  | .block _ c => rid c
  | .loop c => rid c
  | .scope c => rid c
  | _ => none

abbrev Loops := Nat → Option (St → (X → St → Prop) → Prop)

/-- a loop, round by round -/
def evLoop (ev : St → (X → St → Prop) → Prop) : Nat → St → (X → St → Prop) → Prop
  | 0, _, _ => False
  | n + 1, s, k => ev s fun x s => match x with
    | .nrm => evLoop ev n s k
    | .ex id => k (.ex id) s
    | .ret => k .ret s

def condSlot : Operand → Option Nat
  | .tmp t => some t
  | _ => none
def evC (P : Program) (C : Ctx) (L : Loops) (u : Nat) : Code → St → (X → St → Prop) → Prop
  | .skip, s, k => k .nrm s
  | .region _ ops draw, s, k => evReg P C ops draw s (k .nrm)
  | .seq a b, s, k => evC P C L u a s fun x s => match x with
    | .nrm => evC P C L u b s k
    | .ex id => k (.ex id) s
    | .ret => k .ret s
  | .cond c a b, s, k => brS (condSlot c) s fun s => match s.ρ c with
    | some (.one false [.bool t]) => cond t (evC P C L u a s k) (evC P C L u b s k)
    | _ => False
  | .block id c, s, k => evC P C L u c s fun x s => match x with
    | .nrm => k .nrm s
    | .ex id' => cond (id' == id) (k .nrm s) (k (.ex id') s)
    | .ret => k .ret s
  | .loop c, s, k => match (rid c).bind L with
    | some ls => ls s k
    | none => evLoop (fun s k => evC P C L u c s k) u s k
  | .exit id, s, k => k (.ex id) s
  | .ret, s, k => k .ret s
  | _, _, _ => False

/-- the loops of a piece of code -/
def loopsIn : Code → List Code
  | .seq a b => loopsIn a ++ loopsIn b
  | .cond _ a b => loopsIn a ++ loopsIn b
  | .block _ c => loopsIn c
  | .loop c => c :: loopsIn c
  | _ => []
def LoopsOK (P : Program) (C : Ctx) (B : Nat) (w0 : World) (L : Loops) (cs : List Code) : Prop :=
  ∀ c ∈ cs, ∀ ls, (rid c).bind L = some ls → ∀ s k, ls s k → EW P C B w0 (.loop c) s k

theorem EW.mono {c : Code} {s : St} {k k' : X → St → Prop} (h : EW P C B w0 c s k) (hk : ∀ x s, k x s → k' x s) : EW P C B w0 c s k' :=
  fun E a w hr => wp_mono (h E a w hr) fun _ _ _ ⟨x, E', s', he, hr', h'⟩ => ⟨x, E', s', he, hr', hk x s' h'⟩

theorem EW.seq {c d : Code} {s : St} {k : X → St → Prop} (h : EW P C B w0 c s fun x s => match x with
    | .nrm => EW P C B w0 d s k
    | .ex id => k (.ex id) s
    | .ret => k .ret s) : EW P C B w0 (.seq c d) s k := by
  intro E a w hr
  refine wp_seq (wp_mono (h E a w hr) ?_)
  rintro e a' w' ⟨x, E', s', rfl, hr', h'⟩
  cases x with
  | nrm => exact h' E' a' w' hr'
  | ex id => exact ⟨.ex id, E', s', rfl, hr', h'⟩
  | ret => exact ⟨.ret, E', s', rfl, hr', h'⟩

theorem EW.block {id : Nat} {c : Code} {s : St} {k : X → St → Prop} (h : EW P C B w0 c s fun x s => match x with
    | .nrm => k .nrm s
    | .ex id' => cond (id' == id) (k .nrm s) (k (.ex id') s)
    | .ret => k .ret s) : EW P C B w0 (.block id c) s k := by
  intro E a w hr
  refine wp_block (wp_mono (h E a w hr) ?_)
  rintro e a' w' ⟨x, E', s', rfl, hr', h'⟩
  cases x with
  | nrm => exact ⟨.nrm, E', s', rfl, hr', h'⟩
  | ex id' =>
    simp only [X.out, Exit.inBlock]
    by_cases he : id' = id
    · subst he
      simp only [beq_self_eq_true, cond_true] at h'
      rw [if_pos rfl]
      exact ⟨.nrm, E', s', rfl, hr', h'⟩
    · have : (id' == id) = false := by simpa using he
      simp only [this, cond_false] at h'
      rw [if_neg he]
      exact ⟨.ex id', E', s', rfl, hr', h'⟩
  | ret => exact ⟨.ret, E', s', rfl, hr', h'⟩

theorem evLoop_spec {c : Code} {ev : St → (X → St → Prop) → Prop} (hev : ∀ s k, ev s k → EW P C B w0 c s k) : ∀ (n : Nat) (s : St) (k : X → St → Prop), evLoop ev n s k → ∀ E a w, Rel C B w0 E s a w →
    Code.rounds P c (fun e a' w' => ∃ x E' s', e = X.out x ∧ Rel C B w0 E' s' a' w' ∧ k x s') n a w
  | 0, _, _, h, _, _, _, _ => h.elim
  | n + 1, s, k, h, E, a, w, hr => by
    rw [rounds_succ]
    refine wp_mono (hev _ _ h E a w hr) ?_
    rintro e a' w' ⟨x, E', s', rfl, hr', h'⟩
    cases x with
    | nrm => exact evLoop_spec hev n s' k h' E' a' w' hr'
    | ex id => exact ⟨.ex id, E', s', rfl, hr', h'⟩
    | ret => exact ⟨.ret, E', s', rfl, hr', h'⟩

theorem evC_spec (hm : P.follows .mixedOrders = true) (hC : CtxOK P C B w0) {L : Loops} {u : Nat} : ∀ (c : Code), LoopsOK P C B w0 L (loopsIn c) → ∀ (s : St) (k : X → St → Prop), evC P C L u c s k → EW P C B w0 c s k
  | .skip, _, s, k, h => fun E a w hr => wp_skip ⟨.nrm, E, s, rfl, hr, h⟩
  | .region id ops draw, _, s, k, h => evReg_spec hm hC h
  | .seq c d, hL, s, k, h => EW.seq <| (evC_spec hm hC c (fun x hx => hL x (by simp [loopsIn, hx])) s _ h).mono fun x s' hk => by
    cases x with
    | nrm => exact evC_spec hm hC d (fun x hx => hL x (by simp [loopsIn, hx])) s' k hk
    | ex id => exact hk
    | ret => exact hk
  | .cond o c d, hL, s, k, h => by
    have h := brS_spec h
    split at h
    · rename_i t ht
      intro E a w hr
      have ht' : a.eval o = .bool t := hr.eval ht
      cases t with
      | true => exact wp_cond_true ht' (evC_spec hm hC c (fun x hx => hL x (by simp [loopsIn, hx])) s k h E a w hr)
      | false => exact wp_cond_false ht' (evC_spec hm hC d (fun x hx => hL x (by simp [loopsIn, hx])) s k h E a w hr)
    · exact h.elim
  | .block id c, hL, s, k, h => EW.block (evC_spec hm hC c hL s _ h)
  | .loop c, hL, s, k, h => by
    unfold evC at h
    split at h
    · rename_i ls hls
      exact hL c (by simp [loopsIn]) ls hls s k h
    · intro E a w hr
      exact wp_loop_rounds u (evLoop_spec (fun s k h => evC_spec hm hC c (fun x hx => hL x (by simp [loopsIn, hx])) s k h) u s k h E a w hr)
  | .exit id, _, s, k, h => fun E a w hr => wp_exit ⟨.ex id, E, s, rfl, hr, h⟩
  | .ret, _, s, k, h => fun E a w hr => wp_ret ⟨.ret, E, s, rfl, hr, h⟩
  | .rangeFunc .., _, s, k, h => h.elim
  | .scope _, _, s, k, h => h.elim
  | .label _, _, s, k, h => h.elim
  | .goto _, _, s, k, h => h.elim
  | .refuse _, _, s, k, h => h.elim

/-! ### Results -/
def loadS (P : Program) (s : St) (t : TypeId) : AV → Option AV
  | .one false [.ptr k off] => match (s.heap[k]?).join.join with
    | some (.cells _ l) => partS P t l off
    | _ => none
  | _ => none
def resOne (P : Program) (s : St) : ResultVar → Option AV
  | .tmp t => s.slots[t]?
  | .cell a t => (s.slots[a]?).bind (loadS P s t)
def resList (P : Program) (s : St) : List ResultVar → Option (List AV)
  | [] => some []
  | r :: rs => match resOne P s r, resList P s rs with
    | some v, some l => some (v :: l)
    | _, _ => none
def ones : List AV → Option (List (Bool × List SV))
  | [] => some []
  | .one g l :: r => (ones r).map ((g, l) :: ·)
  | _ => none
def resS (P : Program) (rs : List ResultVar) (s : St) : Option AV :=
  match resList P s rs with
  | some [v] => some v
  | some l => (ones l).map .tup
  | none => none

def resM (tmps : Array Value) : ResultVar → Sem Value
  | .tmp t => pure (tmps.getD t undef)
  | .cell x t => do loadVar t (← asAddr (tmps.getD x undef))
theorem results_eq (fn : Func) (tmps : Array Value) : results fn tmps = (do let vs ← fn.results.mapM (resM tmps); pure (if h : vs.size = 1 then vs[0] else .tuple vs)) := rfl
theorem resOne_spec {E s a w} (h : Rel C B w0 E s a w) {r : ResultVar} {v : AV} (hv : resOne P s r = some v) :
    ∃ u, (resM a.tmps r).run P w = .ok u w ∧ AV.rel C E w v u := by
  cases r with
  | tmp t =>
    obtain ⟨u, hu, hr⟩ := h.slots.get hv
    have hu' : a.tmps[t]? = some u := by simpa using hu
    exact ⟨u, by simp [resM, hu'], hr⟩
  | cell x t =>
    simp only [resOne, Option.bind_eq_some_iff] at hv
    obtain ⟨y, hy, hv⟩ := hv
    unfold loadS at hv
    split at hv
    · rename_i k off
      split at hv
      · rename_i e l hl
        obtain ⟨u, hu, n, hn, rfl⟩ := h.slots.get hy
        have hu' : a.tmps[x]? = some (.pointer (some ⟨n, off, none⟩)) := by simpa using hu
        have hk : s.heap[k]? = some (some (some (.cells e l))) := by
          cases h1 : s.heap[k]? with
          | none => simp [h1] at hl
          | some z => cases z with
            | none => simp [h1] at hl
            | some z => cases z with
              | none => simp [h1] at hl
              | some z => simp [h1] at hl; subst hl; rfl
        obtain ⟨m, hm, _, vs, hvs, hvr, _⟩ := h.heap k _ hk
        rw [hn] at hm; cases hm
        obtain ⟨v', hv', hr⟩ := loadVar_spec (P := P) (C := C) (E := E) (w := w) (b := n) (o0 := 0) hv (fun j c hj => by
          obtain ⟨v, hv', hr⟩ := hvr.get hj
          exact ⟨v, by simpa [World.cell?, hvs] using hv', hr⟩)
        simp only [Nat.zero_add] at hv'
        exact ⟨v', by simp [resM, hu', asAddr, hv'], hr⟩
      · cases hv
    · cases hv

theorem resList_spec {E s a w} (h : Rel C B w0 E s a w) : ∀ {rs : List ResultVar} {l : List AV}, resList P s rs = some l →
    ∃ us, (rs.mapM (resM a.tmps)).run P w = .ok us w ∧ AllR (AV.rel C E w) l us
  | [], l, hl => by cases hl; exact ⟨[], rfl, AllR.nil⟩
  | r :: rs, l, hl => by
    simp only [resList] at hl
    split at hl
    · rename_i v l' hv hl'
      cases hl
      obtain ⟨u, hu, hur⟩ := resOne_spec h hv
      obtain ⟨us, hus, husr⟩ := resList_spec h hl'
      refine ⟨u :: us, ?_, AllR.cons hur husr⟩
      simp only [List.mapM_cons, Sem.run_bind, Sem.run_pure]
      rw [hu]
      simp only [Result.andThen_ok]
      rw [hus]
      rfl
    · cases hl

theorem ones_spec {E w} : ∀ {l : List AV} {m us}, ones l = some m → AllR (AV.rel C E w) l us → AllR (fun (p : Bool × List SV) v => OneR C E w p.1 p.2 v) m us
  | [], m, us, h, hr => by cases h; have := hr.unnil; subst this; exact AllR.nil
  | .one g l :: r, m, us, h, hr => by
    simp only [ones, Option.map_eq_some_iff] at h
    obtain ⟨m', hm, rfl⟩ := h
    obtain ⟨u, us', rfl, hu, hr'⟩ := hr.uncons
    exact AllR.cons hu (ones_spec hm hr')
  | .tup _ :: r, m, us, h, hr => by cases h

theorem resS_spec {E s a w} (h : Rel C B w0 E s a w) {fn : Func} {v : AV} (hv : resS P fn.results.toList s = some v) : ∃ u, (results fn a.tmps).run P w = .ok u w ∧ AV.rel C E w v u := by
  unfold resS at hv
  have key : ∀ l, resList P s fn.results.toList = some l → ∃ us : Array Value, (results fn a.tmps).run P w = .ok (if h : us.size = 1 then us[0] else .tuple us) w ∧ AllR (AV.rel C E w) l us.toList := by
    intro l hl
    obtain ⟨us, hus, hr⟩ := resList_spec h hl
    refine ⟨us.toArray, ?_, by simpa using hr⟩
    rw [results_eq]
    simp only [Sem.run_bind]
    rw [Array.mapM_eq_mapM_toList]
    simp only [Sem.run_map]
    rw [hus]
    rfl
  split at hv
  · rename_i v' hl
    cases hv
    obtain ⟨us, hus, hr⟩ := key _ hl
    obtain ⟨u, us', hu', hu, hr'⟩ := hr.uncons
    have := hr'.unnil; subst this
    have e : us = #[u] := by apply Array.ext'; simpa using hu'
    subst e
    exact ⟨u, by rw [hus]; rfl, hu⟩
  · rename_i l hne hl
    simp only [Option.map_eq_some_iff] at hv
    obtain ⟨m, hm, rfl⟩ := hv
    obtain ⟨us, hus, hr⟩ := key _ hl
    have hsz : ¬ us.size = 1 := by
      intro h1
      have := hr.1
      simp [h1] at this
      obtain ⟨x, hx⟩ := List.length_eq_one_iff.1 this
      exact hne x hx
    exact ⟨.tuple us, by rw [hus, dif_neg hsz], us, rfl, ones_spec hm hr⟩
  · cases hv

/-! ### A function -/
/-- results without addresses -/
def SV.toV : SV → Value
  | .bool b => .bool b
  | .int k n => .int k n
  | .val v => v
  | _ => undef
def oneV (g : Bool) (l : List SV) : Value :=
  match g, l with
  | true, l => .agg (l.map SV.toV).toArray
  | false, [s] => s.toV
  | false, _ => undef
def AV.plain : AV → Bool
  | .one g l => (g || l.length == 1) && l.all SV.plain
  | .tup l => l.all fun p => (p.1 || p.2.length == 1) && p.2.all SV.plain
def AV.toV : AV → Value
  | .one g l => oneV g l
  | .tup l => .tuple (l.map fun p => oneV p.1 p.2).toArray

theorem SV.toV_of {E w s v} (hp : SV.plain s = true) (h : SV.rel C E w s v) : v = s.toV := by
  cases s <;> simp only [SV.plain, Bool.false_eq_true] at hp <;> exact h
theorem SV.rel_toV {E w s} (hp : SV.plain s = true) : SV.rel C E w s s.toV := by
  cases s <;> simp only [SV.plain, Bool.false_eq_true] at hp <;> rfl
theorem oneV_of {E w g l v} (hp : ((g || l.length == 1) && l.all SV.plain) = true) (h : OneR C E w g l v) : v = oneV g l := by
  simp only [Bool.and_eq_true] at hp
  cases g with
  | true =>
    obtain ⟨vs, rfl, hr⟩ := h
    have : vs.toList = l.map SV.toV := by
      apply List.ext_getElem?
      intro i
      cases hl : l[i]? with
      | none =>
        have h1 : l.length ≤ i := by simpa using hl
        rw [List.getElem?_eq_none (by rw [← hr.1]; exact h1)]
        simp [hl]
      | some s =>
        obtain ⟨u, hu, hur⟩ := hr.get hl
        rw [hu, SV.toV_of (List.all_eq_true.1 hp.2 s (List.mem_of_getElem? hl)) hur]
        simp [hl]
    show Value.agg vs = .agg _
    rw [← this]
  | false =>
    match l, h with
    | [s], h => exact SV.toV_of (by simpa using hp.2) h
theorem oneV_rel {E w g l} (hp : ((g || l.length == 1) && l.all SV.plain) = true) : OneR C E w g l (oneV g l) := by
  simp only [Bool.and_eq_true] at hp
  cases g with
  | true =>
    refine ⟨_, rfl, ?_⟩
    simp only
    have : l = l.map id := by simp
    conv => lhs; rw [this]
    exact AllR.map fun s hs => SV.rel_toV (List.all_eq_true.1 hp.2 s hs)
  | false =>
    match l, hp with
    | [s], hp => exact SV.rel_toV (by simpa using hp.2)
    | [], hp => simp at hp
    | _ :: _ :: _, hp => simp at hp
theorem AV.toV_of {E w x v} (hp : AV.plain x = true) (h : AV.rel C E w x v) : v = x.toV := by
  cases x with
  | one g l => exact oneV_of hp h
  | tup l =>
    obtain ⟨vs, rfl, hr⟩ := h
    have : vs.toList = l.map fun p => oneV p.1 p.2 := by
      apply List.ext_getElem?
      intro i
      cases hl : l[i]? with
      | none =>
        have h1 : l.length ≤ i := by simpa using hl
        rw [List.getElem?_eq_none (by rw [← hr.1]; exact h1)]
        simp [hl]
      | some s =>
        obtain ⟨u, hu, hur⟩ := hr.get hl
        rw [hu, oneV_of (List.all_eq_true.1 hp s (List.mem_of_getElem? hl)) hur]
        simp [hl]
    show Value.tuple vs = .tuple _
    rw [← this]
theorem AV.rel_toV {E w x} (hp : AV.plain x = true) : AV.rel C E w x x.toV := by
  cases x with
  | one g l => exact oneV_rel hp
  | tup l =>
    refine ⟨_, rfl, ?_⟩
    simp only
    have : l = l.map id := by simp
    conv => lhs; rw [this]
    exact AllR.map fun p hp' => oneV_rel (List.all_eq_true.1 hp p hp')


/-! ### What goes in, and what comes out -/
def E0 (lo : Nat) : Env := ⟨fun _ => none, fun _ => none, fun _ => False, lo⟩
/-- an argument -/
def InR (w : World) (x : AV) (v : Value) : Prop := ∀ C lo, AV.rel C (E0 lo) w x v
/-- a result of a call that began with B blocks -/
def OutR (B : Nat) (w : World) (x : AV) (v : Value) : Prop := ∀ C E, (∀ n, E.A n → n < B) → E.lo ≤ B → AV.rel C E w x v

/-- a result, as outsiders see it -/
def outSV (P : Program) (rd : Nat → Option Blk) : SV → Option SV
  | .bool b => some (.bool b)
  | .int k n => some (.int k n)
  | .val v => some (.val v)
  | .vec true xs => some (.vec true xs)
  | .own k => match rd k with
    | some (.grow _ xs) => some (.vec true xs)
    | _ => none
  | .sub k wd lo n => match rd k with
    | some (.grow _ xs) => if xs.wd = wd then some (.vec true (xs.cut lo n)) else none
    | _ => none
  | .sl k off len cap => match rd k with
    | some (.cells e l) => if len ≤ cap ∧ off + len ≤ l.length then (cellsVL P e (cut l off len)).map (.vec true ·) else none
    | _ => none
  | _ => none
def outL (P : Program) (rd : Nat → Option Blk) : List SV → Option (List SV)
  | [] => some []
  | s :: r => match outSV P rd s, outL P rd r with
    | some x, some l => some (x :: l)
    | _, _ => none
def outLL (P : Program) (rd : Nat → Option Blk) : List (Bool × List SV) → Option (List (Bool × List SV))
  | [] => some []
  | (g, l) :: r => match outL P rd l, outLL P rd r with
    | some x, some m => some ((g, x) :: m)
    | _, _ => none
def outA (P : Program) (rd : Nat → Option Blk) : AV → Option AV
  | .one g l => (outL P rd l).map (.one g ·)
  | .tup l => (outLL P rd l).map .tup

section
variable {E : Env} {w : World} {rd : Nat → Option Blk}
theorem VecOut {xs : VL} {v : Value} (h : VecAt E w true xs v) {E' : Env} (hA : ∀ n, E'.A n → n < E.lo) (hlo : E'.lo ≤ E.lo) : VecAt E' w true xs v := by
  obtain ⟨a, cap, rfl, hc, hn, hr⟩ := h
  refine ⟨a, cap, rfl, hc, hn, hr.imp id ?_⟩
  rintro ⟨b, off, rfl, _, hlt, hf, hrd⟩
  exact ⟨b, off, rfl, fun h => by have := hA b h; have := hf rfl; omega, hlt, fun _ => by have := hf rfl; omega, hrd⟩
theorem outSV_spec (hrd : ∀ k b, rd k = some b → BlkR C E w k b) (hlo : ∀ n, E.A n → E.lo ≤ n ∧ n < w.heap.size) {s r : SV} {v : Value} (ho : outSV P rd s = some r) (hs : SV.rel C E w s v) {C' : Ctx} {E' : Env} (hA : ∀ n, E'.A n → n < E.lo) (hl : E'.lo ≤ E.lo) : SV.rel C' E' w r v := by
  cases s <;> simp only [outSV, Option.some.injEq, reduceCtorEq] at ho
  case bool => subst ho; exact hs
  case int => subst ho; exact hs
  case val => subst ho; exact hs
  case vec fr xs =>
    cases fr with
    | false => cases ho
    | true => cases ho; exact VecOut hs hA hl
  case own k =>
    split at ho
    · rename_i _ e xs hk
      cases ho
      obtain ⟨u, hu, _, hg, how⟩ := hrd _ _ hk
      have := hs.1
      rw [hu] at this; cases this
      rcases own_form how with ⟨rfl, h0⟩ | ⟨n, cap, rfl, hc, hn, hlo'⟩
      · exact ⟨none, 0, by rw [h0], by omega, fun _ => rfl, .inl h0⟩
      · exact ⟨_, cap, rfl, hc, fun e => (by cases e), .inr ⟨n, 0, rfl, fun h => by have := hA n h; omega, hn, fun _ => by omega, fun i hi => by rw [Nat.zero_add]; exact own_rd how hi⟩⟩
    · cases ho
  case sub k wd lo n =>
    split at ho
    · rename_i _ e xs hk
      split at ho
      · rename_i hwd
        cases ho
        have hlist := asVL_spec (rd := rd) hrd (s := .sub k wd lo n) (xs := xs.cut lo n) (by simp [asVL, hk, hwd]) hs
        obtain ⟨u, hu, _, hg, how⟩ := hrd _ _ hk
        obtain ⟨a, cap, rfl, hc, hn, hr⟩ := hlist
        refine ⟨a, cap, rfl, hc, hn, ?_⟩
        by_cases hz : (xs.cut lo n).len = 0
        · exact .inl hz
        · right
          rcases hr with hr | ⟨b, off, rfl, hlt, hrd'⟩
          · exact absurd hr hz
          · have hbl : E.lo ≤ b := by
              obtain ⟨a', cap', b', l, c, g1, g2, g3, g4, g5, g6⟩ := hs
              simp only [Value.slice.injEq] at g3
              obtain ⟨g31, g32, g33⟩ := g3
              subst g31
              rw [hu] at g1; cases g1
              rcases g6 with g6 | ⟨m, rfl, g7⟩
              · exfalso; exact hz (by rw [g32]; exact g6)
              · cases g7
                exact (how.lt b rfl).1
            exact ⟨b, off, rfl, fun h => by have := hA b h; omega, hlt, fun _ => by omega, hrd'⟩
      · cases ho
    · cases ho
  case sl k off len cap =>
    split at ho
    · rename_i _ e l hk
      split at ho
      · rename_i hle
        simp only [Option.map_eq_some_iff] at ho
        obtain ⟨xs, hxs, rfl⟩ := ho
        obtain ⟨hv, hlen, hwd, hpl⟩ := cellsVL_spec hxs
        obtain ⟨n, hn, hnA, vs, hvs, hvr, _⟩ := hrd _ _ hk
        obtain ⟨m, hm, rfl⟩ := hs
        rw [hn] at hm; cases hm
        have hcl : (cut l off len).length = len := by simp [cut]; omega
        have hcut := exacts_of_plain hpl ((hvr.drop off).take len)
        refine ⟨_, cap, by rw [hlen, hcl], by rw [hlen, hcl]; omega, fun e => (by cases e), .inr ⟨n, off, rfl, fun h => by have := hA n h; have := (hlo n hnA).1; omega, (hlo n hnA).2, fun _ => by have := (hlo n hnA).1; omega, fun i hi j c hj => ?_⟩⟩
        have hjl := list_get_lt hj
        rw [VL.at_length, hwd] at hjl
        have hj0 : j = 0 := by omega
        subst hj0
        have hvg := VL.vals_get (xs := xs) (i := i) (j := 0) hi (by omega)
        rw [hj, hv, ← hcut, List.getElem?_take, List.getElem?_drop] at hvg
        rw [hlen, hcl] at hi
        rw [hwd] at hvg
        simp only [Nat.mul_one, Nat.add_zero, if_pos hi, Option.map_some] at hvg
        rw [hwd]
        simp only [Nat.mul_one, Nat.add_zero]
        simpa [World.cell?, hvs] using hvg
      · cases ho
    · cases ho
theorem outL_spec (hrd : ∀ k b, rd k = some b → BlkR C E w k b) (hlo : ∀ n, E.A n → E.lo ≤ n ∧ n < w.heap.size) {C' : Ctx} {E' : Env} (hA : ∀ n, E'.A n → n < E.lo) (hl : E'.lo ≤ E.lo) :
    ∀ {l m : List SV} {vs : List Value}, outL P rd l = some m → AllR (SV.rel C E w) l vs → AllR (SV.rel C' E' w) m vs
  | [], m, vs, ho, h => by cases ho; have := h.unnil; subst this; exact AllR.nil
  | s :: r, m, vs, ho, h => by
    simp only [outL] at ho
    split at ho
    · rename_i x l hx hl'
      cases ho
      obtain ⟨v, vs', rfl, hv, h'⟩ := h.uncons
      exact AllR.cons (outSV_spec hrd hlo hx hv hA hl) (outL_spec hrd hlo hA hl hl' h')
    · cases ho
theorem outOne_spec (hrd : ∀ k b, rd k = some b → BlkR C E w k b) (hlo : ∀ n, E.A n → E.lo ≤ n ∧ n < w.heap.size) {C' : Ctx} {E' : Env} (hA : ∀ n, E'.A n → n < E.lo) (hl : E'.lo ≤ E.lo) {g : Bool} {l m : List SV} {v : Value}
    (ho : outL P rd l = some m) (h : OneR C E w g l v) : OneR C' E' w g m v := by
  cases g with
  | true =>
    obtain ⟨vs, rfl, h⟩ := h
    exact ⟨vs, rfl, outL_spec hrd hlo hA hl ho h⟩
  | false =>
    match l, h with
    | [s], h =>
      simp only [outL] at ho
      split at ho
      · rename_i x r hx hr
        cases hr; cases ho
        exact outSV_spec hrd hlo hx h hA hl
      · cases ho
theorem outLL_spec (hrd : ∀ k b, rd k = some b → BlkR C E w k b) (hlo : ∀ n, E.A n → E.lo ≤ n ∧ n < w.heap.size) {C' : Ctx} {E' : Env} (hA : ∀ n, E'.A n → n < E.lo) (hl : E'.lo ≤ E.lo) :
    ∀ {l m : List (Bool × List SV)} {vs : List Value}, outLL P rd l = some m → AllR (fun (p : Bool × List SV) v => OneR C E w p.1 p.2 v) l vs → AllR (fun (p : Bool × List SV) v => OneR C' E' w p.1 p.2 v) m vs
  | [], m, vs, ho, h => by cases ho; have := h.unnil; subst this; exact AllR.nil
  | (g, s) :: r, m, vs, ho, h => by
    simp only [outLL] at ho
    split at ho
    · rename_i x l hx hl'
      cases ho
      obtain ⟨v, vs', rfl, hv, h'⟩ := h.uncons
      exact AllR.cons (outOne_spec hrd hlo hA hl hx hv) (outLL_spec hrd hlo hA hl hl' h')
    · cases ho
theorem outA_spec (hrd : ∀ k b, rd k = some b → BlkR C E w k b) (hlo : ∀ n, E.A n → E.lo ≤ n ∧ n < w.heap.size) {x r : AV} {v : Value} (ho : outA P rd x = some r) (h : AV.rel C E w x v) : OutR E.lo w r v := by
  intro C' E' hA hl
  cases x with
  | one g l =>
    simp only [outA, Option.map_eq_some_iff] at ho
    obtain ⟨m, hm, rfl⟩ := ho
    exact outOne_spec hrd hlo hA hl hm h
  | tup l =>
    simp only [outA, Option.map_eq_some_iff] at ho
    obtain ⟨m, hm, rfl⟩ := ho
    obtain ⟨vs, rfl, h⟩ := h
    exact ⟨vs, rfl, outLL_spec hrd hlo hA hl hm h⟩
end

def start (args : List AV) (n : Nat) : St := ⟨args ++ List.replicate (n - args.length) undefA, []⟩
def resOut (P : Program) (rs : List ResultVar) (s : St) : Option AV := (resS P rs s).bind (outA P (s.rd fun _ => true))
/-- what is shown of a function's end -/
def fin (P : Program) (rs : List ResultVar) (Q : AV → Prop) (x : X) (s : St) : Prop :=
  match x with
  | .nrm => match resOut P rs s with
    | some r => Q r
    | none => False
  | .ret => match resOut P rs s with
    | some r => Q r
    | none => False
  | .ex _ => False
def evF (P : Program) (C : Ctx) (L : Loops) (u : Nat) (fn : Func) (args : List AV) (Q : AV → Prop) : Prop :=
  match fn.body with
  | some c => forceAs (start args fn.ntmps).slots fun sl => evC P C L u c ⟨sl, []⟩ (fin P fn.results.toList Q)
  | none => False

theorem fin_spec {rs : List ResultVar} {Q : AV → Prop} {x : X} {s : St} (h : fin P rs Q x s) : (x = .nrm ∨ x = .ret) ∧ ∃ r, resOut P rs s = some r ∧ Q r := by
  cases x with
  | nrm => simp only [fin] at h; split at h
           · rename_i r hr; exact ⟨.inl rfl, r, hr, h⟩
           · exact h.elim
  | ret => simp only [fin] at h; split at h
           · rename_i r hr; exact ⟨.inr rfl, r, hr, h⟩
           · exact h.elim
  | ex id => exact h.elim

theorem calls_of_evF (hm : P.follows .mixedOrders = true) {f : FuncId} {fn : Func} {w : World} (hC : CtxOK P C w.heap.size w) {L : Loops} {u : Nat} (hf : P.funcs[f]? = some fn)
    (hL : ∀ c, fn.body = some c → LoopsOK P C w.heap.size w L (loopsIn c)) {args : List AV} {vs : Array Value} (hargs : AllR (AV.rel C (E0 w.heap.size) w) args vs.toList) {Q : AV → Prop} (h : evF P C L u fn args Q) :
    Calls P f vs w fun e w' => ∃ r v, Q r ∧ e = .returned v ∧ OutR w.heap.size w' r v ∧ Below w.heap.size w w' := by
  unfold evF at h
  split at h
  · rename_i c hb
    rw [forceAs_eq] at h
    have h : evC P C L u c (start args fn.ntmps) (fin P fn.results.toList Q) := h
    refine calls_of_wp hf hb ?_
    have hrel : Rel C w.heap.size w (E0 w.heap.size) (start args fn.ntmps) { tmps := vs ++ Array.replicate (fn.ntmps - vs.size) undef, defers := [] } w := by
      refine { slots := ?_, defers := rfl, heap := ?_, free := fun _ _ => ⟨rfl, rfl⟩, lo := fun n h => h.elim, inj := ?_, below := Below.refl _ _, base := Nat.le_refl _, elo := rfl }
      · have e : vs.size = args.length := by have := hargs.1; simp at this; omega
        simp only [start, Array.toList_append, Array.toList_replicate, e]
        refine hargs.app ⟨by simp, fun i x v hx hv => ?_⟩
        rw [List.getElem?_replicate] at hx hv
        split at hx
        · rename_i hi
          rw [if_pos hi] at hv
          cases hx; cases hv
          exact undef_rel C _ w
        · cases hx
      · intro k b hk; simp [start] at hk
      · intro k k' b b' n hk; simp [start] at hk
    refine wp_mono (evC_spec hm hC c (hL c hb) _ _ h _ _ _ hrel) ?_
    rintro e a' w' ⟨x, E', s', rfl, hr, hk⟩
    obtain ⟨hx, r, hres, hQ⟩ := fin_spec hk
    unfold resOut at hres
    simp only [Option.bind_eq_some_iff] at hres
    obtain ⟨r0, hr0, hout⟩ := hres
    obtain ⟨u, hu, hur⟩ := resS_spec (P := P) hr hr0
    have hO : OutR w.heap.size w' r u := by
      have := outA_spec (P := P) (rd_rel hr _) (fun n hn => by rw [hr.elo]; exact hr.lo n hn) hout hur
      rwa [hr.elo] at this
    rcases hx with rfl | rfl
    · exact ⟨hr.defers, u, hu, r, u, hQ, rfl, hO, hr.below⟩
    · exact ⟨hr.defers, u, hu, r, u, hQ, rfl, hO, hr.below⟩
  · exact h.elim
end Go.Ev
