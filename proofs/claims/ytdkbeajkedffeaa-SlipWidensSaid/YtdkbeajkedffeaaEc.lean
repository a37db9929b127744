/- The evaluator of code is sound; contracts from its answer; codecs of arguments and results. Holds for every program of the model. -/
import Derived.Test.YtdkbeajkedffeaaEb
import Derived.Deep.LoopGhost
import Derived.LoopN
import Derived.Laws.Externs
namespace Go.Ev
open Go.RowKit
variable {P : Program} {C : Ctx} {B : Nat} {w0 : World}
def forceS : SV → (SV → Prop) → Prop
  | .bool b, k => k (.bool b)
  | .int i n, k => k (.int i n)
  | .ptr a b, k => k (.ptr a b)
  | .val v, k => k (.val v)
  | .vec fr xs, k => k (.vec fr xs)
  | .epv fr xs i o, k => k (.epv fr xs i o)
  | .str l, k => k (.str l)
  | .emp, k => k .emp
  | .pvc xs, k => k (.pvc xs)
  | .sl a b c d, k => k (.sl a b c d)
  | .fnv i, k => k (.fnv i)
  | .clo f l, k => k (.clo f l)
  | .clv f l, k => k (.clv f l)
  | .own a, k => k (.own a)
  | .sub a b c d, k => k (.sub a b c d)
  | .epo a b c d, k => k (.epo a b c d)
  | .top, k => k .top
  | .und, k => k .und
theorem forceS_eq (s : SV) (k : SV → Prop) : forceS s k = k s := by cases s <;> rfl
def forceSs : List SV → (List SV → Prop) → Prop
  | [], k => k []
  | s :: l, k => forceS s fun s => forceSs l fun l => k (s :: l)
theorem forceSs_eq : ∀ (l : List SV) (k : List SV → Prop), forceSs l k = k l
  | [], k => rfl
  | s :: l, k => by simp only [forceSs, forceS_eq]; exact forceSs_eq l _
def forceA : AV → (AV → Prop) → Prop
  | .one true l, k => forceSs l fun l => k (.one true l)
  | .one false l, k => forceSs l fun l => k (.one false l)
  | .tup l, k => k (.tup l)
theorem forceA_eq (x : AV) (k : AV → Prop) : forceA x k = k x := by
  match x with
  | .one true l => exact forceSs_eq l _
  | .one false l => exact forceSs_eq l _
  | .tup l => rfl
def forceAs : List AV → (List AV → Prop) → Prop
  | [], k => k []
  | s :: l, k => forceA s fun s => forceAs l fun l => k (s :: l)
theorem forceAs_eq : ∀ (l : List AV) (k : List AV → Prop), forceAs l k = k l
  | [], k => rfl
  | s :: l, k => by simp only [forceAs, forceA_eq]; exact forceAs_eq l _
def forceB : Option (Option Blk) → (Option (Option Blk) → Prop) → Prop
  | none, k => k none
  | some none, k => k (some none)
  | some (some (.cells e l)), k => forceSs l fun l => k (some (some (.cells e l)))
  | some (some (.grow e xs)), k => k (some (some (.grow e xs)))
theorem forceB_eq (x : Option (Option Blk)) (k : Option (Option Blk) → Prop) : forceB x k = k x := by
  match x with
  | none => rfl
  | some none => rfl
  | some (some (.cells e l)) => exact forceSs_eq l _
  | some (some (.grow e xs)) => rfl
def forceH : List (Option (Option Blk)) → (List (Option (Option Blk)) → Prop) → Prop
  | [], k => k []
  | s :: l, k => forceB s fun s => forceH l fun l => k (s :: l)
theorem forceH_eq : ∀ (l : List (Option (Option Blk))) (k : List (Option (Option Blk)) → Prop), forceH l k = k l
  | [], k => rfl
  | s :: l, k => by simp only [forceH, forceB_eq]; exact forceH_eq l _
def setK : List AV → Nat → AV → (List AV → Prop) → Prop
  | [], _, _, k => k []
  | _ :: l, 0, v, k => k (v :: l)
  | a :: l, n + 1, v, k => setK l n v fun l => k (a :: l)
theorem setK_eq : ∀ (l : List AV) (n : Nat) (v : AV) (k : List AV → Prop), setK l n v k = k (l.set n v)
  | [], _n, _v, _k => rfl
  | _a :: _l, 0, _v, _k => rfl
  | _a :: l, n + 1, v, _k => setK_eq l n v _
def putK (s : St) (d : Option Nat) (v : AV) (k : St → Prop) : Prop :=
  match s, d with
  | ⟨sl, h⟩, some d => forceA v fun v => setK sl d v fun sl => k ⟨sl, h⟩
  | s, none => k s
theorem putK_eq (s : St) (d : Option Nat) (v : AV) (k : St → Prop) : putK s d v k = k (s.put d v) := by
  obtain ⟨sl, h⟩ := s
  cases d with
  | none => rfl
  | some d => simp only [putK, forceA_eq, setK_eq]; rfl
def chgK (l : List (Nat × Option Blk)) (s : St) (k : St → Prop) : Prop :=
  match s with
  | ⟨sl, h⟩ => forceH (chg l h) fun h => k ⟨sl, h⟩
theorem chgK_eq (l : List (Nat × Option Blk)) (s : St) (k : St → Prop) : chgK l s k = k { s with heap := chg l s.heap } := by
  obtain ⟨sl, h⟩ := s
  simp only [chgK, forceH_eq]
def brS (d : Option Nat) (s : St) (k : St → Prop) : Prop :=
  match d with
  | none => k s
  | some d => match s.slots[d]? with
    | some (.one false [.bool b]) => cond b (putK s (some d) (.one false [.bool true]) k) (putK s (some d) (.one false [.bool false]) k)
    | _ => k s
theorem set_self {l : List AV} {d : Nat} {x : AV} (h : l[d]? = some x) : l.set d x = l := by
  apply List.ext_getElem?
  intro i
  rw [List.getElem?_set]
  by_cases e : d = i
  · subst e
    rw [if_pos rfl]
    split
    · exact h.symm
    · rename_i h'; rw [List.getElem?_eq_none (by omega)] at h; cases h
  · rw [if_neg e]
theorem brS_spec {d : Option Nat} {s : St} {k : St → Prop} (h : brS d s k) : k s := by
  unfold brS at h
  split at h
  · exact h
  · rename_i d
    split at h
    · rename_i b hb
      cases b
      · simp only [cond_false, putK_eq, St.put] at h
        rw [set_self hb] at h
        exact h
      · simp only [cond_true, putK_eq, St.put] at h
        rw [set_self hb] at h
        exact h
    · exact h
def dOpK (P : Program) (C : Ctx) (o : Oper) (al : Nat → Bool) (key : Nat) (s : St) (k : St → Prop) : Prop :=
  match kd P C o.op with
  | .p => match effP P o s.ρ with
    | some v => putK s o.dst v k
    | none => False
  | .r => match effR P C o s.ρ (s.rd al) with
    | some v => putK s o.dst v k
    | none => False
  | .a => match effA P o s.ρ key, s.heap[key]? with
    | some (v, l), some none => putK s o.dst v fun s => chgK l s k
    | _, _ => False
  | .w => match effW P C o s.ρ (s.rd al) key, s.heap[key]? with
    | some (v, l), some none => putK s o.dst v fun s => chgK l s k
    | _, _ => False
def guardSlot (ops : Array Oper) (o : Oper) : Option Nat :=
  match o.guard with
  | none => none
  | some (j, _) => (ops[j]?).bind (·.dst)
def pickSlot (o : Oper) : Option Nat :=
  match o.op with
  | .pick (.tmp t) _ _ => some t
  | _ => none
def evOp (P : Program) (C : Ctx) (ops : Array Oper) (al : Nat → Bool) (nk i : Nat) (s : St) (k : St → Prop) : Prop :=
  match ops[i]? with
  | none => False
  | some o => brS (guardSlot ops o) s fun s => match s.guard ops o with
    | none => False
    | some false => putK s o.dst undefA k
    | some true => brS (pickSlot o) s fun s => cond (asr P C o s.ρ (s.rdk P C o al)) (dOpK P C o al (nk + i) s k) False
def evOps (P : Program) (C : Ctx) (ops : Array Oper) (al : Nat → Nat → Bool) (nk : Nat) : List Nat → St → (St → Prop) → Prop
  | [], s, k => k s
  | i :: is, s, k => evOp P C ops (al i) nk i s fun s => evOps P C ops al nk is s k
theorem evOp_spec {ops : Array Oper} {al : Nat → Bool} {nk i : Nat} {s : St} {k : St → Prop} (h : evOp P C ops al nk i s k) : ∃ s', dOp P C ops al nk i s = some s' ∧ k s' := by
  unfold evOp at h
  unfold dOp
  split at h
  · exact h.elim
  · rename_i o ho
    rw [ho]
    simp only
    have h := brS_spec h
    split at h
    · exact h.elim
    · rename_i hg; rw [putK_eq] at h; rw [hg]; exact ⟨_, rfl, h⟩
    · rename_i hg
      rw [hg]
      have h := brS_spec h
      cases ha : asr P C o s.ρ (s.rdk P C o al) with
      | false => rw [ha] at h; exact h.elim
      | true =>
        rw [ha] at h
        simp only [cond_true] at h ⊢
        unfold dOpK at h
        cases hk : kd P C o.op with
        | p =>
          rw [hk] at h; simp only at h ⊢
          split at h
          · rename_i v hv; rw [putK_eq] at h; rw [hv]; exact ⟨_, rfl, h⟩
          · exact h.elim
        | r =>
          rw [hk] at h; simp only at h ⊢
          split at h
          · rename_i v hv; rw [putK_eq] at h; rw [hv]; exact ⟨_, rfl, h⟩
          · exact h.elim
        | a =>
          rw [hk] at h; simp only at h ⊢
          split at h
          · rename_i v l hv hf; rw [putK_eq, chgK_eq] at h; rw [hv, hf]; refine ⟨_, rfl, ?_⟩; cases hd : o.dst <;> rw [hd] at h <;> exact h
          · exact h.elim
        | w =>
          rw [hk] at h; simp only at h ⊢
          split at h
          · rename_i v l hv hf; rw [putK_eq, chgK_eq] at h; rw [hv, hf]; refine ⟨_, rfl, ?_⟩; cases hd : o.dst <;> rw [hd] at h <;> exact h
          · exact h.elim
theorem evOps_spec {ops : Array Oper} {al : Nat → Nat → Bool} {nk : Nat} : ∀ {is : List Nat} {s : St} {k : St → Prop}, evOps P C ops al nk is s k → ∃ s', dRun P C ops al nk is s = some s' ∧ k s'
  | [], s, k, h => ⟨s, rfl, h⟩
  | i :: is, s, k, h => by
    obtain ⟨s1, h1, h2⟩ := evOp_spec h
    obtain ⟨s2, h3, h4⟩ := evOps_spec h2
    exact ⟨s2, by simp only [dRun, h1]; exact h3, h4⟩
def St.ext (s : St) (n : Nat) : St := { s with heap := s.heap ++ List.replicate n none }
theorem ext_get {s : St} {n k : Nat} {b} (hk : (s.ext n).heap[k]? = some (some b)) : s.heap[k]? = some (some b) := by
  unfold St.ext at hk
  simp only [List.getElem?_append] at hk
  split at hk
  · exact hk
  · rw [List.getElem?_replicate] at hk; split at hk <;> cases hk
theorem Rel.ext {E s a w} (h : Rel C B w0 E s a w) (n : Nat) : Rel C B w0 E (s.ext n) a w where
  slots := h.slots
  defers := h.defers
  heap k b hk := h.heap k b (ext_get hk)
  free k hk := by
    unfold St.ext at hk
    simp only [List.getElem?_append] at hk
    refine h.free k ?_
    split at hk
    · exact hk
    · exact .inr (List.getElem?_eq_none (by omega))
  lo := h.lo
  inj k k' b b' n h1 h2 := h.inj k k' b b' n (ext_get h1) (ext_get h2)
  below := h.below
  base := h.base
  ok := h.ok
def extK (s : St) (n : Nat) (k : St → Prop) : Prop :=
  match s with
  | ⟨sl, h⟩ => forceH (h ++ List.replicate n none) fun h => k ⟨sl, h⟩
theorem extK_eq (s : St) (n : Nat) (k : St → Prop) : extK s n k = k (s.ext n) := by
  obtain ⟨sl, h⟩ := s
  simp only [extK, forceH_eq]; rfl
def evReg (P : Program) (C : Ctx) (ops : Array Oper) (draw : Bool) (s : St) (k : St → Prop) : Prop :=
  bif draw then
    cond (regOK P C ops (closure ops) (locs ops s s.heap.length) s.heap.length) (extK s ops.size fun s' => evOps P C ops (alo (locs ops s s.heap.length) (fun i => (closure ops).getD i 0) s.heap.length) s.heap.length (List.range ops.size) s' k) False
  else extK s ops.size fun s' => evOps P C ops (fun _ _ => true) s.heap.length (List.range ops.size) s' k
inductive X where
  | nrm
  | ex (id : Nat)
  | ret
def X.out : X → Exit
  | .nrm => .normal
  | .ex id => .exit id
  | .ret => .ret
def EW (P : Program) (C : Ctx) (B : Nat) (w0 : World) (c : Code) (s : St) (k : X → St → Prop) : Prop :=
  ∀ E a w, Rel C B w0 E s a w → c.wp P (fun e a' w' => ∃ x E' s', e = X.out x ∧ Rel C B w0 E' s' a' w' ∧ k x s') a w
theorem evReg_spec (hm : P.follows .mixedOrders = true) (hC : CtxOK P C) {ops : Array Oper} {draw : Bool} {id : Nat} {s : St} {k : X → St → Prop} (h : evReg P C ops draw s (k .nrm)) : EW P C B w0 (.region id ops draw) s k := by
  intro E a w hr
  cases draw with
  | false =>
    simp only [evReg, cond_false, extK_eq] at h
    obtain ⟨s', h1, h2⟩ := evOps_spec h
    exact wp_region (dRun_sound hC (hr.ext _) h1 fun E' a' w' hr' => ⟨.nrm, E', s', rfl, hr', h2⟩)
  | true =>
    simp only [evReg, cond_true] at h
    cases hok : regOK P C ops (closure ops) (locs ops s s.heap.length) s.heap.length with
    | false => rw [hok] at h; exact h.elim
    | true =>
      rw [hok] at h
      simp only [cond_true, extK_eq] at h
      obtain ⟨s', h1, h2⟩ := evOps_spec h
      exact region_draw hm hC hok (hr.ext _) h1 fun E' a' w' hr' => ⟨.nrm, E', s', rfl, hr', h2⟩
def rid : Code → Option Nat
  | .region id _ _ => some id
  | .seq a b => match rid a with
    | some n => some n
    | none => rid b
  | .cond _ a b => match rid a with
    | some n => some n
    | none => rid b
  | .block _ c => rid c
  | .loop c => rid c
  | .scope c => rid c
  | _ => none
abbrev Loops := Nat → Option (St → (X → St → Prop) → Prop)
def evLoop (ev : St → (X → St → Prop) → Prop) : Nat → St → (X → St → Prop) → Prop
  | 0, _, _ => False
  | n + 1, s, k => ev s fun x s => match x with
    | .nrm => evLoop ev n s k
    | .ex id => k (.ex id) s
    | .ret => k .ret s
def condSlot : Operand → Option Nat
  | .tmp t => some t
  | _ => none
def evC (P : Program) (C : Ctx) (L : Loops) (u : Nat) : Code → St → (X → St → Prop) → Prop
  | .skip, s, k => k .nrm s
  | .region _ ops draw, s, k => evReg P C ops draw s (k .nrm)
  | .seq a b, s, k => evC P C L u a s fun x s => match x with
    | .nrm => evC P C L u b s k
    | .ex id => k (.ex id) s
    | .ret => k .ret s
  | .cond c a b, s, k => brS (condSlot c) s fun s => match s.ρ c with
    | some (.one false [.bool t]) => cond t (evC P C L u a s k) (evC P C L u b s k)
    | _ => False
  | .block id c, s, k => evC P C L u c s fun x s => match x with
    | .nrm => k .nrm s
    | .ex id' => cond (id' == id) (k .nrm s) (k (.ex id') s)
    | .ret => k .ret s
  | .loop c, s, k => match (rid c).bind L with
    | some ls => ls s k
    | none => evLoop (fun s k => evC P C L u c s k) u s k
  | .exit id, s, k => k (.ex id) s
  | .ret, s, k => k .ret s
  | _, _, _ => False
def loopsIn : Code → List Code
  | .seq a b => loopsIn a ++ loopsIn b
  | .cond _ a b => loopsIn a ++ loopsIn b
  | .block _ c => loopsIn c
  | .loop c => c :: loopsIn c
  | _ => []
def LoopsOK (P : Program) (C : Ctx) (B : Nat) (w0 : World) (L : Loops) (cs : List Code) : Prop :=
  ∀ c ∈ cs, ∀ ls, (rid c).bind L = some ls → ∀ s k, ls s k → EW P C B w0 (.loop c) s k
theorem EW.mono {c : Code} {s : St} {k k' : X → St → Prop} (h : EW P C B w0 c s k) (hk : ∀ x s, k x s → k' x s) : EW P C B w0 c s k' :=
  fun E a w hr => wp_mono (h E a w hr) fun _ _ _ ⟨x, E', s', he, hr', h'⟩ => ⟨x, E', s', he, hr', hk x s' h'⟩
theorem EW.seq {c d : Code} {s : St} {k : X → St → Prop} (h : EW P C B w0 c s fun x s => match x with
    | .nrm => EW P C B w0 d s k
    | .ex id => k (.ex id) s
    | .ret => k .ret s) : EW P C B w0 (.seq c d) s k := by
  intro E a w hr
  refine wp_seq (wp_mono (h E a w hr) ?_)
  rintro e a' w' ⟨x, E', s', rfl, hr', h'⟩
  cases x with
  | nrm => exact h' E' a' w' hr'
  | ex id => exact ⟨.ex id, E', s', rfl, hr', h'⟩
  | ret => exact ⟨.ret, E', s', rfl, hr', h'⟩
theorem EW.block {id : Nat} {c : Code} {s : St} {k : X → St → Prop} (h : EW P C B w0 c s fun x s => match x with
    | .nrm => k .nrm s
    | .ex id' => cond (id' == id) (k .nrm s) (k (.ex id') s)
    | .ret => k .ret s) : EW P C B w0 (.block id c) s k := by
  intro E a w hr
  refine wp_block (wp_mono (h E a w hr) ?_)
  rintro e a' w' ⟨x, E', s', rfl, hr', h'⟩
  cases x with
  | nrm => exact ⟨.nrm, E', s', rfl, hr', h'⟩
  | ex id' =>
    simp only [X.out, Exit.inBlock]
    by_cases he : id' = id
    · subst he
      simp only [beq_self_eq_true, cond_true] at h'
      rw [if_pos rfl]
      exact ⟨.nrm, E', s', rfl, hr', h'⟩
    · have : (id' == id) = false := by simpa using he
      simp only [this, cond_false] at h'
      rw [if_neg he]
      exact ⟨.ex id', E', s', rfl, hr', h'⟩
  | ret => exact ⟨.ret, E', s', rfl, hr', h'⟩
theorem evLoop_spec {c : Code} {ev : St → (X → St → Prop) → Prop} (hev : ∀ s k, ev s k → EW P C B w0 c s k) : ∀ (n : Nat) (s : St) (k : X → St → Prop), evLoop ev n s k → ∀ E a w, Rel C B w0 E s a w →
    Code.rounds P c (fun e a' w' => ∃ x E' s', e = X.out x ∧ Rel C B w0 E' s' a' w' ∧ k x s') n a w
  | 0, _, _, h, _, _, _, _ => h.elim
  | n + 1, s, k, h, E, a, w, hr => by
    rw [rounds_succ]
    refine wp_mono (hev _ _ h E a w hr) ?_
    rintro e a' w' ⟨x, E', s', rfl, hr', h'⟩
    cases x with
    | nrm => exact evLoop_spec hev n s' k h' E' a' w' hr'
    | ex id => exact ⟨.ex id, E', s', rfl, hr', h'⟩
    | ret => exact ⟨.ret, E', s', rfl, hr', h'⟩
theorem evC_spec (hm : P.follows .mixedOrders = true) (hC : CtxOK P C) {L : Loops} {u : Nat} : ∀ (c : Code), LoopsOK P C B w0 L (loopsIn c) → ∀ (s : St) (k : X → St → Prop), evC P C L u c s k → EW P C B w0 c s k
  | .skip, _, s, k, h => fun E a w hr => wp_skip ⟨.nrm, E, s, rfl, hr, h⟩
  | .region id ops draw, _, s, k, h => evReg_spec hm hC h
  | .seq c d, hL, s, k, h => EW.seq <| (evC_spec hm hC c (fun x hx => hL x (by simp [loopsIn, hx])) s _ h).mono fun x s' hk => by
    cases x with
    | nrm => exact evC_spec hm hC d (fun x hx => hL x (by simp [loopsIn, hx])) s' k hk
    | ex id => exact hk
    | ret => exact hk
  | .cond o c d, hL, s, k, h => by
    have h := brS_spec h
    split at h
    · rename_i t ht
      intro E a w hr
      have ht' : a.eval o = .bool t := hr.eval ht
      cases t with
      | true => exact wp_cond_true ht' (evC_spec hm hC c (fun x hx => hL x (by simp [loopsIn, hx])) s k h E a w hr)
      | false => exact wp_cond_false ht' (evC_spec hm hC d (fun x hx => hL x (by simp [loopsIn, hx])) s k h E a w hr)
    · exact h.elim
  | .block id c, hL, s, k, h => EW.block (evC_spec hm hC c hL s _ h)
  | .loop c, hL, s, k, h => by
    unfold evC at h
    split at h
    · rename_i ls hls
      exact hL c (by simp [loopsIn]) ls hls s k h
    · intro E a w hr
      exact wp_loop_rounds u (evLoop_spec (fun s k h => evC_spec hm hC c (fun x hx => hL x (by simp [loopsIn, hx])) s k h) u s k h E a w hr)
  | .exit id, _, s, k, h => fun E a w hr => wp_exit ⟨.ex id, E, s, rfl, hr, h⟩
  | .ret, _, s, k, h => fun E a w hr => wp_ret ⟨.ret, E, s, rfl, hr, h⟩
  | .rangeFunc .., _, s, k, h => h.elim
  | .scope _, _, s, k, h => h.elim
  | .label _, _, s, k, h => h.elim
  | .goto _, _, s, k, h => h.elim
  | .refuse _, _, s, k, h => h.elim
def loadS (P : Program) (s : St) (t : TypeId) : AV → Option AV
  | .one false [.ptr k off] => match (s.heap[k]?).join.join with
    | some (.cells _ l) => partS P t l off
    | _ => none
  | _ => none
def resOne (P : Program) (s : St) : ResultVar → Option AV
  | .tmp t => s.slots[t]?
  | .cell a t => (s.slots[a]?).bind (loadS P s t)
def resList (P : Program) (s : St) : List ResultVar → Option (List AV)
  | [] => some []
  | r :: rs => match resOne P s r, resList P s rs with
    | some v, some l => some (v :: l)
    | _, _ => none
def ones : List AV → Option (List (Bool × List SV))
  | [] => some []
  | .one g l :: r => (ones r).map ((g, l) :: ·)
  | _ => none
def resS (P : Program) (rs : List ResultVar) (s : St) : Option AV :=
  match resList P s rs with
  | some [v] => some v
  | some l => (ones l).map .tup
  | none => none
def resM (tmps : Array Value) : ResultVar → Sem Value
  | .tmp t => pure (tmps.getD t undef)
  | .cell x t => do loadVar t (← asAddr (tmps.getD x undef))
theorem results_eq (fn : Func) (tmps : Array Value) : results fn tmps = (do let vs ← fn.results.mapM (resM tmps); pure (if h : vs.size = 1 then vs[0] else .tuple vs)) := rfl
theorem resOne_spec {E s a w} (h : Rel C B w0 E s a w) {r : ResultVar} {v : AV} (hv : resOne P s r = some v) :
    ∃ u, (resM a.tmps r).run P w = .ok u w ∧ AV.rel C E w v u := by
  cases r with
  | tmp t =>
    obtain ⟨u, hu, hr⟩ := h.slots.get hv
    have hu' : a.tmps[t]? = some u := by simpa using hu
    exact ⟨u, by simp [resM, hu'], hr⟩
  | cell x t =>
    simp only [resOne, Option.bind_eq_some_iff] at hv
    obtain ⟨y, hy, hv⟩ := hv
    unfold loadS at hv
    split at hv
    · rename_i k off
      split at hv
      · rename_i e l hl
        obtain ⟨u, hu, n, hn, rfl⟩ := h.slots.get hy
        have hu' : a.tmps[x]? = some (.pointer (some ⟨n, off, none⟩)) := by simpa using hu
        have hk : s.heap[k]? = some (some (some (.cells e l))) := by
          cases h1 : s.heap[k]? with
          | none => simp [h1] at hl
          | some z => cases z with
            | none => simp [h1] at hl
            | some z => cases z with
              | none => simp [h1] at hl
              | some z => simp [h1] at hl; subst hl; rfl
        obtain ⟨m, hm, _, vs, hvs, hvr, _⟩ := h.heap k _ hk
        rw [hn] at hm; cases hm
        obtain ⟨v', hv', hr⟩ := loadVar_spec (P := P) (C := C) (E := E) (w := w) (b := n) (o0 := 0) hv (fun j c hj => by
          obtain ⟨v, hv', hr⟩ := hvr.get hj
          exact ⟨v, by simpa [World.cell?, hvs] using hv', hr⟩)
        simp only [Nat.zero_add] at hv'
        exact ⟨v', by simp [resM, hu', asAddr, hv'], hr⟩
      · cases hv
    · cases hv
theorem resList_spec {E s a w} (h : Rel C B w0 E s a w) : ∀ {rs : List ResultVar} {l : List AV}, resList P s rs = some l →
    ∃ us, (rs.mapM (resM a.tmps)).run P w = .ok us w ∧ AllR (AV.rel C E w) l us
  | [], l, hl => by cases hl; exact ⟨[], rfl, AllR.nil⟩
  | r :: rs, l, hl => by
    simp only [resList] at hl
    split at hl
    · rename_i v l' hv hl'
      cases hl
      obtain ⟨u, hu, hur⟩ := resOne_spec h hv
      obtain ⟨us, hus, husr⟩ := resList_spec h hl'
      refine ⟨u :: us, ?_, AllR.cons hur husr⟩
      simp only [List.mapM_cons, Sem.run_bind, Sem.run_pure]
      rw [hu]
      simp only [Result.andThen_ok]
      rw [hus]
      rfl
    · cases hl
theorem ones_spec {E w} : ∀ {l : List AV} {m us}, ones l = some m → AllR (AV.rel C E w) l us → AllR (fun (p : Bool × List SV) v => OneR C E w p.1 p.2 v) m us
  | [], m, us, h, hr => by cases h; have := hr.unnil; subst this; exact AllR.nil
  | .one g l :: r, m, us, h, hr => by
    simp only [ones, Option.map_eq_some_iff] at h
    obtain ⟨m', hm, rfl⟩ := h
    obtain ⟨u, us', rfl, hu, hr'⟩ := hr.uncons
    exact AllR.cons hu (ones_spec hm hr')
  | .tup _ :: r, m, us, h, hr => by cases h
theorem resS_spec {E s a w} (h : Rel C B w0 E s a w) {fn : Func} {v : AV} (hv : resS P fn.results.toList s = some v) : ∃ u, (results fn a.tmps).run P w = .ok u w ∧ AV.rel C E w v u := by
  unfold resS at hv
  have key : ∀ l, resList P s fn.results.toList = some l → ∃ us : Array Value, (results fn a.tmps).run P w = .ok (if h : us.size = 1 then us[0] else .tuple us) w ∧ AllR (AV.rel C E w) l us.toList := by
    intro l hl
    obtain ⟨us, hus, hr⟩ := resList_spec h hl
    refine ⟨us.toArray, ?_, by simpa using hr⟩
    rw [results_eq]
    simp only [Sem.run_bind]
    rw [Array.mapM_eq_mapM_toList]
    simp only [Sem.run_map]
    rw [hus]
    rfl
  split at hv
  · rename_i v' hl
    cases hv
    obtain ⟨us, hus, hr⟩ := key _ hl
    obtain ⟨u, us', hu', hu, hr'⟩ := hr.uncons
    have := hr'.unnil; subst this
    have e : us = #[u] := by apply Array.ext'; simpa using hu'
    subst e
    exact ⟨u, by rw [hus]; rfl, hu⟩
  · rename_i l hne hl
    simp only [Option.map_eq_some_iff] at hv
    obtain ⟨m, hm, rfl⟩ := hv
    obtain ⟨us, hus, hr⟩ := key _ hl
    have hsz : ¬ us.size = 1 := by
      intro h1
      have := hr.1
      simp [h1] at this
      obtain ⟨x, hx⟩ := List.length_eq_one_iff.1 this
      exact hne x hx
    exact ⟨.tuple us, by rw [hus, dif_neg hsz], us, rfl, ones_spec hm hr⟩
  · cases hv
def SV.toV : SV → Value
  | .bool b => .bool b
  | .int k n => .int k n
  | .val v => v
  | _ => undef
def oneV (g : Bool) (l : List SV) : Value :=
  match g, l with
  | true, l => .agg (l.map SV.toV).toArray
  | false, [s] => s.toV
  | false, _ => undef
def AV.plain : AV → Bool
  | .one g l => (g || l.length == 1) && l.all SV.plain
  | .tup l => l.all fun p => (p.1 || p.2.length == 1) && p.2.all SV.plain
def AV.toV : AV → Value
  | .one g l => oneV g l
  | .tup l => .tuple (l.map fun p => oneV p.1 p.2).toArray
theorem SV.toV_of {E w s v} (hp : SV.plain s = true) (h : SV.rel C E w s v) : v = s.toV := by
  cases s <;> simp only [SV.plain, Bool.false_eq_true] at hp <;> exact h
theorem SV.rel_toV {E w s} (hp : SV.plain s = true) : SV.rel C E w s s.toV := by
  cases s <;> simp only [SV.plain, Bool.false_eq_true] at hp <;> rfl
theorem oneV_of {E w g l v} (hp : ((g || l.length == 1) && l.all SV.plain) = true) (h : OneR C E w g l v) : v = oneV g l := by
  simp only [Bool.and_eq_true] at hp
  cases g with
  | true =>
    obtain ⟨vs, rfl, hr⟩ := h
    have : vs.toList = l.map SV.toV := by
      apply List.ext_getElem?
      intro i
      cases hl : l[i]? with
      | none =>
        have h1 : l.length ≤ i := by simpa using hl
        rw [List.getElem?_eq_none (by rw [← hr.1]; exact h1)]
        simp [hl]
      | some s =>
        obtain ⟨u, hu, hur⟩ := hr.get hl
        rw [hu, SV.toV_of (List.all_eq_true.1 hp.2 s (List.mem_of_getElem? hl)) hur]
        simp [hl]
    show Value.agg vs = .agg _
    rw [← this]
  | false =>
    match l, h with
    | [s], h => exact SV.toV_of (by simpa using hp.2) h
theorem oneV_rel {E w g l} (hp : ((g || l.length == 1) && l.all SV.plain) = true) : OneR C E w g l (oneV g l) := by
  simp only [Bool.and_eq_true] at hp
  cases g with
  | true =>
    refine ⟨_, rfl, ?_⟩
    simp only
    have : l = l.map id := by simp
    conv => lhs; rw [this]
    exact AllR.map fun s hs => SV.rel_toV (List.all_eq_true.1 hp.2 s hs)
  | false =>
    match l, hp with
    | [s], hp => exact SV.rel_toV (by simpa using hp.2)
    | [], hp => simp at hp
    | _ :: _ :: _, hp => simp at hp
theorem AV.toV_of {E w x v} (hp : AV.plain x = true) (h : AV.rel C E w x v) : v = x.toV := by
  cases x with
  | one g l => exact oneV_of hp h
  | tup l =>
    obtain ⟨vs, rfl, hr⟩ := h
    have : vs.toList = l.map fun p => oneV p.1 p.2 := by
      apply List.ext_getElem?
      intro i
      cases hl : l[i]? with
      | none =>
        have h1 : l.length ≤ i := by simpa using hl
        rw [List.getElem?_eq_none (by rw [← hr.1]; exact h1)]
        simp [hl]
      | some s =>
        obtain ⟨u, hu, hur⟩ := hr.get hl
        rw [hu, oneV_of (List.all_eq_true.1 hp s (List.mem_of_getElem? hl)) hur]
        simp [hl]
    show Value.tuple vs = .tuple _
    rw [← this]
theorem AV.rel_toV {E w x} (hp : AV.plain x = true) : AV.rel C E w x x.toV := by
  cases x with
  | one g l => exact oneV_rel hp
  | tup l =>
    refine ⟨_, rfl, ?_⟩
    simp only
    have : l = l.map id := by simp
    conv => lhs; rw [this]
    exact AllR.map fun p hp' => oneV_rel (List.all_eq_true.1 hp p hp')
def InG (fr : Bool) (G : Nat → Prop) (w : World) (x : AV) (v : Value) : Prop := ∀ C E, (∀ n, G n → E.G fr n) → AV.rel C E w x v
def InR (w : World) (x : AV) (v : Value) : Prop := InG false (fun _ => True) w x v
def OutR (B : Nat) (w : World) (x : AV) (v : Value) : Prop := InG true (fun n => B ≤ n) w x v
def SV.weak : SV → SV
  | .vec _ xs => .vec false xs
  | .epv _ xs i o => .epv false xs i o
  | s => s
def AV.weak : AV → AV
  | .one g l => .one g (l.map SV.weak)
  | .tup l => .tup (l.map fun p => (p.1, p.2.map SV.weak))
theorem SV.weak_rel {C : Ctx} {E E1 : Env} {w : World} {s : SV} {v : Value} (hβ : E1.β = E.β) (hσ : E1.σ = E.σ) (hA : E1.A = E.A) (h : SV.rel C E1 w s v) : SV.rel C E w s.weak v := by
  have hG : ∀ fr b, E1.G fr b → E.G false b := fun fr b hb => ⟨by rw [← hA]; exact hb.1, fun e => by cases e⟩
  have hp : ∀ xs v, PvcR E1 w xs v → PvcR E w xs v := by
    rintro xs v ⟨b, off, u, rfl, h1, h2, h3, h4⟩
    exact ⟨b, off, u, rfl, by rw [← hA]; exact h1, h2, h3, VecG.mono h4 (fun b _ hb => hG _ b hb) (Nat.le_refl _) (fun _ _ _ _ h => h)⟩
  cases s <;> simp only [SV.weak] <;> try exact h
  case ptr => simpa only [SV.rel, hβ] using h
  case vec fr xs => exact (VecG.mono h (fun b _ hb => hG _ b hb) (Nat.le_refl _) (fun _ _ _ _ h => h)).flag
  case epv fr xs i o =>
    obtain ⟨b, off, rfl, h1, h2, h3⟩ := h
    exact ⟨b, off, rfl, hG _ _ h1, h2, at_flag (h3.mono h1 (fun b _ hb => hG _ b hb) (Nat.le_refl _) (fun _ _ _ _ h => h))⟩
  case pvc xs => exact hp _ _ h
  case sl => simpa only [SV.rel, hβ] using h
  case clo => simpa only [SV.rel, hβ] using h
  case clv f xss =>
    obtain ⟨ps, rfl, h1⟩ := h
    exact ⟨ps, rfl, h1.mono fun xs v _ h => hp xs v h⟩
  case own => simpa only [SV.rel, hσ] using h
  case sub => simpa only [SV.rel, hσ] using h
  case epo => simpa only [SV.rel, hσ] using h
theorem OneR.weak_rel {C : Ctx} {E E1 : Env} {w : World} {g : Bool} {l : List SV} {v : Value} (hβ : E1.β = E.β) (hσ : E1.σ = E.σ) (hA : E1.A = E.A) (h : OneR C E1 w g l v) : OneR C E w g (l.map SV.weak) v := by
  cases g with
  | true =>
    obtain ⟨vs, rfl, h⟩ := h
    refine ⟨vs, rfl, by simpa using h.1, fun i a b ha hb => ?_⟩
    simp only [List.getElem?_map, Option.map_eq_some_iff] at ha
    obtain ⟨s, hs, rfl⟩ := ha
    exact SV.weak_rel hβ hσ hA (h.2 i s b hs hb)
  | false =>
    match l, h with
    | [s], h => exact SV.weak_rel hβ hσ hA h
theorem AV.weak_rel {C : Ctx} {E E1 : Env} {w : World} {x : AV} {v : Value} (hβ : E1.β = E.β) (hσ : E1.σ = E.σ) (hA : E1.A = E.A) (h : AV.rel C E1 w x v) : AV.rel C E w x.weak v := by
  cases x with
  | one g l => exact OneR.weak_rel hβ hσ hA h
  | tup l =>
    obtain ⟨vs, rfl, h⟩ := h
    refine ⟨vs, rfl, by simpa using h.1, fun i a b ha hb => ?_⟩
    simp only [List.getElem?_map, Option.map_eq_some_iff] at ha
    obtain ⟨p, hp, rfl⟩ := ha
    exact OneR.weak_rel hβ hσ hA (h.2 i p b hp hb)
theorem InG.weak {G : Nat → Prop} {w : World} {x : AV} {v : Value} (h : InG true G w x v) : InG false G w x.weak v := fun C E hE =>
  AV.weak_rel (E1 := { E with F := fun _ => True }) rfl rfl rfl (h C { E with F := fun _ => True } fun n hn => ⟨(hE n hn).1, fun _ => trivial⟩)
def nilT (P : Program) (t : TypeId) : Option VL :=
  match P.underlying t with
  | some (.slice e) => match P.underlying e with
    | some (.int k) => some (.int k [])
    | some .bool => some (.bool [])
    | _ => none
  | _ => none
def nilF (P : Program) : List Field → List (Option VL)
  | [] => []
  | f :: r => match szT P f.type with
    | some 1 => nilT P f.type :: nilF P r
    | some n => List.replicate n none ++ nilF P r
    | none => []
def nilsT (P : Program) (t : TypeId) : List (Option VL) :=
  match P.underlying t with
  | some (.struct fs) => nilF P fs.toList
  | some (.slice _) => [nilT P t]
  | _ => []
def outSV (P : Program) (rd : Nat → Option Blk) (nl : Option VL) : SV → Option SV
  | .bool b => some (.bool b)
  | .int k n => some (.int k n)
  | .val (.slice none 0 0) => match nl with
    | some xs => match xs.len with
      | 0 => some (.vec true xs)
      | _ => none
    | none => some (.val (.slice none 0 0))
  | .val (.string s) => some (.str s.data.toList)
  | .val v => some (.val v)
  | .str l => some (.str l)
  | .vec true xs => some (.vec true xs)
  | .own k => match rd k with
    | some (.grow _ xs) => some (.vec true xs)
    | _ => none
  | .sub k wd lo n => match rd k with
    | some (.grow _ xs) => if xs.wd = wd then some (.vec true (xs.cut lo n)) else none
    | _ => none
  | .sl k off len cap => match rd k with
    | some (.cells e l) => if len ≤ cap ∧ off + len ≤ l.length then (cellsVL P e (cut l off len)).map (.vec true ·) else none
    | _ => none
  | _ => none
def hdN : List (Option VL) → Option VL
  | [] => none
  | x :: _ => x
def outL (P : Program) (rd : Nat → Option Blk) : List (Option VL) → List SV → Option (List SV)
  | _, [] => some []
  | nl, s :: r => match outSV P rd (hdN nl) s, outL P rd nl.tail r with
    | some x, some l => some (x :: l)
    | _, _ => none
def outLL (P : Program) (rd : Nat → Option Blk) : List TypeId → List (Bool × List SV) → Option (List (Bool × List SV))
  | _, [] => some []
  | ts, (g, l) :: r => match outL P rd (nilsT P (ts.headD 0)) l, outLL P rd ts.tail r with
    | some x, some m => some ((g, x) :: m)
    | _, _ => none
def outA (P : Program) (rd : Nat → Option Blk) (ts : List TypeId) : AV → Option AV
  | .one g l => (outL P rd (nilsT P (ts.headD 0)) l).map (.one g ·)
  | .tup l => (outLL P rd ts l).map .tup
section
variable {E : Env} {w : World} {rd : Nat → Option Blk}
theorem outSV_spec (hrd : ∀ k b, rd k = some b → BlkR C E w k b) (hAF : ∀ n, E.A n → E.F n ∧ n < w.heap.size) {nl : Option VL} {s r : SV} {v : Value} (ho : outSV P rd nl s = some r) (hs : SV.rel C E w s v) {C' : Ctx} {E' : Env} (hE : ∀ n, E.F n → E'.G true n) : SV.rel C' E' w r v := by
  unfold outSV at ho
  split at ho
  · cases ho; exact hs
  · cases ho; exact hs
  · split at ho
    · rename_i xs
      split at ho
      · rename_i h0
        cases ho; cases hs
        exact ⟨none, 0, by rw [h0], by omega, fun _ => rfl, .inl h0⟩
      · cases ho
    · cases ho; exact hs
  · cases ho; cases hs; rfl
  · cases ho; exact hs
  · cases ho; exact hs
  · cases ho
    exact VecG.mono hs (fun b _ hb => hE b (hb.2 rfl)) (Nat.le_refl _) (fun _ _ _ _ h => h)
  · split at ho
    · rename_i k _ e xs hk
      cases ho
      obtain ⟨u, hu, _, hg, hfl, how⟩ := hrd _ _ hk
      have := hs.1
      rw [hu] at this; cases this
      exact own_G hfl how fun n hn => hE n (hAF n (hg n hn)).1
    · cases ho
  · split at ho
    · rename_i k wd lo n _ e xs hk
      split at ho
      · rename_i hwd
        cases ho
        obtain ⟨u, hu, _, hg, hfl, how⟩ := hrd _ _ hk
        exact sub_G hfl hu how hwd hs fun n hn => hE n (hAF n (hg n hn)).1
      · cases ho
    · cases ho
  · split at ho
    · rename_i k off len cap _ e l hk
      split at ho
      · rename_i hle
        simp only [Option.map_eq_some_iff] at ho
        obtain ⟨xs, hxs, rfl⟩ := ho
        obtain ⟨hv, hlen, hwd, hpl⟩ := cellsVL_spec hxs
        obtain ⟨n, hn, hnA, vs, hvs, hvr, _⟩ := hrd _ _ hk
        obtain ⟨m, hm, rfl⟩ := hs
        rw [hn] at hm; cases hm
        have hcl : (cut l off len).length = len := by simp [cut]; omega
        have hcut := exacts_of_plain hpl ((hvr.drop off).take len)
        have hfl : xs.flat = true := by
          unfold cellsVL at hxs
          split at hxs
          · simp only [Option.map_eq_some_iff] at hxs; obtain ⟨_, _, rfl⟩ := hxs; rfl
          · simp only [Option.map_eq_some_iff] at hxs; obtain ⟨_, _, rfl⟩ := hxs; rfl
          · cases hxs
        refine ⟨_, cap, by rw [hlen, hcl], by rw [hlen, hcl]; omega, fun e => (by cases e), .inr ⟨n, off, rfl, hE n (hAF n hnA).1, (hAF n hnA).2, fun i hi => RdX.at hfl fun j c hj => ?_⟩⟩
        have hjl := list_get_lt hj
        rw [VL.at_length, hwd] at hjl
        have hj0 : j = 0 := by omega
        subst hj0
        have hvg := VL.vals_get (xs := xs) (i := i) (j := 0) hi (by omega)
        rw [hj, hv, ← hcut, List.getElem?_take, List.getElem?_drop] at hvg
        rw [hlen, hcl] at hi
        rw [hwd] at hvg
        simp only [Nat.mul_one, Nat.add_zero, if_pos hi, Option.map_some] at hvg
        rw [hwd]
        simp only [Nat.mul_one, Nat.add_zero]
        simpa [World.cell?, hvs] using hvg
      · cases ho
    · cases ho
  · cases ho
theorem outL_spec (hrd : ∀ k b, rd k = some b → BlkR C E w k b) (hAF : ∀ n, E.A n → E.F n ∧ n < w.heap.size) {C' : Ctx} {E' : Env} (hE : ∀ n, E.F n → E'.G true n) :
    ∀ {nl : List (Option VL)} {l m : List SV} {vs : List Value}, outL P rd nl l = some m → AllR (SV.rel C E w) l vs → AllR (SV.rel C' E' w) m vs
  | _, [], m, vs, ho, h => by cases ho; have := h.unnil; subst this; exact AllR.nil
  | nl, s :: r, m, vs, ho, h => by
    simp only [outL] at ho
    split at ho
    · rename_i x l hx hl'
      cases ho
      obtain ⟨v, vs', rfl, hv, h'⟩ := h.uncons
      exact AllR.cons (outSV_spec hrd hAF hx hv hE) (outL_spec hrd hAF hE hl' h')
    · cases ho
theorem outOne_spec (hrd : ∀ k b, rd k = some b → BlkR C E w k b) (hAF : ∀ n, E.A n → E.F n ∧ n < w.heap.size) {C' : Ctx} {E' : Env} (hE : ∀ n, E.F n → E'.G true n) {g : Bool} {nl : List (Option VL)} {l m : List SV} {v : Value}
    (ho : outL P rd nl l = some m) (h : OneR C E w g l v) : OneR C' E' w g m v := by
  cases g with
  | true =>
    obtain ⟨vs, rfl, h⟩ := h
    exact ⟨vs, rfl, outL_spec hrd hAF hE ho h⟩
  | false =>
    match l, h with
    | [s], h =>
      simp only [outL] at ho
      split at ho
      · rename_i x r hx hr
        cases hr; cases ho
        exact outSV_spec hrd hAF hx h hE
      · cases ho
theorem outLL_spec (hrd : ∀ k b, rd k = some b → BlkR C E w k b) (hAF : ∀ n, E.A n → E.F n ∧ n < w.heap.size) {C' : Ctx} {E' : Env} (hE : ∀ n, E.F n → E'.G true n) :
    ∀ {ts : List TypeId} {l m : List (Bool × List SV)} {vs : List Value}, outLL P rd ts l = some m → AllR (fun (p : Bool × List SV) v => OneR C E w p.1 p.2 v) l vs → AllR (fun (p : Bool × List SV) v => OneR C' E' w p.1 p.2 v) m vs
  | _, [], m, vs, ho, h => by cases ho; have := h.unnil; subst this; exact AllR.nil
  | ts, (g, s) :: r, m, vs, ho, h => by
    simp only [outLL] at ho
    split at ho
    · rename_i x l hx hl'
      cases ho
      obtain ⟨v, vs', rfl, hv, h'⟩ := h.uncons
      exact AllR.cons (outOne_spec hrd hAF hE hx hv) (outLL_spec hrd hAF hE hl' h')
    · cases ho
theorem outA_spec (hrd : ∀ k b, rd k = some b → BlkR C E w k b) (hAF : ∀ n, E.A n → E.F n ∧ n < w.heap.size) {ts : List TypeId} {x r : AV} {v : Value} (ho : outA P rd ts x = some r) (h : AV.rel C E w x v) : InG true E.F w r v := by
  intro C' E' hE
  cases x with
  | one g l =>
    simp only [outA, Option.map_eq_some_iff] at ho
    obtain ⟨m, hm, rfl⟩ := ho
    exact outOne_spec hrd hAF hE hm h
  | tup l =>
    simp only [outA, Option.map_eq_some_iff] at ho
    obtain ⟨m, hm, rfl⟩ := ho
    obtain ⟨vs, rfl, h⟩ := h
    exact ⟨vs, rfl, outLL_spec hrd hAF hE hm h⟩
end
def start (args : List AV) (n : Nat) : St := ⟨args ++ List.replicate (n - args.length) undefA, []⟩
def resOut (P : Program) (rs : List ResultVar) (ts : List TypeId) (s : St) : Option AV := (resS P rs s).bind (outA P (s.rd fun _ => true) ts)
def fin (P : Program) (rs : List ResultVar) (ts : List TypeId) (Q : AV → Prop) (x : X) (s : St) : Prop :=
  match x with
  | .nrm => match resOut P rs ts s with
    | some r => Q r
    | none => False
  | .ret => match resOut P rs ts s with
    | some r => Q r
    | none => False
  | .ex _ => False
def evF (P : Program) (C : Ctx) (L : Loops) (u : Nat) (fn : Func) (args : List AV) (Q : AV → Prop) : Prop :=
  match fn.body with
  | some c => forceAs (start args fn.ntmps).slots fun sl => evC P C L u c ⟨sl, []⟩ (fin P fn.results.toList fn.resultTypes.toList Q)
  | none => False
theorem fin_spec {rs : List ResultVar} {ts : List TypeId} {Q : AV → Prop} {x : X} {s : St} (h : fin P rs ts Q x s) : (x = .nrm ∨ x = .ret) ∧ ∃ r, resOut P rs ts s = some r ∧ Q r := by
  cases x with
  | nrm => simp only [fin] at h; split at h
           · rename_i r hr; exact ⟨.inl rfl, r, hr, h⟩
           · exact h.elim
  | ret => simp only [fin] at h; split at h
           · rename_i r hr; exact ⟨.inr rfl, r, hr, h⟩
           · exact h.elim
  | ex id => exact h.elim
theorem start_slots {C : Ctx} {E : Env} {w : World} {args : List AV} {vs : Array Value} {n : Nat} (hargs : AllR (AV.rel C E w) args vs.toList) :
    AllR (AV.rel C E w) (args ++ List.replicate (n - args.length) undefA) (vs ++ Array.replicate (n - vs.size) undef).toList := by
  have e : vs.size = args.length := by have := hargs.1; simp at this; omega
  simp only [Array.toList_append, Array.toList_replicate, e]
  refine hargs.app ⟨by simp, fun i x v hx hv => ?_⟩
  rw [List.getElem?_replicate] at hx hv
  split at hx
  · rename_i hi
    rw [if_pos hi] at hv
    cases hx; cases hv
    exact undef_rel C _ w
  · cases hx
def ES (F : Nat → Prop) : Env := ⟨fun _ => none, fun _ => none, fun _ => False, F, fun _ => False⟩
theorem calls_of_evF (hm : P.follows .mixedOrders = true) {f : FuncId} {fn : Func} {w : World} (hC : CtxOK P C) (hX : C.X = fun _ => False) (hv0 : C.v0 = none) (hF : ∀ n, w.heap.size ≤ n → C.F n) {L : Loops} {u : Nat} (hf : P.funcs[f]? = some fn)
    (hL : ∀ c, fn.body = some c → LoopsOK P C w.heap.size w L (loopsIn c)) {args : List AV} {vs : Array Value} (hargs : AllR (AV.rel C (ES C.F) w) args vs.toList) {Q : AV → Prop} (h : evF P C L u fn args Q) :
    Calls P f vs w fun e w' => ∃ r v, Q r ∧ e = .returned v ∧ InG true C.F w' r v ∧ Below w.heap.size w w' := by
  unfold evF at h
  split at h
  · rename_i c hb
    rw [forceAs_eq] at h
    have h : evC P C L u c (start args fn.ntmps) (fin P fn.results.toList fn.resultTypes.toList Q) := h
    refine calls_of_wp hf hb ?_
    have hrel : Rel C w.heap.size w (ES C.F) (start args fn.ntmps) { tmps := vs ++ Array.replicate (fn.ntmps - vs.size) undef, defers := [] } w := by
      refine { slots := start_slots hargs, defers := rfl, heap := ?_, free := fun _ _ => ⟨rfl, rfl⟩, lo := fun n h => h.elim, inj := ?_, below := BelowX.refl _ _ _, base := Nat.le_refl _, ok := ⟨hF, fun _ h => h.elim, rfl, hX.symm, fun v hv => by rw [hv0] at hv; cases hv⟩ }
      · intro k b hk; simp [start] at hk
      · intro k k' b b' n hk; simp [start] at hk
    refine wp_mono (evC_spec hm hC c (hL c hb) _ _ h _ _ _ hrel) ?_
    rintro e a' w' ⟨x, E', s', rfl, hr, hk⟩
    obtain ⟨hx, r, hres, hQ⟩ := fin_spec hk
    unfold resOut at hres
    simp only [Option.bind_eq_some_iff] at hres
    obtain ⟨r0, hr0, hout⟩ := hres
    obtain ⟨u, hu, hur⟩ := resS_spec (P := P) hr hr0
    have hnX : ∀ n, ¬ E'.X n := fun n hn => by rw [hr.ok.eX, hX] at hn; exact hn
    have hO : InG true C.F w' r u := by
      have := outA_spec (P := P) (rd_rel hr _) (fun n hn => ⟨by
        rcases (hr.lo n hn).1 with h1 | h1
        · exact hr.ok.F n h1
        · exact absurd h1 (hnX n), (hr.lo n hn).2⟩) hout hur
      rwa [hr.ok.eF] at this
    have hbl := hr.below.to hnX
    rcases hx with rfl | rfl
    · exact ⟨hr.defers, u, hu, r, u, hQ, rfl, hO, hbl⟩
    · exact ⟨hr.defers, u, hu, r, u, hQ, rfl, hO, hbl⟩
  · exact h.elim
def finB (P : Program) (rs : List ResultVar) (e : TypeId) (Q : AV → VL → Prop) (x : X) (s : St) : Prop :=
  match x with
  | .ex _ => False
  | _ => match resS P rs s, s.rd (fun _ => true) 0 with
    | some r, some (.grow e' xs) => cond (r.plain && Nat.beq e' e) (Q r xs) False
    | _, _ => False
def startB (args : List AV) (n : Nat) (e : TypeId) (xs : VL) : St := ⟨args ++ List.replicate (n - args.length) undefA, [some (some (.grow e xs))]⟩
def evFB (P : Program) (C : Ctx) (L : Loops) (u : Nat) (fn : Func) (args : List AV) (e : TypeId) (xs : VL) (Q : AV → VL → Prop) : Prop :=
  match fn.body with
  | some c => forceAs (startB args fn.ntmps e xs).slots fun sl => evC P C L u c ⟨sl, [some (some (.grow e xs))]⟩ (finB P fn.results.toList e Q)
  | none => False
def EB (X : Nat → Prop) (v0 : Value) : Env := ⟨fun _ => none, fun k => match k with | 0 => some v0 | _ => none, X, fun _ => True, X⟩
theorem finB_spec {rs : List ResultVar} {e : TypeId} {Q : AV → VL → Prop} {x : X} {s : St} (h : finB P rs e Q x s) : (x = .nrm ∨ x = .ret) ∧ ∃ r xs, resS P rs s = some r ∧ s.rd (fun _ => true) 0 = some (.grow e xs) ∧ r.plain = true ∧ Q r xs := by
  have key : ∀ {p : Prop}, (match resS P rs s, s.rd (fun _ => true) 0 with
    | some r, some (.grow e' xs) => cond (r.plain && Nat.beq e' e) (Q r xs) False
    | _, _ => False) → p ∨ ∃ r xs, resS P rs s = some r ∧ s.rd (fun _ => true) 0 = some (.grow e xs) ∧ r.plain = true ∧ Q r xs := by
    intro p h
    split at h
    · rename_i r e' xs h1 h2
      cases hp : r.plain with
      | false => rw [hp] at h; exact h.elim
      | true =>
        rw [hp] at h
        cases he : Nat.beq e' e with
        | false => rw [he] at h; exact h.elim
        | true =>
          have := Nat.eq_of_beq_eq_true he
          subst this
          rw [he] at h
          exact .inr ⟨r, xs, h1, h2, hp, h⟩
    · exact h.elim
  cases x with
  | nrm => exact ⟨.inl rfl, (key (p := False) h).resolve_left id⟩
  | ret => exact ⟨.inr rfl, (key (p := False) h).resolve_left id⟩
  | ex id => exact h.elim
theorem calls_of_evFB (hm : P.follows .mixedOrders = true) {f : FuncId} {fn : Func} {w : World} (hC : CtxOK P C) {v0 : Value} (hX : C.X = fun n => v0.ownBlock = some n) (hF : C.F = fun _ => True) (hv0 : C.v0 = some v0) {L : Loops} {u : Nat} (hf : P.funcs[f]? = some fn)
    (hL : ∀ c, fn.body = some c → LoopsOK P C w.heap.size w L (loopsIn c)) {args : List AV} {vs : Array Value} (hargs : AllR (AV.rel C (EB C.X v0) w) args vs.toList) {e : TypeId} {xs : VL} (hfl : xs.flat = true) (ho : w.ownsRow 0 e xs.wd v0 xs.len xs.vals)
    {Q : AV → VL → Prop} (h : evFB P C L u fn args e xs Q) :
    Calls P f vs w fun ed w' => ∃ (r : AV) (ys : VL), Q r ys ∧ ed = .returned r.toV ∧ r.plain = true ∧ (ys.flat = true ∧ w'.ownsRow 0 e ys.wd v0 ys.len ys.vals) ∧ BelowX C.X w.heap.size w w' := by
  unfold evFB at h
  split at h
  · rename_i c hb
    rw [forceAs_eq] at h
    have h : evC P C L u c (startB args fn.ntmps e xs) (finB P fn.results.toList e Q) := h
    refine calls_of_wp hf hb ?_
    have hrel : Rel C w.heap.size w (EB C.X v0) (startB args fn.ntmps e xs) { tmps := vs ++ Array.replicate (fn.ntmps - vs.size) undef, defers := [] } w := by
      refine { slots := start_slots hargs, defers := rfl, heap := ?_, free := ?_, lo := ?_, inj := ?_, below := BelowX.refl _ _ _, base := Nat.le_refl _, ok := ⟨fun _ _ => trivial, fun _ _ => trivial, by rw [hF]; rfl, rfl, fun v hv => by rw [hv0] at hv; cases hv; rfl⟩ }
      · intro k b hk
        rcases k with _ | k
        · simp only [startB, List.getElem?_cons_zero, Option.some.injEq] at hk
          subst hk
          exact ⟨v0, rfl, rfl, fun n hn => by show C.X n; rw [hX]; exact hn, hfl, ho⟩
        · simp [startB] at hk
      · intro k hk
        rcases k with _ | k
        · simp [startB] at hk
        · exact ⟨rfl, rfl⟩
      · intro n hn
        refine ⟨.inr hn, ?_⟩
        have hn' : C.X n := hn
        rw [hX] at hn'
        exact (ho.lt n hn').2
      · intro k k' b b' n hk hk'
        rcases k with _ | k <;> rcases k' with _ | k'
        · intros; rfl
        · simp [startB] at hk'
        · simp [startB] at hk
        · simp [startB] at hk
    refine wp_mono (evC_spec hm hC c (hL c hb) _ _ h _ _ _ hrel) ?_
    rintro ed a' w' ⟨x, E', s', rfl, hr, hk⟩
    obtain ⟨hx, r, ys, hr0, hrd, hpl, hQ⟩ := finB_spec hk
    obtain ⟨u, hu, hur⟩ := resS_spec (P := P) hr hr0
    have hu' := AV.toV_of hpl hur
    subst hu'
    obtain ⟨v, hv, _, _, hyf, hyo⟩ := rd_rel hr _ _ _ hrd
    rw [hr.ok.v0 v0 hv0] at hv
    cases hv
    have hb' := hr.below
    rw [hr.ok.eX] at hb'
    rcases hx with rfl | rfl
    · exact ⟨hr.defers, _, hu, r, ys, hQ, rfl, hpl, ⟨hyf, hyo⟩, hb'⟩
    · exact ⟨hr.defers, _, hu, r, ys, hQ, rfl, hpl, ⟨hyf, hyo⟩, hb'⟩
  · exact h.elim
end Go.Ev
namespace Go.Ev
open Go.RowKit
variable {P : Program}
inductive Ent where
  | s (sm : Summ)
  | w (sm : WSumm)
abbrev Tab := List (FuncId × Ent)
def lookS : Tab → FuncId → Option Summ
  | [], _ => none
  | (g, .s sm) :: r, f => cond (Nat.beq g f) (some sm) (lookS r f)
  | (g, .w _) :: r, f => cond (Nat.beq g f) none (lookS r f)
def lookW : Tab → FuncId → Option WSumm
  | [], _ => none
  | (g, .w sm) :: r, f => cond (Nat.beq g f) (some sm) (lookW r f)
  | (g, .s _) :: r, f => cond (Nat.beq g f) none (lookW r f)
def mkC (T : Tab) (F : Nat → Prop) : Ctx := ⟨lookS T, fun _ => none, fun _ => .nilFunc, lookW T, F, fun _ => False, none⟩
def mkB (T : Tab) (v0 : Value) : Ctx := ⟨lookS T, fun _ => none, fun _ => .nilFunc, lookW T, fun _ => True, fun n => v0.ownBlock = some n, some v0⟩
def GoodF (P : Program) (f : FuncId) (sm : Summ) : Prop := callable P f ∧ ∀ C, SumOK P C f #[] #[] sm
def GoodW (P : Program) (f : FuncId) (sm : WSumm) : Prop := callable P f ∧ ∀ C, WSumOK P C f sm
def Good (P : Program) (f : FuncId) : Ent → Prop
  | .s sm => GoodF P f sm ∨ ExtF P f sm
  | .w sm => GoodW P f sm
def AllGood (P : Program) (T : Tab) : Prop := ∀ p ∈ T, Good P p.1 p.2
theorem lookS_mem : ∀ {T : Tab} {f sm}, lookS T f = some sm → (f, Ent.s sm) ∈ T
  | [], f, sm, h => by cases h
  | (g, .s s) :: r, f, sm, h => by
    simp only [lookS] at h
    cases hb : Nat.beq g f with
    | true =>
      rw [hb] at h
      cases h
      rw [Nat.eq_of_beq_eq_true hb]
      simp
    | false =>
      rw [hb] at h
      exact List.mem_cons_of_mem _ (lookS_mem h)
  | (g, .w s) :: r, f, sm, h => by
    simp only [lookS] at h
    cases hb : Nat.beq g f with
    | true => rw [hb] at h; cases h
    | false => rw [hb] at h; exact List.mem_cons_of_mem _ (lookS_mem h)
theorem lookW_mem : ∀ {T : Tab} {f sm}, lookW T f = some sm → (f, Ent.w sm) ∈ T
  | [], f, sm, h => by cases h
  | (g, .w s) :: r, f, sm, h => by
    simp only [lookW] at h
    cases hb : Nat.beq g f with
    | true =>
      rw [hb] at h
      cases h
      rw [Nat.eq_of_beq_eq_true hb]
      simp
    | false =>
      rw [hb] at h
      exact List.mem_cons_of_mem _ (lookW_mem h)
  | (g, .s s) :: r, f, sm, h => by
    simp only [lookW] at h
    cases hb : Nat.beq g f with
    | true => rw [hb] at h; cases h
    | false => rw [hb] at h; exact List.mem_cons_of_mem _ (lookW_mem h)
theorem mkC_ok {T : Tab} (h : AllGood P T) (F : Nat → Prop) : CtxOK P (mkC T F) where
  sum f sm hs := (h _ (lookS_mem hs)).imp (fun g => ⟨g.1, g.2 _⟩) id
  fsum i sm hs := by cases hs
  wsum f sm hs := ⟨(h _ (lookW_mem hs)).1, (h _ (lookW_mem hs)).2 _⟩
theorem mkB_ok {T : Tab} (h : AllGood P T) (v0 : Value) : CtxOK P (mkB T v0) where
  sum f sm hs := (h _ (lookS_mem hs)).imp (fun g => ⟨g.1, g.2 _⟩) id
  fsum i sm hs := by cases hs
  wsum f sm hs := ⟨(h _ (lookW_mem hs)).1, (h _ (lookW_mem hs)).2 _⟩
theorem AllGood.nil : AllGood P [] := fun _ h => by cases h
theorem AllGood.cons {f sm T} (h : GoodF P f sm) (t : AllGood P T) : AllGood P ((f, .s sm) :: T) := by
  intro p hp
  rcases List.mem_cons.1 hp with rfl | hp
  · exact .inl h
  · exact t p hp
theorem AllGood.ext {f sm T} (h : ExtF P f sm) (t : AllGood P T) : AllGood P ((f, .s sm) :: T) := by
  intro p hp
  rcases List.mem_cons.1 hp with rfl | hp
  · exact .inr h
  · exact t p hp
theorem AllGood.consW {f sm T} (h : GoodW P f sm) (t : AllGood P T) : AllGood P ((f, .w sm) :: T) := by
  intro p hp
  rcases List.mem_cons.1 hp with rfl | hp
  · exact h
  · exact t p hp
def noL : Loops := fun _ => none
theorem noL_ok {C B w0 cs} : LoopsOK P C B w0 noL cs := by
  intro c _ ls hls
  cases h : rid c <;> rw [h] at hls <;> cases hls
def Ans (r : AV) (w : World) : Ending → World → Prop := fun e w' => ∃ v, e = .returned v ∧ OutR w.heap.size w' r v ∧ Below w.heap.size w w'
def ArgsR (args : List AV) (w : World) (vs : Array Value) : Prop := AllR (InR w) args vs.toList
def AnsF (F : Nat → Prop) (r : AV) (w : World) : Ending → World → Prop := fun e w' => ∃ v, e = .returned v ∧ InG true F w' r v ∧ Below w.heap.size w w'
def ArgsF (F : Nat → Prop) (args : List AV) (w : World) (vs : Array Value) : Prop := AllR (InG true F w) args vs.toList
theorem contractF (hm : P.follows .mixedOrders = true) {T : Tab} (hT : AllGood P T) {f : FuncId} {fn : Func} (hf : P.funcs[f]? = some fn) {L : Loops} {u : Nat} {F : Nat → Prop} (hL : ∀ B w0 c, fn.body = some c → LoopsOK P (mkC T F) B w0 L (loopsIn c))
    {args : List AV} {r : AV} (h : evF P (mkC T F) L u fn args (fun x => x = r)) (w : World) (hF : ∀ n, w.heap.size ≤ n → F n) (vs : Array Value) (hp : AllR (AV.rel (mkC T F) (ES F) w) args vs.toList) : Calls P f vs w (AnsF F r w) := by
  refine (calls_of_evF hm (mkC_ok hT F) rfl rfl hF hf (fun c hc => hL _ _ c hc) (args := args) hp h).mono ?_
  rintro e w' ⟨x, v, rfl, rfl, hv, hb⟩
  exact ⟨v, rfl, hv, hb⟩
inductive Tr (α : Type) where
  | leaf (a : α)
  | br (b : Bool) (t e : Tr α)
  | ast (b : Bool) (t : Tr α)
  | nst (b : Bool) (t : Tr α)
def Tr.val {α : Type} : Tr α → α
  | .leaf a => a
  | .br b t e => cond b t.val e.val
  | .ast _ t => t.val
  | .nst _ t => t.val
def Tr.safe {α : Type} : Tr α → Bool
  | .leaf _ => true
  | .br b t e => cond b t.safe e.safe
  | .ast b t => b && t.safe
  | .nst b t => !b && t.safe
def Tr.noAst {α : Type} : Tr α → Bool
  | .leaf _ => true
  | .br _ t e => t.noAst && e.noAst
  | .ast _ _ => false
  | .nst _ _ => false
def Tr.prop {α : Type} (Q : α → Prop) : Tr α → Prop
  | .leaf a => Q a
  | .br b t e => cond b (t.prop Q) (e.prop Q)
  | .ast b t => cond b (t.prop Q) False
  | .nst b t => cond b False (t.prop Q)
theorem Tr.prop_val {α : Type} {Q : α → Prop} : ∀ {t : Tr α}, t.safe = true → Q t.val → t.prop Q
  | .leaf a, _, h => h
  | .br true t e, hs, h => Tr.prop_val (t := t) hs h
  | .br false t e, hs, h => Tr.prop_val (t := e) hs h
  | .ast b t, hs, h => by
    simp only [Tr.safe, Bool.and_eq_true] at hs
    obtain ⟨rfl, hs⟩ := hs
    exact Tr.prop_val (t := t) hs h
  | .nst b t, hs, h => by
    simp only [Tr.safe, Bool.and_eq_true, Bool.not_eq_true'] at hs
    obtain ⟨rfl, hs⟩ := hs
    exact Tr.prop_val (t := t) hs h
theorem Tr.safe_of {α : Type} : ∀ {t : Tr α}, t.noAst = true → t.safe = true
  | .leaf a, _ => rfl
  | .br b t e, h => by
    simp only [Tr.noAst, Bool.and_eq_true] at h
    cases b
    · exact Tr.safe_of (t := e) h.2
    · exact Tr.safe_of (t := t) h.1
  | .ast b t, h => by cases h
  | .nst b t, h => by cases h
theorem contractT (hm : P.follows .mixedOrders = true) {T : Tab} (hT : AllGood P T) {f : FuncId} {fn : Func} (hf : P.funcs[f]? = some fn) {L : Loops} {u : Nat} (hL : ∀ F B w0 c, fn.body = some c → LoopsOK P (mkC T F) B w0 L (loopsIn c))
    {args : List AV} {ρ : Type} {enc : ρ → AV} {t : Tr ρ} (hs : t.safe = true) (h : ∀ F Q, evF P (mkC T F) L u fn args Q = t.prop fun x => Q (enc x)) (w : World) (vs : Array Value) (hp : ArgsR args w vs) :
    Calls P f vs w (Ans (enc t.val) w) :=
  contractF hm hT hf (F := fun n => w.heap.size ≤ n) (hL _) (by rw [h]; exact Tr.prop_val hs rfl) w (fun _ h => h) vs (hp.mono fun x v _ h => h _ _ fun n _ => ⟨fun h => h, fun e => by cases e⟩)
theorem contractA (hm : P.follows .mixedOrders = true) {T : Tab} (hT : AllGood P T) {f : FuncId} {fn : Func} (hf : P.funcs[f]? = some fn) {L : Loops} {u : Nat} (hL : ∀ F B w0 c, fn.body = some c → LoopsOK P (mkC T F) B w0 L (loopsIn c))
    {args : List AV} {ρ : Type} {enc : ρ → AV} {t : Tr ρ} (hs : t.safe = true) (h : ∀ F Q, evF P (mkC T F) L u fn args Q = t.prop fun x => Q (enc x)) (w : World) (F : Nat → Prop) (hF : ∀ n, w.heap.size ≤ n → F n) (vs : Array Value) (hp : ArgsF F args w vs) :
    Calls P f vs w (AnsF F (enc t.val) w) :=
  contractF hm hT hf (hL F) (by rw [h]; exact Tr.prop_val hs rfl) w hF vs (hp.mono fun x v _ h => h _ _ fun n hn => ⟨fun h => h, fun _ => hn⟩)
def SV.fresh (rd : Nat → Option Blk) : SV → Bool
  | .vec fr _ => fr
  | .sl k _ _ _ => match rd k with
    | some (.cells _ l) => l.all fun | .vec fr _ => fr | s => s.plain
    | _ => false
  | .ptr _ _ => false
  | .clo _ l => l.isEmpty
  | .clv _ _ => false
  | .pvc _ => false
  | .epv _ _ _ _ => false
  | _ => true
def SV.keys : SV → List Nat
  | .ptr k _ => [k]
  | .sl k _ _ _ => [k]
  | .clo _ l => l
  | .own k => [k]
  | .sub k _ _ _ => [k]
  | .epo k _ _ _ => [k]
  | _ => []
def AV.cells : AV → List SV
  | .one _ l => l
  | .tup l => (l.map (·.2)).flatten
def AV.fresh (rd : Nat → Option Blk) (x : AV) : Bool := x.cells.all (SV.fresh rd)
def AV.keys (x : AV) : List Nat := (x.cells.map SV.keys).flatten
theorem plain_in {g : Bool} {l : List SV} (hp : ((g || l.length == 1) && l.all SV.plain) = true) {C E w v} (h : AV.rel C E w (.one g l) v) {fr : Bool} {G : Nat → Prop} : InG fr G w (.one g l) v := by
  intro C' E' _
  have := oneV_of hp h
  subst this
  exact oneV_rel hp
def ToIn (rd : Nat → Option Blk) (a : AV) (y : Bool → AV) : Prop := ∀ (C : Ctx) (E : Env) (w : World) (v : Value) (fr : Bool) (G : Nat → Prop), (∀ k b, rd k = some b → BlkR C E w k b) → (∀ n, ¬ E.A n → (a.fresh rd = true → E.F n) → G n) → (∀ k ∈ a.keys, ∀ b n, rd k = some b → E.blk k = some n → G n) →
  AV.rel C E w a v → InG fr G w (y fr) v
structure Cod (α : Type) where
  /-- the flag: its lists lie in blocks that count as new -/
  enc : Bool → α → AV
  dec : (Nat → Option Blk) → AV → Option α
  ok : ∀ rd a x, dec rd a = some x → ToIn rd a (fun fr => enc fr x)
  weak : ∀ x, enc false x = (enc true x).weak
structure ACod (α : Type) where
  enc : Bool → α → List AV
  dec : (Nat → Option Blk) → List AV → Option α
  ok : ∀ rd a x, dec rd a = some x → (enc false x).length = a.length ∧ ∀ (i : Nat) (a' : AV), a[i]? = some a' → ∃ y : Bool → AV, (∀ fr, (enc fr x)[i]? = some (y fr)) ∧ ToIn rd a' y
  len : ∀ x, (enc true x).length = (enc false x).length
theorem toIn_plain {rd : Nat → Option Blk} {g : Bool} {l : List SV} (hp : ((g || l.length == 1) && l.all SV.plain) = true) : ToIn rd (.one g l) (fun _ => .one g l) := fun _C _E _w _v _fr _G _ _ _ hv => plain_in hp hv
def cBool : Cod Bool where
  enc _ b := .one false [.bool b]
  dec _ | .one false [.bool b] => some b
        | _ => none
  ok rd a x h := by
    split at h
    · cases h; exact toIn_plain rfl
    · cases h
  weak _ := rfl
def cInt (k : IntKind) : Cod Int where
  enc _ n := .one false [.int k n]
  dec _ | .one false [.int k' n] => if k' = k then some n else none
        | _ => none
  ok rd a x h := by
    split at h
    · split at h
      · rename_i hk; subst hk; cases h; exact toIn_plain rfl
      · cases h
    · cases h
  weak _ := rfl
def aNil : ACod Unit where
  enc _ _ := []
  dec _ | [] => some ()
        | _ => none
  ok rd a x h := by
    split at h
    · exact ⟨rfl, fun i a' h => by simp at h⟩
    · cases h
  len _ := rfl
def aCons {α β : Type} (c : Cod α) (A : ACod β) : ACod (α × β) where
  enc fr x := c.enc fr x.1 :: A.enc fr x.2
  dec rd | a :: r => match c.dec rd a, A.dec rd r with
          | some x, some y => some (x, y)
          | _, _ => none
         | [] => none
  ok rd a x h := by
    split at h
    · split at h
      · rename_i h1 h2; cases h
        obtain ⟨h3, h4⟩ := A.ok _ _ _ h2
        refine ⟨by simp [h3], fun i a' ha => ?_⟩
        rcases i with _ | i
        · simp only [List.getElem?_cons_zero, Option.some.injEq] at ha
          subst ha
          exact ⟨_, fun _ => rfl, c.ok _ _ _ h1⟩
        · exact h4 i a' (by simpa using ha)
      · cases h
    · cases h
  len x := by simp [A.len]
def aOne {α : Type} (c : Cod α) : ACod α where
  enc fr x := [c.enc fr x]
  dec rd | [a] => c.dec rd a
         | _ => none
  ok rd a x h := by
    split at h
    · refine ⟨rfl, fun i a' ha => ?_⟩
      rcases i with _ | i
      · simp only [List.getElem?_cons_zero, Option.some.injEq] at ha
        subst ha
        exact ⟨_, fun _ => rfl, c.ok _ _ _ h⟩
      · simp at ha
    · cases h
  len _ := rfl
def unone : AV → Bool × List SV
  | .one g l => (g, l)
  | .tup _ => (false, [])
structure Out (α : Type) where
  enc : α → AV
  dec : AV → Option α
def noRd : Nat → Option Blk := fun _ => none
def o0 : Out Unit := ⟨fun _ => .tup [], fun | .tup [] => some () | _ => none⟩
def o1 {α : Type} (c : Cod α) : Out α := ⟨c.enc true, c.dec noRd⟩
def o2 {α β : Type} (c : Cod α) (d : Cod β) : Out (α × β) where
  enc x := .tup [unone (c.enc true x.1), unone (d.enc true x.2)]
  dec | .tup [(g, l), (g', l')] => match c.dec noRd (.one g l), d.dec noRd (.one g' l') with
        | some x, some y => some (x, y)
        | _, _ => none
      | _ => none
def o3 {α β γ : Type} (c : Cod α) (d : Cod β) (e : Cod γ) : Out (α × β × γ) where
  enc x := .tup [unone (c.enc true x.1), unone (d.enc true x.2.1), unone (e.enc true x.2.2)]
  dec | .tup [(g, l), (g', l'), (g'', l'')] => match c.dec noRd (.one g l), d.dec noRd (.one g' l'), e.dec noRd (.one g'' l'') with
        | some x, some y, some z => some (x, y, z)
        | _, _, _ => none
      | _ => none
theorem list_G {fr : Bool} {G : Nat → Prop} {w : World} {fr' : Bool} {xs : VL} {v : Value} (h : VecG G w fr' xs v) : InG fr G w (.one false [.vec fr xs]) v := by
  intro C E hE
  exact (VecG.mono h (fun b _ hb => hE b hb) (Nat.le_refl _) (fun _ _ _ _ h => h)).flag
theorem list_in {w : World} {xs : VL} {v : Value} (h : ListAt w xs v) : InR w (.one false [.vec false xs]) v := list_G h
theorem nil_G {G : Nat → Prop} {w : World} {fr : Bool} {xs : VL} (h : xs.len = 0) : VecG G w fr xs (.slice none 0 0) := ⟨none, 0, by rw [h], by omega, fun _ => rfl, .inl h⟩
theorem nil_list {w : World} {xs : VL} (h : xs.len = 0) : ListAt w xs (.slice none 0 0) := nil_G h
def intsOf (k : IntKind) (rd : Nat → Option Blk) : SV → Option (List Int)
  | .sl key off len cap => match rd key with
    | some (.cells _ l) => if off + len ≤ l.length ∧ len ≤ cap then ints? k (cut l off len) else none
    | _ => none
  | .val (.slice none 0 0) => some []
  | s => match asVL rd s with
    | some (.int k' l) => if k' = k then some l else none
    | _ => none
theorem sl_list {C E w} {G : Nat → Prop} {fr : Bool} {rd : Nat → Option Blk} (hrd : ∀ k b, rd k = some b → BlkR C E w k b) {key off len cap : Nat} {e : TypeId} {l : List SV} (hk : rd key = some (.cells e l)) (hG : ∀ b n, rd key = some b → E.blk key = some n → G n) (hle : off + len ≤ l.length ∧ len ≤ cap) {xs : VL} (hf : xs.flat = true) (hlen : xs.len = len) (hwd : xs.wd = 1)
    (hat : ∀ i, i < len → xs.at false i = (cut l off len)[i]?.toList) (hpl : (cut l off len).all SV.plain = true) {v : Value} (hs : SV.rel C E w (.sl key off len cap) v) : VecG G w fr xs v := by
  obtain ⟨n, hn, _, vs, hvs, hvr, _⟩ := hrd _ _ hk
  obtain ⟨m, hm, rfl⟩ := hs
  rw [hn] at hm; cases hm
  have hcut := exacts_of_plain hpl ((hvr.drop off).take len)
  refine ⟨_, cap, by rw [hlen], by omega, fun e => (by cases e), .inr ⟨n, off, rfl, hG _ _ hk (by simp [Env.blk, hn]), heap_get_lt hvs, fun i hi => RdX.at hf fun j c hj => ?_⟩⟩
  rw [hlen] at hi
  rw [hat i hi] at hj
  have hil : i < (cut l off len).length := by simp [cut]; omega
  rw [List.getElem?_eq_getElem hil] at hj
  simp only [Option.toList] at hj
  rcases j with _ | j
  · simp only [List.getElem?_cons_zero, Option.some.injEq] at hj
    have h1 : (List.take len (List.drop off vs.toList))[i]? = some c.exact := by
      rw [hcut, List.getElem?_map, List.getElem?_eq_getElem hil]
      simp [hj]
    rw [List.getElem?_take, List.getElem?_drop, if_pos hi] at h1
    rw [hwd]
    simpa [World.cell?, hvs] using h1
  · simp at hj
def ToG (rd : Nat → Option Blk) (s : SV) (xs : VL) : Prop := ∀ (C : Ctx) (E : Env) (w : World) (v : Value) (G : Nat → Prop), (∀ k b, rd k = some b → BlkR C E w k b) → (∀ n, ¬ E.A n → (s.fresh rd = true → E.F n) → G n) → (∀ k ∈ s.keys, ∀ b n, rd k = some b → E.blk k = some n → G n) →
  SV.rel C E w s v → VecG G w false xs v
theorem asVL_to {rd : Nat → Option Blk} {s : SV} {xs : VL} (h : asVL rd s = some xs) : ToG rd s xs := by
  intro C E w v G hrd h1 h2 hv
  unfold asVL at h
  split at h
  · rename_i fr' ys
    cases h
    exact (VecG.mono hv (fun b _ hb => h1 b hb.1 hb.2) (Nat.le_refl _) (fun _ _ _ _ h => h)).flag
  · split at h
    · rename_i k _ e ys hk
      cases h
      obtain ⟨u, hu, hβ, _, hf, ho⟩ := hrd _ _ hk
      have := hv.1
      rw [hu] at this; cases this
      exact own_G hf ho fun n hn => h2 k (by simp [SV.keys]) _ n hk (by simp [Env.blk, hβ, hu, hn])
    · cases h
  · split at h
    · rename_i k wd lo n _ e ys hk
      split at h
      case isFalse => cases h
      rename_i hwd
      cases h
      obtain ⟨u, hu, hβ, _, hf, ho⟩ := hrd _ _ hk
      exact sub_G hf hu ho hwd hv fun n hn => h2 k (by simp [SV.keys]) _ n hk (by simp [Env.blk, hβ, hu, hn])
    · cases h
  · cases h
theorem intsOf_to {k : IntKind} {rd : Nat → Option Blk} {s : SV} {x : List Int} (h : intsOf k rd s = some x) : ToG rd s (.int k x) := by
  unfold intsOf at h
  split at h
  · rename_i key off len cap
    split at h
    · rename_i _ e l hk
      split at h
      · rename_i hle
        intro C E w v G hrd _ h2 hv
        have hx := ints?_spec h
        have hlen : x.length = len := by
          have : (cut l off len).length = len := by simp [cut]; omega
          rw [hx] at this; simpa using this
        refine sl_list hrd hk (fun b n hb hn => h2 key (by simp [SV.keys]) b n hb hn) hle rfl (by simp [VL.len, hlen]) rfl (fun i hi => ?_) (by rw [hx]; simp [SV.plain]) hv
        rw [hx]
        simp [VL.at, hlen, hi, List.getD]
      · cases h
    · cases h
  · cases h; intro C E w v G _ _ _ hv; cases hv; exact nil_G rfl
  · split at h
    · rename_i k' l hl
      split at h
      · rename_i hk; subst hk; cases h
        exact asVL_to hl
      · cases h
    · cases h
theorem ToG.one {rd : Nat → Option Blk} {s : SV} {xs : VL} (h : ToG rd s xs) : ToIn rd (.one false [s]) (fun fr => .one false [.vec fr xs]) := by
  intro C E w v fr G hrd h1 h2 hv
  exact list_G (h C E w v G hrd (fun n hn hf => h1 n hn fun e => hf (by simpa [AV.fresh, AV.cells] using e)) (fun k hk => h2 k (by simpa [AV.keys, AV.cells] using hk)) hv)
def cInts (k : IntKind) : Cod (List Int) where
  enc fr l := .one false [.vec fr (.int k l)]
  dec rd | .one false [s] => intsOf k rd s
         | _ => none
  ok rd a x h := by
    split at h
    · exact (intsOf_to h).one
    · cases h
  weak _ := rfl
structure CC (α : Type) where
  n : Nat
  enc : Bool → α → List SV
  dec : (Nat → Option Blk) → List SV → Option α
  ok : ∀ rd l x, dec rd l = some x → (enc false x).length = l.length ∧ ∀ (i : Nat) (s : SV), l[i]? = some s → ∃ y : Bool → SV, (∀ fr, (enc fr x)[i]? = some (y fr)) ∧ ToIn rd (.one false [s]) (fun fr => .one false [y fr])
  weak : ∀ x, enc false x = (enc true x).map SV.weak
def ccInt (k : IntKind) : CC Int where
  n := 1
  enc _ n := [.int k n]
  dec _ | [.int k' n] => if k' = k then some n else none
        | _ => none
  ok rd l x h := by
    split at h
    · split at h
      · rename_i hk; subst hk; cases h
        refine ⟨rfl, fun i s hs => ?_⟩
        rcases i with _ | i
        · simp only [List.getElem?_cons_zero, Option.some.injEq] at hs; subst hs; exact ⟨_, fun _ => rfl, toIn_plain rfl⟩
        · simp at hs
      · cases h
    · cases h
  weak _ := rfl
def ccBool : CC Bool where
  n := 1
  enc _ b := [.bool b]
  dec _ | [.bool b] => some b
        | _ => none
  ok rd l x h := by
    split at h
    · cases h
      refine ⟨rfl, fun i s hs => ?_⟩
      rcases i with _ | i
      · simp only [List.getElem?_cons_zero, Option.some.injEq] at hs; subst hs; exact ⟨_, fun _ => rfl, toIn_plain rfl⟩
      · simp at hs
    · cases h
  weak _ := rfl
def ccInts (k : IntKind) : CC (List Int) where
  n := 1
  enc fr l := [.vec fr (.int k l)]
  dec rd | [s] => intsOf k rd s
         | _ => none
  ok rd l x h := by
    split at h
    · refine ⟨rfl, fun i s hs => ?_⟩
      rcases i with _ | i
      · simp only [List.getElem?_cons_zero, Option.some.injEq] at hs; subst hs; exact ⟨_, fun _ => rfl, (intsOf_to h).one⟩
      · simp at hs
    · cases h
  weak _ := rfl
def ccCons {α β : Type} (a : CC α) (b : CC β) : CC (α × β) where
  n := a.n + b.n
  enc fr x := a.enc fr x.1 ++ b.enc fr x.2
  dec rd l := match a.dec rd (l.take a.n), b.dec rd (l.drop a.n) with
    | some x, some y => some (x, y)
    | _, _ => none
  ok rd l x h := by
    split at h
    · rename_i x y hx hy
      cases h
      obtain ⟨h1, h2⟩ := a.ok _ _ _ hx
      obtain ⟨h3, h4⟩ := b.ok _ _ _ hy
      have hl : (l.take a.n).length + (l.drop a.n).length = l.length := by rw [← List.length_append, List.take_append_drop]
      have hlen : ∀ fr, (a.enc fr x).length = (l.take a.n).length := by
        intro fr
        cases fr with
        | false => exact h1
        | true => rw [← h1, a.weak x]; simp
      refine ⟨by simp only [List.length_append, h1, h3]; exact hl, fun i s hs => ?_⟩
      by_cases hi : i < (l.take a.n).length
      · have hs' : (l.take a.n)[i]? = some s := by
          have : i < a.n := by simp at hi; omega
          rw [List.getElem?_take, if_pos this]; exact hs
        obtain ⟨y, e1, e2⟩ := h2 i s hs'
        exact ⟨y, fun fr => by rw [List.getElem?_append_left (by rw [hlen]; exact hi)]; exact e1 fr, e2⟩
      · have hil := list_get_lt hs
        have hs' : (l.drop a.n)[i - (l.take a.n).length]? = some s := by
          rw [List.getElem?_drop]
          have : a.n + (i - (l.take a.n).length) = i := by simp at hi ⊢; omega
          rw [this]; exact hs
        obtain ⟨y, e1, e2⟩ := h4 _ s hs'
        exact ⟨y, fun fr => by rw [List.getElem?_append_right (by rw [hlen]; omega), hlen]; exact e1 fr, e2⟩
    · cases h
  weak x := by simp only [a.weak, b.weak, List.map_append]
def ccMap {α β : Type} (c : CC α) (to : α → β) (of : β → α) (h : ∀ x, of (to x) = x) : CC β where
  n := c.n
  enc fr x := c.enc fr (of x)
  dec rd l := (c.dec rd l).map to
  ok rd l x hx := by
    simp only [Option.map_eq_some_iff] at hx
    obtain ⟨y, hy, rfl⟩ := hx
    simp only [h]
    exact c.ok rd l y hy
  weak x := c.weak _
def cStruct {α : Type} (c : CC α) : Cod α where
  enc fr x := .one true (c.enc fr x)
  dec rd | .one true l => c.dec rd l
         | _ => none
  ok rd a x h := by
    split at h
    · rename_i l
      obtain ⟨h1, h2⟩ := c.ok _ _ _ h
      have hlen : ∀ fr, (c.enc fr x).length = l.length := by
        intro fr
        cases fr with
        | false => exact h1
        | true => rw [← h1, c.weak x]; simp
      intro C E w v fr G hrd e1 e2 hv C' E' hE
      obtain ⟨vs, rfl, hr⟩ := hv
      refine ⟨vs, rfl, (hlen fr).trans hr.1, fun i s u hs hu => ?_⟩
      have hil : i < l.length := by have := list_get_lt hs; rw [hlen] at this; exact this
      obtain ⟨y, hy, ht⟩ := h2 i l[i] (List.getElem?_eq_getElem hil)
      rw [hy fr] at hs
      cases hs
      have hm : l[i] ∈ l := List.getElem_mem hil
      exact ht C E w u fr G hrd (fun n hn hf => e1 n hn fun e => hf (by
          have := List.all_eq_true.1 e l[i] hm
          simpa [AV.fresh, AV.cells] using this))
        (fun k hk => e2 k (by
          simp only [AV.keys, AV.cells, List.map_cons, List.map_nil, List.flatten_cons, List.flatten_nil, List.append_nil] at hk
          simp only [AV.keys, AV.cells, List.mem_flatten, List.mem_map]
          exact ⟨_, ⟨l[i], hm, rfl⟩, hk⟩))
        (hr.2 i l[i] u (List.getElem?_eq_getElem hil) hu) C' E' hE
    · cases h
  weak x := by simp only [AV.weak, c.weak]
def sumOf {α : Type} (A : ACod α) (pre : α → Bool) (r : α → AV) : Summ where
  pre args rd := match A.dec rd args with
    | some x => pre x
    | none => false
  fn args rd := match A.dec rd args with
    | some x => some (r x)
    | none => none
def sumT {α : Type} (A : ACod α) (r : α → AV) : Summ := sumOf A (fun _ => true) r
theorem args_in {α : Type} {A : ACod α} {rd : Nat → Option Blk} {args : List AV} {x : α} (hx : A.dec rd args = some x) {C E w} {vs : Array Value} (hrd : ∀ k b, rd k = some b → BlkR C E w k b) (hargs : AllR (AV.rel C E w) args vs.toList) (fr : Bool) (G : Nat → Prop)
    (h1 : ∀ n, ¬ E.A n → ((args.all fun a => a.fresh rd) = true → E.F n) → G n) (h2 : ∀ a ∈ args, ∀ k ∈ a.keys, ∀ b n, rd k = some b → E.blk k = some n → G n) : AllR (InG fr G w) (A.enc fr x) vs.toList := by
  obtain ⟨ha, hb⟩ := A.ok _ _ _ hx
  have hlen : (A.enc fr x).length = args.length := by cases fr; exact ha; rw [A.len]; exact ha
  refine ⟨hlen.trans hargs.1, fun i y v hy hv => ?_⟩
  have hil : i < args.length := by have := list_get_lt hy; omega
  obtain ⟨z, hz, ht⟩ := hb i args[i] (List.getElem?_eq_getElem hil)
  rw [hz fr] at hy
  cases hy
  have hm : args[i] ∈ args := List.getElem_mem hil
  exact ht C E w v fr G hrd (fun n hn hf => h1 n hn fun e => hf (List.all_eq_true.1 e _ hm)) (fun k hk => h2 _ hm k hk) (hargs.2 i args[i] v (List.getElem?_eq_getElem hil) hv)
theorem good_sum {α : Type} {A : ACod α} {pre : α → Bool} {r : α → AV} {f : FuncId} (hc : callable P f) (h : ∀ x, pre x = true → ∀ w vs, ArgsR (A.enc false x) w vs → Calls P f vs w (Ans (r x) w)) : GoodF P f (sumOf A pre r) := by
  refine ⟨hc, fun C E w args vs rd z hpre hfn hargs hrd hF hA => ?_⟩
  simp only [sumOf] at hpre hfn
  split at hfn
  · rename_i x hx
    rw [hx] at hpre
    cases hfn
    have hin : ArgsR (A.enc false x) w vs := args_in hx hrd hargs false _ (fun _ _ _ => trivial) (fun _ _ _ _ _ _ _ _ => trivial)
    simp only [Array.empty_append, Array.append_empty]
    refine (h x hpre w vs hin).mono ?_
    rintro e w' ⟨v, rfl, hv, hb⟩
    exact ⟨v, rfl, hv C E (fun n hn => ⟨fun hA' => by have := hA n hA'; omega, fun _ => hF n hn⟩), hb⟩
  · cases hfn
theorem good_sumT {α : Type} {A : ACod α} {r : α → AV} {f : FuncId} (hc : callable P f) (h : ∀ x w vs, ArgsR (A.enc false x) w vs → Calls P f vs w (Ans (r x) w)) : GoodF P f (sumT A r) :=
  good_sum hc fun x _ w vs hp => h x w vs hp
theorem ext_sum {α : Type} {A : ACod α} {pre : α → Bool} {r : α → AV} {f : FuncId} {fn : Func} {e : Array Value → Sem Value} (hf : P.funcs[f]? = some fn) (hname : (fn.name == "runtime.NumGoroutine") = false)
    (hb : fn.body.isNone = true) (hn : Extern.findNext fn = none) (he : Extern.find fn = some e)
    (h : ∀ x, pre x = true → ∀ w vs, ArgsR (A.enc false x) w vs → (e vs).run P w = .ok (r x).toV w) (hp : ∀ x, (r x).plain = true) : ExtF P f (sumOf A pre r) := by
  intro C E w args vs rd z hpre hfn hargs hrd
  simp only [sumOf] at hpre hfn
  split at hfn
  · rename_i x hx
    rw [hx] at hpre
    cases hfn
    refine ⟨(r x).toV, ?_, AV.rel_toV (hp x)⟩
    rw [run_callFunc_extern hf hname hb hn he]
    have hin : ArgsR (A.enc false x) w vs := args_in hx hrd hargs false _ (fun _ _ _ => trivial) (fun _ _ _ _ _ _ _ _ => trivial)
    rw [h x hpre w vs hin]
    rfl
  · cases hfn
theorem callable_of {f : FuncId} {fn : Func} (hf : P.funcs[f]? = some fn) (hn : (fn.name == "runtime.NumGoroutine") = false) (hb : fn.body.isNone = false) : callable P f := ⟨fn, hf, hn, hb⟩
end Go.Ev
namespace Go.Ev
open Go.RowKit
variable {P : Program} {C : Ctx} {B : Nat} {w0 : World}
def cFn (f : FuncId) : Cod Unit where
  enc _ _ := .one false [.clo f []]
  dec _ | .one false [.clo g []] => cond (Nat.beq g f) (some ()) none
        | _ => none
  ok rd a x h := by
    split at h
    · rename_i g
      cases hb : Nat.beq g f with
      | false => rw [hb] at h; cases h
      | true =>
        have := Nat.eq_of_beq_eq_true hb
        subst this
        intro C E w v fr G _ _ _ hv C' E' _
        obtain ⟨ns, hns, rfl⟩ := hv
        have : ns = [] := by simpa using hns.symm
        subst this
        exact ⟨[], rfl, rfl⟩
    · cases h
  weak _ := rfl
def orS (a b : Summ) : Summ where
  pre args rd := match a.fn args rd with
    | some _ => a.pre args rd
    | none => b.pre args rd
  fn args rd := match a.fn args rd with
    | some r => some r
    | none => b.fn args rd
theorem good_or {f : FuncId} {a b : Summ} (ha : GoodF P f a) (hb : GoodF P f b) : GoodF P f (orS a b) := by
  refine ⟨ha.1, fun C E w args vs rd r hpre hfn => ?_⟩
  simp only [orS] at hpre hfn
  split at hfn
  · rename_i x hx
    rw [hx] at hpre
    cases hfn
    exact ha.2 C E w args vs rd r hpre hx
  · rename_i hx
    rw [hx] at hpre
    exact hb.2 C E w args vs rd r hpre hfn
theorem sl_listR {E w} {G : Nat → Prop} {rd : Nat → Option Blk} (hrd : ∀ k b, rd k = some b → BlkR C E w k b) {key off len cap : Nat} {e : TypeId} {l : List SV} (hk : rd key = some (.cells e l)) (hG : ∀ b n, rd key = some b → E.blk key = some n → G n) {xs : VL} (hlen : xs.len = len) (hc : len ≤ cap)
    (hat : ∀ i, i < len → ∀ j c, (xs.at false i)[j]? = some c → ∃ s, l[off + i * xs.wd + j]? = some s ∧ ∀ u, SV.rel C E w s u → CellIn G w c u) {v : Value} (hs : SV.rel C E w (.sl key off len cap) v) {fr : Bool} : VecG G w fr xs v := by
  obtain ⟨n, hn, _, vs, hvs, hvr, _⟩ := hrd _ _ hk
  obtain ⟨m, hm, rfl⟩ := hs
  rw [hn] at hm; cases hm
  refine ⟨_, cap, by rw [hlen], by omega, fun e => (by cases e), .inr ⟨n, off, rfl, hG _ _ hk (by simp [Env.blk, hn]), heap_get_lt hvs, fun i hi => at_flag (fr := false) fun j c hj => ?_⟩⟩
  rw [hlen] at hi
  obtain ⟨s, h1, h2⟩ := hat i hi j c hj
  obtain ⟨u, hu, hr⟩ := hvr.get h1
  exact ⟨u, by simpa [World.cell?, hvs, Nat.add_assoc] using hu, h2 u hr⟩
def cellCv (_rd : Nat → Option Blk) : Ct → SV → Option Cv
  | .int k, .int k' n => if k' = k then some (.i n) else none
  | .bool, .bool b => some (.b b)
  | .ints k, .vec _ (.int k' l) => if k' = k then some (.l l) else none
  | .ints _, .val (.slice none 0 0) => some (.l [])
  | _, _ => none
def rowCv (rd : Nat → Option Blk) : List Ct → List SV → Option (List Cv)
  | [], _ => some []
  | c :: cs, s :: ss => match cellCv rd c s, rowCv rd cs ss with
    | some x, some r => some (x :: r)
    | _, _ => none
  | _ :: _, [] => none
def rowsCv (rd : Nat → Option Blk) (ks : List Ct) : Nat → List SV → Option (List (List Cv))
  | 0, _ => some []
  | n + 1, l => match rowCv rd ks l, rowsCv rd ks n (l.drop ks.length) with
    | some x, some r => some (x :: r)
    | _, _ => none
def rowsOf (ks : List Ct) (rd : Nat → Option Blk) : SV → Option (List (List Cv))
  | .sl key off len cap => match rd key with
    | some (.cells _ l) => if len ≤ cap then rowsCv rd ks len (l.drop off) else none
    | _ => none
  | .val (.slice none 0 0) => some []
  | .vec _ (.row ks' l) => if ks' = ks then some l else none
  | _ => none
def CellTo (rd : Nat → Option Blk) (c s : SV) : Prop := ∀ (C : Ctx) (E : Env) (w : World) (G : Nat → Prop), (∀ n, ¬ E.A n → (s.fresh rd = true → E.F n) → G n) → ∀ u, SV.rel C E w s u → CellIn G w c u
theorem VecG.in {G : Nat → Prop} {w : World} {fr : Bool} {xs : VL} {v : Value} (hf : xs.flat = true) (h : VecG G w fr xs v) : VecIn G w xs v := by
  obtain ⟨a, cap, rfl, h1, h2, h3⟩ := h
  exact ⟨hf, a, cap, rfl, h1, h2, h3.imp id fun ⟨b, off, e1, e2, e3, e4⟩ => ⟨b, off, e1, e2, e3, fun i hi => (e4 i hi).x hf⟩⟩
theorem rowCv_spec {rd : Nat → Option Blk} : ∀ {ks : List Ct} {l : List SV} {r : List Cv}, rowCv rd ks l = some r → ∀ (j : Nat) (c : SV), (rowCells false ks r)[j]? = some c → ∃ s : SV, l[j]? = some s ∧ CellTo rd c s
  | [], l, r, h, j, c, hj => by simp [rowCells] at hj
  | _ :: _, [], r, h, j, c, hj => by cases h
  | k :: ks, s :: ss, r, h, j, c, hj => by
    simp only [rowCv] at h
    split at h
    · rename_i x r' hx hr
      cases h
      rcases j with _ | j
      · refine ⟨s, rfl, ?_⟩
        unfold cellCv at hx
        split at hx
        · split at hx
          · rename_i hk; subst hk; cases hx
            simp only [rowCells, List.getElem?_cons_zero, Option.some.injEq] at hj; subst hj
            exact fun C E w G _ u hu => hu
          · cases hx
        · cases hx
          simp only [rowCells, List.getElem?_cons_zero, Option.some.injEq] at hj; subst hj
          exact fun C E w G _ u hu => hu
        · split at hx
          · rename_i hk; subst hk; cases hx
            simp only [rowCells, List.getElem?_cons_zero, Option.some.injEq] at hj; subst hj
            intro C E w G hG u hu
            exact VecG.in (fr := false) rfl (VecG.mono hu (fun b _ hb => hG b hb.1 hb.2) (Nat.le_refl _) (fun _ _ _ _ h => h)).flag
          · cases hx
        · cases hx
          simp only [rowCells, List.getElem?_cons_zero, Option.some.injEq] at hj; subst hj
          intro C E w G hG u hu
          cases hu
          exact VecG.in (fr := false) rfl (nil_G rfl)
        · cases hx
      · have hj' : (rowCells false ks r')[j]? = some c := by cases k <;> simpa only [rowCells, List.getElem?_cons_succ, List.tail_cons] using hj
        obtain ⟨s', h1, h2⟩ := rowCv_spec hr j c hj'
        exact ⟨s', by simpa using h1, h2⟩
    · cases h
theorem rowsCv_spec {rd : Nat → Option Blk} {ks : List Ct} : ∀ {n : Nat} {l : List SV} {rs : List (List Cv)}, rowsCv rd ks n l = some rs → rs.length = n ∧ ∀ i, i < n → ∀ (j : Nat) (c : SV), (rowCells false ks (rs.getD i []))[j]? = some c → ∃ s : SV, l[i * ks.length + j]? = some s ∧ CellTo rd c s
  | 0, l, rs, h => by cases h; exact ⟨rfl, fun i hi => by omega⟩
  | n + 1, l, rs, h => by
    simp only [rowsCv] at h
    split at h
    · rename_i x r hx hr
      cases h
      obtain ⟨h1, h2⟩ := rowsCv_spec hr
      refine ⟨by simp [h1], fun i hi j c hj => ?_⟩
      rcases i with _ | i
      · simpa using rowCv_spec hx j c (by simpa using hj)
      · obtain ⟨s, h3, h4⟩ := h2 i (by omega) j c (by simpa using hj)
        rw [List.getElem?_drop] at h3
        exact ⟨s, by rw [Nat.add_mul, Nat.one_mul, Nat.add_comm _ ks.length, Nat.add_assoc]; exact h3, h4⟩
    · cases h
theorem rowsOf_to {ks : List Ct} {rd : Nat → Option Blk} {s : SV} {x : List (List Cv)} (h : rowsOf ks rd s = some x) : ToG rd s (.row ks x) := by
  unfold rowsOf at h
  split at h
  · rename_i key off len cap
    split at h
    · rename_i _ e l hk
      split at h
      · rename_i hle
        obtain ⟨h1, h2⟩ := rowsCv_spec h
        intro C E w v G hrd e1 e2 hv
        refine sl_listR hrd hk (fun b n hb hn => e2 key (by simp [SV.keys]) b n hb hn) (by simp [VL.len, h1]) hle (fun i hi j c hj => ?_) hv
        obtain ⟨s, h3, h4⟩ := h2 i hi j c hj
        rw [List.getElem?_drop] at h3
        refine ⟨s, by rw [Nat.add_assoc]; exact h3, fun u hu => h4 C E w G (fun n hn hf => e1 n hn fun e => hf ?_) u hu⟩
        simp only [SV.fresh, hk] at e
        have := List.all_eq_true.1 e s (List.mem_of_getElem? h3)
        cases s <;> first | exact this | rfl | simp [SV.plain] at this
      · cases h
    · cases h
  · cases h; intro C E w v G _ _ _ hv; cases hv; exact nil_G rfl
  · rename_i fr' ks' l
    split at h
    · rename_i hk; subst hk; cases h
      intro C E w v G hrd h1 h2 hv
      exact (VecG.mono hv (fun b _ hb => h1 b hb.1 hb.2) (Nat.le_refl _) (fun _ _ _ _ h => h)).flag
    · cases h
  · cases h
def cRows {α : Type} (ks : List Ct) (to : List (List Cv) → α) (of : α → List (List Cv)) (hto : ∀ x, of (to x) = x) : Cod α where
  enc fr x := .one false [.vec fr (.row ks (of x))]
  dec rd | .one false [s] => (rowsOf ks rd s).map to
         | _ => none
  ok rd a x h := by
    split at h
    · simp only [Option.map_eq_some_iff] at h
      obtain ⟨y, hy, rfl⟩ := h
      simp only [hto]
      exact (rowsOf_to hy).one
    · cases h
  weak _ := rfl
def to0 {α : Type} (_ : Unit) : List α := []
def of0 {α : Type} : List α → Option Unit
  | [] => some ()
  | _ => none
theorem l0 {α : Type} (l : List α) (x : Unit) (h : of0 l = some x) : to0 x = l := by
  unfold of0 at h; split at h
  · rfl
  · cases h
def to1 {α : Type} (x : α) : List α := [x]
def of1 {α : Type} : List α → Option α
  | [x] => some x
  | _ => none
theorem l1 {α : Type} (l : List α) (x : α) (h : of1 l = some x) : to1 x = l := by
  unfold of1 at h; split at h
  · cases h; rfl
  · cases h
def to2 {α : Type} (x : α × α) : List α := [x.1, x.2]
def of2 {α : Type} : List α → Option (α × α)
  | [x, y] => some (x, y)
  | _ => none
theorem l2 {α : Type} (l : List α) (x : α × α) (h : of2 l = some x) : to2 x = l := by
  unfold of2 at h; split at h
  · cases h; rfl
  · cases h
def to3 {α : Type} (x : α × α × α) : List α := [x.1, x.2.1, x.2.2]
def of3 {α : Type} : List α → Option (α × α × α)
  | [x, y, z] => some (x, y, z)
  | _ => none
theorem l3 {α : Type} (l : List α) (x : α × α × α) (h : of3 l = some x) : to3 x = l := by
  unfold of3 at h; split at h
  · cases h; rfl
  · cases h
def to4 {α : Type} (x : α × α × α × α) : List α := [x.1, x.2.1, x.2.2.1, x.2.2.2]
def of4 {α : Type} : List α → Option (α × α × α × α)
  | [x, y, z, u] => some (x, y, z, u)
  | _ => none
theorem l4 {α : Type} (l : List α) (x : α × α × α × α) (h : of4 l = some x) : to4 x = l := by
  unfold of4 at h; split at h
  · cases h; rfl
  · cases h
def keysOf : List AV → List Nat
  | [] => []
  | a :: r => a.keys ++ keysOf r
def aliasW {α : Type} (A : ACod α) (pre : α → Bool) (r : α → AV) : WSumm where
  pre args rd := match A.dec rd args with
    | some x => pre x
    | none => false
  fn args rd _ := match A.dec rd args with
    | some x => cond ((keysOf args).all fun k => (rd k).isSome) (some (cond (args.all (AV.fresh rd)) (r x) (r x).weak, (keysOf args).map fun k => (k, none))) none
    | none => none
theorem mem_keysOf {k : Nat} : ∀ {l : List AV} {a}, a ∈ l → k ∈ a.keys → k ∈ keysOf l
  | b :: l, a, h, hk => by
    rcases List.mem_cons.1 h with rfl | h
    · simp [keysOf, hk]
    · simp [keysOf, mem_keysOf h hk]
theorem chg_kills_get : ∀ {ks : List Nat} {h : List (Option (Option Blk))} {k : Nat}, (chg (ks.map fun k => (k, none)) h)[k]? = if k ∈ ks ∧ k < h.length then some (some none) else h[k]?
  | [], h, k => by simp [chg]
  | a :: ks, h, k => by
    simp only [List.map_cons, chg]
    rw [chg_kills_get]
    simp only [List.length_set, List.mem_cons]
    by_cases hk : k ∈ ks ∧ k < h.length
    · rw [if_pos hk, if_pos ⟨.inr hk.1, hk.2⟩]
    · rw [if_neg hk, List.getElem?_set]
      by_cases e : a = k
      · subst e
        rw [if_pos rfl]
        by_cases hl : a < h.length
        · rw [if_pos hl, if_pos ⟨.inl rfl, hl⟩]
        · rw [if_neg hl, if_neg (fun h => hl h.2), List.getElem?_eq_none (by omega)]
      · rw [if_neg e, if_neg]
        rintro ⟨h1 | h1, h2⟩
        · exact e h1.symm
        · exact hk ⟨h1, h2⟩
theorem Rel.frees {E s a w} (h : Rel C B w0 E s a w) (ks : List Nat) (hks : ∀ k ∈ ks, ∃ b, s.heap[k]? = some (some (some b))) :
    Rel C B w0 { E with A := fun n => E.A n ∧ ∀ k ∈ ks, E.blk k ≠ some n } { s with heap := chg (ks.map fun k => (k, none)) s.heap } a w := by
  have hext : ExtE E { E with A := fun n => E.A n ∧ ∀ k ∈ ks, E.blk k ≠ some n } w w := ⟨fun _ _ h => h, fun _ _ h => h, fun _ _ h => h.1, fun _ _ _ h => h, Nat.le_refl _, fun _ _ _ _ h => h⟩
  have hget : ∀ k b, (chg (ks.map fun k => (k, none)) s.heap)[k]? = some (some (some b)) → k ∉ ks ∧ s.heap[k]? = some (some (some b)) := by
    intro k b hk
    rw [chg_kills_get] at hk
    split at hk
    · cases hk
    · rename_i hn
      exact ⟨fun hm => hn ⟨hm, list_get_lt hk⟩, hk⟩
  refine { slots := h.slots.mono fun _ _ _ hr => AV.rel_map hr fun _ _ hs => SV.rel_ext hs hext, defers := h.defers, heap := ?_, free := ?_, lo := fun n hn => h.lo n hn.1, inj := ?_, below := h.below, base := h.base, ok := h.ok.to rfl rfl fun _ h => h }
  · intro k b hk
    obtain ⟨hkn, hk'⟩ := hget k b hk
    have hb := h.heap k b hk'
    have hne : ∀ n, E.blk k = some n → ∀ j ∈ ks, E.blk j ≠ some n := by
      intro n hn j hj e
      obtain ⟨b', hb'⟩ := hks j hj
      exact hkn (h.inj k j _ _ n hk' hb' hn e ▸ hj)
    cases b with
    | cells e l =>
      obtain ⟨m, hm, hA, vs, hvs, hvr, h1⟩ := hb
      exact ⟨m, hm, ⟨hA, hne m (by simp [Env.blk, hm])⟩, vs, hvs, hvr.mono fun _ _ _ hs => SV.rel_ext hs hext, h1⟩
    | grow e xs =>
      obtain ⟨v, hv, hβ, hA, hf, ho⟩ := hb
      exact ⟨v, hv, hβ, fun n hn => ⟨hA n hn, hne n (by simp [Env.blk, hβ, hv, hn])⟩, hf, ho⟩
  · intro k hk
    refine h.free k ?_
    rw [chg_kills_get] at hk
    split at hk
    · rcases hk with hk | hk <;> cases hk
    · exact hk
  · intro k k' b b' n h1 h2 e1 e2
    exact h.inj k k' b b' n (hget k b h1).2 (hget k' b' h2).2 e1 e2
theorem good_alias {α : Type} {A : ACod α} {pre : α → Bool} {r : α → AV} {f : FuncId} (hc : callable P f) (h : ∀ x, pre x = true → ∀ w (F : Nat → Prop), (∀ n, w.heap.size ≤ n → F n) → ∀ vs, ArgsF F (A.enc true x) w vs → Calls P f vs w (AnsF F (r x) w)) : GoodW P f (aliasW A pre r) := by
  refine ⟨hc, fun C B w0 E s a w al args vs z ch _ hpre hfn _ _ hR hargs => ?_⟩
  simp only [aliasW] at hpre hfn
  split at hfn
  · rename_i x hx
    rw [hx] at hpre
    cases hch : (keysOf args).all fun k => (s.rd al k).isSome with
    | false => rw [hch] at hfn; cases hfn
    | true =>
    rw [hch] at hfn
    cases hfn
    have hks : ∀ k ∈ keysOf args, ∃ b, s.heap[k]? = some (some (some b)) := by
      intro k hk
      have := List.all_eq_true.1 hch k hk
      obtain ⟨b, hb⟩ := Option.isSome_iff_exists.1 this
      exact ⟨b, rd_heap hb⟩
    have hfree := hR.frees (keysOf args) hks
    have hAF : ∀ n, E.A n → E.F n := fun n hn => by
      rcases (hR.lo n hn).1 with h1 | h1
      · exact hR.ok.F n h1
      · exact hR.ok.X n h1
    let F : Nat → Prop := fun n => w.heap.size ≤ n ∨ (¬ (E.A n ∧ ∀ k ∈ keysOf args, E.blk k ≠ some n) ∧ ((args.all (AV.fresh (s.rd al))) = true → E.F n))
    have hin : ArgsF F (A.enc true x) w vs := args_in hx (rd_rel hR al) hargs true F
      (fun n hn hf => .inr ⟨fun h => hn h.1, hf⟩)
      (fun a ha k hk b n hb hn => .inr ⟨fun h => h.2 k (mem_keysOf ha hk) hn, fun _ => hAF n (hR.blkA (rd_heap hb) hn)⟩)
    refine (h x hpre w F (fun n hn => .inl hn) vs hin).mono ?_
    rintro e w' ⟨v, rfl, hv, hb⟩
    refine ⟨v, _, rfl, hfree.world hb, ?_⟩
    have hG : ∀ fr : Bool, (fr = true → args.all (AV.fresh (s.rd al)) = true) → ∀ n, F n → ({ E with A := fun n => E.A n ∧ ∀ k ∈ keysOf args, E.blk k ≠ some n } : Env).G fr n := by
      rintro fr hfr n (hn | hn)
      · exact ⟨fun hA => by have := (hR.lo n hA.1).2; omega, fun _ => hR.ok.F n (Nat.le_trans hR.base hn)⟩
      · exact ⟨hn.1, fun e => hn.2 (hfr e)⟩
    cases hfr : args.all (AV.fresh (s.rd al)) with
    | true => exact hv C _ (hG true fun _ => hfr)
    | false => exact hv.weak C _ (hG false fun e => by cases e)
  · cases hfn
def lentOf (rd : Nat → Option Blk) : SV → Option (Nat × TypeId × VL × Nat × Nat)
  | .own k => match rd k with
    | some (.grow e xs) => some (k, e, xs, 0, xs.len)
    | _ => none
  | .sub k wd lo len => match rd k with
    | some (.grow e xs) => if xs.wd = wd then some (k, e, xs, lo, len) else none
    | _ => none
  | _ => none
def butKey (k : Nat) (rd : Nat → Option Blk) : Nat → Option Blk := fun j => cond (Nat.beq j k) none (rd j)
def lentW {α : Type} (k : IntKind) (e : TypeId) (A : ACod α) (pre : List Int → Nat → Nat → α → Bool) (r : List Int → Nat → Nat → α → AV) (g : List Int → Nat → Nat → α → List Int) : WSumm where
  pre args rd := match args with
    | .one false [s] :: rest => match lentOf rd s with
      | some (key, _, .int _ xs, lo, len) => match A.dec (butKey key rd) rest with
        | some x => pre xs lo len x
        | none => false
      | _ => false
    | _ => false
  fn args rd _ := match args with
    | .one false [s] :: rest => match lentOf rd s with
      | some (key, e', .int k' xs, lo, len) => match A.dec (butKey key rd) rest with
        | some x => cond (decide (k' = k) && Nat.beq e' e) (some (r xs lo len x, [(key, some (.grow e (.int k (g xs lo len x))))])) none
        | none => none
      | _ => none
    | _ => none
def LentR (k : IntKind) (e : TypeId) (v0 : Value) (r : AV) (ys : List Int) (w : World) : Ending → World → Prop := fun ed w' => ed = .returned r.toV ∧ r.plain = true ∧ w'.ownsRow 0 e 1 v0 ys.length (VL.int k ys).vals ∧ BelowX (fun n => v0.ownBlock = some n) w.heap.size w w'
def LentA (v0 : Value) (lo len : Nat) (args : List AV) (w : World) (vs : Array Value) : Prop := ∀ C, AllR (AV.rel C (EB (fun n => v0.ownBlock = some n) v0) w) (.one false [.sub 0 1 lo len] :: args) vs.toList
theorem contractB (hm : P.follows .mixedOrders = true) {T : Tab} (hT : AllGood P T) {f : FuncId} {fn : Func} (hf : P.funcs[f]? = some fn) {L : Loops} {u : Nat} (hL : ∀ v0 B w0 c, fn.body = some c → LoopsOK P (mkB T v0) B w0 L (loopsIn c))
    {args : List AV} {e : TypeId} {k : IntKind} {xs : List Int} {lo len : Nat} {ρ : Type} {enc : ρ → AV} {t : Tr (ρ × List Int)} (hs : t.safe = true) (h : ∀ v0 Q, evFB P (mkB T v0) L u fn (.one false [.sub 0 1 lo len] :: args) e (.int k xs) Q = t.prop fun x => Q (enc x.1) (.int k x.2))
    (w : World) (v0 : Value) (ho : w.ownsRow 0 e 1 v0 xs.length (VL.int k xs).vals) (vs : Array Value) (hp : LentA v0 lo len args w vs) : Calls P f vs w (LentR k e v0 (enc t.val.1) t.val.2 w) := by
  refine (calls_of_evFB hm (mkB_ok hT v0) rfl rfl rfl hf (fun c hc => hL v0 _ _ c hc) (hp _) (xs := .int k xs) rfl ho (Q := fun r ys => r = enc t.val.1 ∧ ys = .int k t.val.2) (by rw [h]; exact Tr.prop_val hs ⟨rfl, rfl⟩)).mono ?_
  rintro ed w' ⟨r, ys, ⟨rfl, rfl⟩, h1, h2, h3, h4⟩
  exact ⟨h1, h2, h3.2, h4⟩
theorem Rel.regrow {E s a w w'} (h : Rel C B w0 E s a w) {k : Nat} {e e' : TypeId} {xs ys : VL} {v : Value} (hk : s.heap[k]? = some (some (some (.grow e' xs)))) (hv : E.σ k = some v) (hf : ys.flat = true) (ho : w'.ownsRow 0 e ys.wd v ys.len ys.vals) (hb : BelowX (fun n => v.ownBlock = some n) w.heap.size w w') :
    Rel C B w0 E { s with heap := s.heap.set k (some (some (.grow e ys))) } a w' := by
  obtain ⟨v', hv', hβ, hA, _⟩ := h.heap k _ hk
  rw [hv] at hv'; cases hv'
  have hgr : w.grownBy w' v.ownBlock := ⟨hb.os, hb.tape, hb.output, hb.size, fun n hn hne => hb.block n hn (fun e => hne e.symm)⟩
  have hblkk : ∀ n, E.blk k = some n ↔ v.ownBlock = some n := fun n => by simp [Env.blk, hβ, hv]
  have hext : ∀ x u, SV.rel C E w x u → SV.rel C E w' x u := fun x u hx => SV.rel_ext hx ⟨fun _ _ h => h, fun _ _ h => h, fun _ _ h => h, fun _ _ _ h => h, hgr.size, fun b o u hb' hc => by
    rw [cell_heap (hgr.block b (cell_lt hc) (fun e => hb' (hA b e.symm)))]; exact hc⟩
  have := h.lay (w' := w') (E' := E) (k := k) (b := .grow e ys) (x := undefA) (u := undef) none (list_get_lt hk) hext ?_ ⟨v, hv, hβ, hA, hf, ho⟩ (fun _ _ h => h) (fun m hm => ⟨(h.lo m hm).1, Nat.lt_of_lt_of_le (h.lo m hm).2 hgr.size⟩) ?_
    (h.below.grown hgr h.base (fun n hn => (h.lo n (hA n hn)).1)) (Nat.le_trans h.base hgr.size) (h.ok.to rfl rfl fun _ h => h) (undef_rel C E _)
  · exact this
  · intro k' b' hne hk' hbl
    have hne' : ∀ g, v.ownBlock = some g → E.blk k' ≠ some g := fun g hg e => hne (h.inj k' k _ _ g hk' hk e ((hblkk g).2 hg))
    cases b' with
    | cells e' l' =>
      obtain ⟨m, hm, hA', us, hu, hr', h1'⟩ := hbl
      exact ⟨m, hm, hA', us, by rw [hgr.block m (heap_get_lt hu) (fun e => hne' m e.symm (by simp [Env.blk, hm]))]; exact hu, hr'.mono fun _ _ _ => hext _ _, h1'⟩
    | grow e' zs =>
      obtain ⟨u, hu, hβ', hA', hfl', ho'⟩ := hbl
      refine ⟨u, hu, hβ', hA', hfl', ho'.kept hgr ?_⟩
      cases hub : u.ownBlock with
      | none => exact .inl rfl
      | some m => exact .inr fun e => hne' m e.symm (by simp [Env.blk, hβ', hu, hub])
  · intro k' b' m hne hk' hm
    exact ⟨hm, fun e => hne (h.inj k' k _ _ m hk' hk hm e)⟩
theorem good_lent {α : Type} {k : IntKind} {e : TypeId} {A : ACod α} {pre : List Int → Nat → Nat → α → Bool} {r : List Int → Nat → Nat → α → AV} {g : List Int → Nat → Nat → α → List Int} {f : FuncId} (hc : callable P f)
    (h : ∀ xs lo len x, pre xs lo len x = true → lo + len ≤ xs.length → ∀ w v0 vs, w.ownsRow 0 e 1 v0 xs.length (VL.int k xs).vals → LentA v0 lo len (A.enc false x) w vs → Calls P f vs w (LentR k e v0 (r xs lo len x) (g xs lo len x) w)) : GoodW P f (lentW k e A pre r g) := by
  refine ⟨hc, fun C B w0 E s a w al args vs z ch _ hpre hfn _ _ hR hargs => ?_⟩
  simp only [lentW] at hpre hfn
  split at hfn
  case h_2 => cases hfn
  rename_i s0 rest
  split at hfn
  case h_2 => cases hfn
  rename_i key e' k' xs lo len hlent
  split at hfn
  case h_2 => cases hfn
  rename_i x hx
  cases hcond : (decide (k' = k) && Nat.beq e' e) with
  | false => rw [hcond] at hfn; cases hfn
  | true =>
  rw [hcond] at hfn
  simp only [Bool.and_eq_true, decide_eq_true_eq] at hcond
  obtain ⟨hkk, hee⟩ := hcond
  have hee := Nat.eq_of_beq_eq_true hee
  subst hkk hee
  simp only [hlent, hx] at hpre
  cases hfn
  obtain ⟨u0, us', hus, hu0, hrest⟩ := hargs.uncons
  -- the lent list
  have hlent' : ∃ v0, s.rd al key = some (.grow e' (.int k' xs)) ∧ E.σ key = some v0 ∧ lo + len ≤ xs.length ∧ ∀ C (X : Nat → Prop), AV.rel C (EB X v0) w (.one false [.sub 0 1 lo len]) u0 := by
    unfold lentOf at hlent
    split at hlent
    · split at hlent
      · rename_i k0 _ e0 ys hk
        simp only [Option.some.injEq, Prod.mk.injEq] at hlent
        obtain ⟨rfl, rfl, rfl, rfl, rfl⟩ := hlent
        obtain ⟨v0, hv0, _, _, _, ho⟩ := rd_rel hR al _ _ hk
        have hu1 := hu0.1
        rw [hv0] at hu1; cases hu1
        refine ⟨_, hk, hv0, by simp [VL.len], fun C X => ?_⟩
        simp only [VL.len] at ho ⊢
        rcases own_form (xs := .int k' xs) ho with ⟨rfl, h0⟩ | ⟨m, cap, rfl, hc', _, _⟩
        · exact ⟨none, 0, none, 0, 0, rfl, by simp only [VL.len] at h0; omega, by simp only [VL.len] at h0 ⊢; rw [h0], by simp only [VL.len] at h0 ⊢; omega, fun _ => rfl, .inl h0⟩
        · exact ⟨_, cap, _, _, cap, rfl, by simp only [VL.len]; omega, rfl, hc', fun e => (by cases e), .inr ⟨m, rfl, by simp⟩⟩
      · cases hlent
    · split at hlent
      · rename_i k0 wd l0 n0 _ e0 ys hk
        split at hlent
        · rename_i hwd
          simp only [Option.some.injEq, Prod.mk.injEq] at hlent
          obtain ⟨rfl, rfl, rfl, rfl, rfl⟩ := hlent
          obtain ⟨v0, hv0, _, _, _, ho⟩ := rd_rel hR al _ _ hk
          obtain ⟨a0, cap, b0, l, c, g1, g2, g3⟩ := hu0
          have g1' := g1
          rw [hv0] at g1'; cases g1'
          have hwd1 : wd = 1 := hwd.symm
          subst hwd1
          have hl : l = (VL.int k' xs).len := by rcases own_form ho with ⟨h, h0⟩ | ⟨m, cap', h, _⟩ <;> cases h <;> simp [*]
          simp only [VL.len] at hl
          exact ⟨_, hk, hv0, by omega, fun C X => ⟨a0, cap, b0, l, c, rfl, g2, g3⟩⟩
        · cases hlent
      · cases hlent
    · cases hlent
  obtain ⟨v0, hkey, hσ, hle, hu0'⟩ := hlent'
  have hkk := rd_heap hkey
  obtain ⟨v1, hv1, hβ, hA, _, ho⟩ := hR.heap key _ hkk
  rw [hσ] at hv1; cases hv1
  have hblk : ∀ n, v0.ownBlock = some n → E.blk key = some n := fun n hn => by simp [Env.blk, hβ, hσ, hn]
  have hin : AllR (InG false (fun n => ¬ v0.ownBlock = some n) w) (A.enc false x) us' := by
    have hbut : ∀ j b, butKey key (s.rd al) j = some b → j ≠ key ∧ s.rd al j = some b := by
      intro j b hb
      unfold butKey at hb
      cases hj : Nat.beq j key with
      | true => rw [hj] at hb; cases hb
      | false => rw [hj] at hb; exact ⟨fun e => by subst e; simp at hj, hb⟩
    have := args_in (vs := us'.toArray) hx (C := C) (E := E) (w := w) (fun j b hb => rd_rel hR al _ _ (hbut j b hb).2) (by simpa using hrest) false (fun n => ¬ v0.ownBlock = some n)
      (fun n hn _ e => hn (hA n e)) (fun a _ j _ b n hb hn e => (hbut j b hb).1 (hR.inj j key _ _ n (rd_heap (hbut j b hb).2) hkk hn (hblk n e)))
    simpa using this
  have hla : LentA v0 lo len (A.enc false x) w vs := by
    intro C'
    rw [hus]
    exact AllR.cons (hu0' C' _) (hin.mono fun y v _ h => h C' _ fun n hn => ⟨hn, fun e => by cases e⟩)
  refine (h xs lo len x hpre hle w v0 vs ho hla).mono ?_
  rintro ed w' ⟨rfl, hpl, ho', hb'⟩
  exact ⟨_, E, rfl, hR.regrow hkk hσ (ys := .int k' (g xs lo len x)) rfl ho' hb', AV.rel_toV hpl⟩
def ownW {α : Type} (k : IntKind) (e : TypeId) (A : ACod α) (pre : α → Bool) (g : α → List Int) : WSumm where
  pre args rd := match A.dec rd args with
    | some x => pre x
    | none => false
  fn args rd key := match A.dec rd args with
    | some x => some (.one false [.own key], [(key, some (.grow e (.int k (g x))))])
    | none => none
def OwnR (k : IntKind) (e : TypeId) (ys : List Int) (w : World) : Ending → World → Prop := fun ed w' => ∃ v, ed = .returned v ∧ (∃ b n c, v = .slice b n c) ∧ (∀ n, v.ownBlock = some n → w.heap.size ≤ n) ∧ w'.ownsRow 0 e 1 v ys.length (VL.int k ys).vals ∧ Below w.heap.size w w'
def finO (P : Program) (rs : List ResultVar) (k : IntKind) (e : TypeId) (Q : List Int → Prop) (x : X) (s : St) : Prop :=
  match x with
  | .ex _ => False
  | _ => match resS P rs s with
    | some (.one false [.own key]) => match s.rd (fun _ => true) key with
      | some (.grow e' (.int k' xs)) => cond (decide (k' = k) && Nat.beq e' e) (Q xs) False
      | _ => False
    | some (.one false [.val (.slice none 0 0)]) => Q []
    | _ => False
def evFO (P : Program) (C : Ctx) (L : Loops) (u : Nat) (fn : Func) (args : List AV) (k : IntKind) (e : TypeId) (Q : List Int → Prop) : Prop :=
  match fn.body with
  | some c => forceAs (start args fn.ntmps).slots fun sl => evC P C L u c ⟨sl, []⟩ (finO P fn.results.toList k e Q)
  | none => False
theorem finO_spec {rs : List ResultVar} {k : IntKind} {e : TypeId} {Q : List Int → Prop} {x : X} {s : St} (h : finO P rs k e Q x s) : (x = .nrm ∨ x = .ret) ∧ ∃ ys, Q ys ∧
    ((∃ key, resS P rs s = some (.one false [.own key]) ∧ s.rd (fun _ => true) key = some (.grow e (.int k ys))) ∨ (resS P rs s = some (.one false [.val (.slice none 0 0)]) ∧ ys = [])) := by
  have key : ∀ {p : Prop}, (match resS P rs s with
    | some (.one false [.own key]) => match s.rd (fun _ => true) key with
      | some (.grow e' (.int k' xs)) => cond (decide (k' = k) && Nat.beq e' e) (Q xs) False
      | _ => False
    | some (.one false [.val (.slice none 0 0)]) => Q []
    | _ => False) → p ∨ ∃ ys, Q ys ∧
    ((∃ key, resS P rs s = some (.one false [.own key]) ∧ s.rd (fun _ => true) key = some (.grow e (.int k ys))) ∨ (resS P rs s = some (.one false [.val (.slice none 0 0)]) ∧ ys = [])) := by
    intro p hh
    split at hh
    · rename_i key hr
      split at hh
      · rename_i _ e' k' xs hk
        cases hc : (decide (k' = k) && Nat.beq e' e) with
        | false => rw [hc] at hh; exact hh.elim
        | true =>
          rw [hc] at hh
          simp only [Bool.and_eq_true, decide_eq_true_eq] at hc
          obtain ⟨rfl, he⟩ := hc
          have := Nat.eq_of_beq_eq_true he
          subst this
          exact .inr ⟨xs, hh, .inl ⟨key, hr, hk⟩⟩
      · exact hh.elim
    · rename_i hr
      exact .inr ⟨[], hh, .inr ⟨hr, rfl⟩⟩
    · exact hh.elim
  cases x with
  | nrm => exact ⟨.inl rfl, (key (p := False) h).resolve_left id⟩
  | ret => exact ⟨.inr rfl, (key (p := False) h).resolve_left id⟩
  | ex id => exact h.elim
theorem calls_of_evFO (hm : P.follows .mixedOrders = true) {f : FuncId} {fn : Func} {w : World} (hC : CtxOK P C) (hX : C.X = fun _ => False) (hv0 : C.v0 = none) (hF : ∀ n, w.heap.size ≤ n → C.F n) {L : Loops} {u : Nat} (hf : P.funcs[f]? = some fn)
    (hL : ∀ c, fn.body = some c → LoopsOK P C w.heap.size w L (loopsIn c)) {args : List AV} {vs : Array Value} (hargs : AllR (AV.rel C (ES C.F) w) args vs.toList) {k : IntKind} {e : TypeId} {Q : List Int → Prop} (h : evFO P C L u fn args k e Q) :
    Calls P f vs w fun ed w' => ∃ ys, Q ys ∧ OwnR k e ys w ed w' := by
  unfold evFO at h
  split at h
  · rename_i c hb
    rw [forceAs_eq] at h
    have h : evC P C L u c (start args fn.ntmps) (finO P fn.results.toList k e Q) := h
    refine calls_of_wp hf hb ?_
    have hrel : Rel C w.heap.size w (ES C.F) (start args fn.ntmps) { tmps := vs ++ Array.replicate (fn.ntmps - vs.size) undef, defers := [] } w := by
      refine { slots := start_slots hargs, defers := rfl, heap := ?_, free := fun _ _ => ⟨rfl, rfl⟩, lo := fun n h => h.elim, inj := ?_, below := BelowX.refl _ _ _, base := Nat.le_refl _, ok := ⟨hF, fun _ h => h.elim, rfl, hX.symm, fun v hv => by rw [hv0] at hv; cases hv⟩ }
      · intro k b hk; simp [start] at hk
      · intro k k' b b' n hk; simp [start] at hk
    refine wp_mono (evC_spec hm hC c (hL c hb) _ _ h _ _ _ hrel) ?_
    rintro ed a' w' ⟨x, E', s', rfl, hr, hk⟩
    obtain ⟨hx, ys, hQ, hres⟩ := finO_spec hk
    have hnX : ∀ n, ¬ E'.X n := fun n hn => by rw [hr.ok.eX, hX] at hn; exact hn
    have hbl := hr.below.to hnX
    have main : ∃ u, (results fn a'.tmps).run P w' = .ok u w' ∧ OwnR k e ys w (.returned u) w' := by
      rcases hres with ⟨key, h1, h2⟩ | ⟨h1, rfl⟩
      · obtain ⟨u, hu, hur⟩ := resS_spec (P := P) hr h1
        obtain ⟨v, hv, _, hA, _, ho⟩ := rd_rel hr _ _ _ h2
        have h3 := hur.1
        rw [hv] at h3; cases h3
        refine ⟨u, hu, u, rfl, hur.2, fun n hn => ?_, ho, hbl⟩
        rcases (hr.lo n (hA n hn)).1 with h4 | h4
        · exact h4
        · exact absurd h4 (hnX n)
      · obtain ⟨u, hu, hur⟩ := resS_spec (P := P) hr h1
        cases hur
        exact ⟨_, hu, _, rfl, ⟨_, _, _, rfl⟩, fun n hn => (by cases hn), World.ownsRow_nil _ _ _ _, hbl⟩
    obtain ⟨u, hu, hown⟩ := main
    rcases hx with rfl | rfl
    · exact ⟨hr.defers, u, hu, ys, hQ, hown⟩
    · exact ⟨hr.defers, u, hu, ys, hQ, hown⟩
  · exact h.elim
theorem contractO (hm : P.follows .mixedOrders = true) {T : Tab} (hT : AllGood P T) {f : FuncId} {fn : Func} (hf : P.funcs[f]? = some fn) {L : Loops} {u : Nat} (hL : ∀ F B w0 c, fn.body = some c → LoopsOK P (mkC T F) B w0 L (loopsIn c))
    {args : List AV} {k : IntKind} {e : TypeId} {t : Tr (List Int)} (hs : t.safe = true) (h : ∀ F Q, evFO P (mkC T F) L u fn args k e Q = t.prop Q)
    (w : World) (vs : Array Value) (hp : ArgsR args w vs) : Calls P f vs w (OwnR k e t.val w) := by
  refine (calls_of_evFO hm (mkC_ok hT fun n => w.heap.size ≤ n) rfl rfl (fun _ h => h) hf (fun c hc => hL _ _ _ c hc) (args := args) (hp.mono fun x v _ h => h _ _ fun n _ => ⟨fun h => h, fun e => by cases e⟩)
    (Q := fun ys => ys = t.val) (by rw [h]; exact Tr.prop_val hs rfl)).mono ?_
  rintro ed w' ⟨ys, rfl, h⟩
  exact h
theorem good_own {α : Type} {k : IntKind} {e : TypeId} {A : ACod α} {pre : α → Bool} {g : α → List Int} {f : FuncId} (hc : callable P f) (h : ∀ x, pre x = true → ∀ w vs, ArgsR (A.enc false x) w vs → Calls P f vs w (OwnR k e (g x) w)) : GoodW P f (ownW k e A pre g) := by
  refine ⟨hc, fun C B w0 E s a w al args vs z ch key hpre hfn hfree _ hR hargs => ?_⟩
  simp only [ownW] at hpre hfn
  split at hfn
  · rename_i x hx
    rw [hx] at hpre
    cases hfn
    have hin : ArgsR (A.enc false x) w vs := args_in hx (rd_rel hR al) hargs false _ (fun _ _ _ => trivial) (fun _ _ _ _ _ _ _ _ => trivial)
    refine (h x hpre w vs hin).mono ?_
    rintro ed w' ⟨v, rfl, hsh, hnew, ho, hb⟩
    obtain ⟨E', hσ, hE'⟩ := hR.own1 hfree (ys := .int k (g x)) hsh rfl ho (grownBy_of_below hb none) (fun g hg => by cases hg) (fun n hn => .inr (hnew n hn)) none
    exact ⟨v, E', rfl, hE', hσ, hsh⟩
  · cases hfn
def lp (fn : Func) (i : Nat) : Code := match fn.body with
  | some c => (loopsIn c).getD i .skip
  | none => .skip
end Go.Ev
