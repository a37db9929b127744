/- A region that draws its order may be run in the order of its text, where its check says so. Conditions: as the theorem states. -/
import Derived.Test.YtgaapeaclbpaeaaEvF
namespace Go.Ev
open Go.RowKit

variable {P : Program} {C : Ctx} {B : Nat} {w0 : World}

theorem argsS_congr {ρ ρ' : Operand → Option AV} : ∀ {l : List Operand}, (∀ x ∈ l, ρ x = ρ' x) → argsS ρ l = argsS ρ' l
  | [], _ => rfl
  | x :: r, h => by
    have ih := argsS_congr (l := r) fun y hy => h y (by simp [hy])
    simp only [argsS, h x (by simp), ih]
theorem partsS_congr {ρ ρ' : Operand → Option AV} : ∀ {l : List (Nat × Operand)}, (∀ x ∈ l, ρ x.2 = ρ' x.2) → partsS ρ l = partsS ρ' l
  | [], _ => rfl
  | (i, x) :: r, h => by
    have ih := partsS_congr (l := r) fun y hy => h y (by simp [hy])
    simp only [partsS, h (i, x) (by simp), ih]

theorem effP_congr {ρ ρ' : Operand → Option AV} {o : Oper} (h : ∀ x ∈ o.op.operands, ρ x = ρ' x) : effP P o ρ = effP P o ρ' := by
  obtain ⟨dst, op, type, pos, after, guard⟩ := o
  cases op <;> simp only [Op.operands] at h <;> simp only [effP]
  case move x => exact h x (by simp)
  case assign x => exact h x (by simp)
  case pick c a b => simp only [h c (by simp), h a (by simp), h b (by simp)]
  case build t parts => rw [partsS_congr (ρ := ρ) (ρ' := ρ')]; intro x hx; exact h x.2 (by simp; exact ⟨x.1, by simpa using hx⟩)
  case nilCheck x => simp only [h x (by simp)]
  case binOp op t x y t' => simp only [h x (by simp), h y (by simp)]
  case unOp op t x => simp only [h x (by simp)]
  case convert s d x => simp only [h x (by simp)]
  case fieldAddr t x f => simp only [h x (by simp)]
  case field t x f => simp only [h x (by simp)]
  case extract x i => simp only [h x (by simp)]
  case index t x i => simp only [h x (by simp), h i (by simp)]
  case makeFunc fn first captured =>
    cases fn <;> simp only
    rw [argsS_congr (ρ := ρ) (ρ' := ρ')]
    intro x hx
    exact h x (by simp; exact .inr (by simpa using hx))
  case call c =>
    obtain ⟨callee, args, ts⟩ := c
    cases callee with
    | value f => rfl
    | invoke r m => rfl
    | builtin b =>
      have ha : argsS ρ args.toList = argsS ρ' args.toList := argsS_congr fun x hx => h x (by simp [Call.operands]; simpa using hx)
      cases b <;> simp only [ha]

theorem boundS_congr {ρ ρ' : Operand → Option AV} {o : Option Operand} (h : ∀ x, o = some x → ρ x = ρ' x) : boundS ρ o = boundS ρ' o := by
  cases o with
  | none => rfl
  | some x => simp only [boundS, h x rfl]
theorem asr_congr {ρ ρ' : Operand → Option AV} {rd : Nat → Option Blk} {o : Oper} (h : ∀ x ∈ o.op.operands, ρ x = ρ' x) : asr P C o ρ rd = asr P C o ρ' rd := by
  obtain ⟨dst, op, type, pos, after, guard⟩ := o
  cases op <;> simp only [Op.operands] at h <;> simp only [asr]
  case binOp op t x y t' => cases op <;> simp only [h x (by simp), h y (by simp)]
  case index t x i => simp only [h x (by simp), h i (by simp)]
  case indexAddr t x i => simp only [h x (by simp), h i (by simp)]
  case slice t x lo hi mx =>
    simp only [h x (by simp), boundS_congr (ρ := ρ) (ρ' := ρ') (o := lo) (fun y hy => h y (by subst hy; simp)), boundS_congr (ρ := ρ) (ρ' := ρ') (o := hi) (fun y hy => h y (by subst hy; simp))]
  case makeSlice t l c => simp only [h l (by simp), h c (by simp)]
  case call c =>
    obtain ⟨callee, args, ts⟩ := c
    cases callee with
    | value f =>
      have ha : argsS ρ args.toList = argsS ρ' args.toList := argsS_congr fun x hx => h x (by simp [Call.operands]; exact .inr (by simpa using hx))
      simp only [ha, h f (by simp [Call.operands])]
    | invoke r m => rfl
    | builtin b =>
      cases b <;> simp only
      cases ts[0]? with
      | none => rfl
      | some t =>
        cases h0 : args[0]? with
        | none => rfl
        | some x =>
          cases h1 : args[1]? with
          | none => rfl
          | some y => simp only [h x (by simp [Call.operands]; exact Array.mem_of_getElem? h0), h y (by simp [Call.operands]; exact Array.mem_of_getElem? h1)]

theorem effR_congr {ρ ρ' : Operand → Option AV} {rd : Nat → Option Blk} {o : Oper} (h : ∀ x ∈ o.op.operands, ρ x = ρ' x) : effR P C o ρ rd = effR P C o ρ' rd := by
  obtain ⟨dst, op, type, pos, after, guard⟩ := o
  cases op <;> simp only [Op.operands] at h <;> simp only [effR]
  case load t x => simp only [h x (by simp)]
  case indexAddr t x i => simp only [h x (by simp), h i (by simp)]
  case slice t x lo hi mx =>
    cases mx with
    | none => simp only [h x (by simp), boundS_congr (ρ := ρ) (ρ' := ρ') (o := lo) (fun y hy => h y (by subst hy; simp)), boundS_congr (ρ := ρ) (ρ' := ρ') (o := hi) (fun y hy => h y (by subst hy; simp))]
    | some m => simp only [h x (by simp), boundS_congr (ρ := ρ) (ρ' := ρ') (o := hi) (fun y hy => h y (by subst hy; simp)), boundS_congr (ρ := ρ) (ρ' := ρ') (o := some m) (fun y hy => h y (by cases hy; simp))]
  case convert sr d x => simp only [h x (by simp)]
  case call c =>
    obtain ⟨callee, args, ts⟩ := c
    cases callee with
    | value f =>
      have ha : argsS ρ args.toList = argsS ρ' args.toList := argsS_congr fun x hx => h x (by simp [Call.operands]; exact .inr (by simpa using hx))
      simp only [ha, h f (by simp [Call.operands])]
    | invoke r m => rfl
    | builtin b =>
      cases b <;> simp only
      cases ht : ts[0]? with
      | none => rfl
      | some t =>
        cases hx : args[0]? with
        | none => rfl
        | some x => simp only [h x (by simp [Call.operands]; exact Array.mem_of_getElem? hx)]

theorem effA_congr {ρ ρ' : Operand → Option AV} {key : Nat} {o : Oper} (h : ∀ x ∈ o.op.operands, ρ x = ρ' x) : effA P o ρ key = effA P o ρ' key := by
  obtain ⟨dst, op, type, pos, after, guard⟩ := o
  cases op <;> simp only [Op.operands] at h <;> simp only [effA]
  case box t x => simp only [h x (by simp)]
  case buildSlice t len parts => rw [partsS_congr (ρ := ρ) (ρ' := ρ')]; intro x hx; exact h x.2 (by simp; exact ⟨x.1, by simpa using hx⟩)
  case makeSlice t l c => simp only [h l (by simp), h c (by simp)]

theorem effW_congr {ρ ρ' : Operand → Option AV} {rd : Nat → Option Blk} {key : Nat} {o : Oper} (h : ∀ x ∈ o.op.operands, ρ x = ρ' x) : effW P C o ρ rd key = effW P C o ρ' rd key := by
  obtain ⟨dst, op, type, pos, after, guard⟩ := o
  cases op <;> simp only [Op.operands] at h <;> simp only [effW]
  case store t a x => simp only [h a (by simp), h x (by simp)]
  case call c =>
    obtain ⟨callee, args, ts⟩ := c
    cases callee with
    | value f =>
      cases f <;> simp only
      rw [argsS_congr (ρ := ρ) (ρ' := ρ') fun x hx => h x (by simp [Call.operands]; exact .inr (by simpa using hx))]
    | invoke r m => rfl
    | builtin b =>
      cases b <;> simp only
      split
      · cases ts[0]? with
        | none => rfl
        | some t =>
          cases h0 : args[0]? with
          | none => rfl
          | some x =>
            cases h1 : args[1]? with
            | none => rfl
            | some y => simp only [h x (by simp [Call.operands]; exact Array.mem_of_getElem? h0), h y (by simp [Call.operands]; exact Array.mem_of_getElem? h1)]
      · rfl

/-! ### What an operation does, as a change -/
def dEff (P : Program) (C : Ctx) (ops : Array Oper) (al : Nat → Bool) (nk i : Nat) (s : St) (o : Oper) : Option (AV × List (Nat × Option Blk)) :=
  match s.guard ops o with
  | none => none
  | some false => some (undefA, [])
  | some true =>
    bif asr P C o s.ρ (s.rdk P C o al) then
      match kd P C o.op with
      | .p => (effP P o s.ρ).map fun v => (v, [])
      | .r => (effR P C o s.ρ (s.rd al)).map fun v => (v, [])
      | .a => match effA P o s.ρ (nk + i), s.heap[nk + i]? with
        | some e, some none => some e
        | _, _ => none
      | .w => match effW P C o s.ρ (s.rd al) (nk + i), s.heap[nk + i]? with
        | some e, some none => some e
        | _, _ => none
    else none
def appl (o : Oper) (e : AV × List (Nat × Option Blk)) (s : St) : St :=
  { s.put o.dst e.1 with heap := chg e.2 s.heap }

theorem put_heap (s : St) (d : Option Nat) (v : AV) : (s.put d v).heap = s.heap := by cases d <;> rfl
theorem put_eta (s : St) (d : Option Nat) (v : AV) : { s.put d v with heap := s.heap } = s.put d v := by cases d <;> rfl

theorem dOp_eq (ops : Array Oper) (al : Nat → Bool) (nk i : Nat) (s : St) : dOp P C ops al nk i s = match ops[i]? with
    | none => none
    | some o => (dEff P C ops al nk i s o).map fun e => appl o e s := by
  unfold dOp dEff appl
  cases ops[i]? with
  | none => rfl
  | some o =>
    simp only
    cases hg : s.guard ops o with
    | none => rfl
    | some t =>
      cases t with
      | false => simp [chg, put_eta]
      | true =>
        simp only
        cases asr P C o s.ρ (s.rdk P C o al) with
        | false => rfl
        | true =>
          simp only [cond_true]
          cases kd P C o.op with
          | p => simp only; cases effP P o s.ρ <;> simp [chg, put_eta]
          | r => simp only; cases effR P C o s.ρ (s.rd al) <;> simp [chg, put_eta]
          | a =>
            simp only
            rcases effA P o s.ρ (nk + i) with _ | ⟨v, b⟩ <;> rcases s.heap[nk + i]? with _ | (_ | z) <;> rfl
          | w =>
            simp only
            rcases effW P C o s.ρ (s.rd al) (nk + i) with _ | ⟨v, b⟩ <;> rcases s.heap[nk + i]? with _ | (_ | z) <;> rfl

/-- the change is the same where operands, guard and memory that is looked at are the same -/
theorem dEff_congr {ops : Array Oper} {al : Nat → Bool} {nk i : Nat} {s s' : St} {o : Oper} (hρ : ∀ x ∈ o.op.operands, s.ρ x = s'.ρ x) (hg : s.guard ops o = s'.guard ops o)
    (hr : kd P C o.op = .r ∨ kd P C o.op = .w → s.rd al = s'.rd al) (hk : s.heap[nk + i]? = s'.heap[nk + i]?) : dEff P C ops al nk i s o = dEff P C ops al nk i s' o := by
  have hrdk : s.rdk P C o al = s'.rdk P C o al := by
    unfold St.rdk
    cases hkd : kd P C o.op with
    | p => rfl
    | r => exact hr (.inl hkd)
    | a => rfl
    | w => exact hr (.inr hkd)
  unfold dEff
  rw [hg, hrdk, asr_congr hρ, effP_congr hρ, effA_congr hρ]
  cases hkd : kd P C o.op with
  | p => rfl
  | r => simp only; rw [effR_congr hρ, hr (.inl hkd)]
  | a => simp only; rw [hk]
  | w => simp only; rw [effW_congr hρ, hr (.inr hkd), hk]

theorem effA_key {o : Oper} {ρ : Operand → Option AV} {key : Nat} {e : AV × List (Nat × Option Blk)} (h : effA P o ρ key = some e) : ∀ p ∈ e.2, p.1 = key := by
  unfold effA at h
  split at h
  · split at h
    · split at h
      · cases h; simp
      · cases h
    · cases h
  · split at h
    · split at h
      · cases h; simp
      · cases h
    · cases h
  · split at h
    · cases h; simp
    · cases h
  · split at h
    · split at h
      · cases h
      · split at h
        · split at h
          · cases h; simp
          · cases h
        · cases h; simp
        · cases h
    · cases h
  · cases h
theorem rd_al {al : Nat → Bool} {s : St} {k : Nat} {b : Blk} (h : s.rd al k = some b) : al k = true := by
  unfold St.rd at h
  cases hal : al k with
  | false => simp [hal] at h
  | true => rfl
theorem effW_key {o : Oper} {ρ : Operand → Option AV} {s : St} {al : Nat → Bool} {key : Nat} {e : AV × List (Nat × Option Blk)} (h : effW P C o ρ (s.rd al) key = some e) : ∀ p ∈ e.2, p.1 = key ∨ al p.1 = true := by
  unfold effW at h
  split at h
  · split at h
    · split at h
      · rename_i hk
        split at h
        · cases h; intro p hp; simp at hp; subst hp; exact .inr (rd_al hk)
        · cases h
      · cases h
    · split at h
      · rename_i hk
        simp only [Option.map_eq_some_iff] at h
        obtain ⟨ys, _, h⟩ := h
        cases h; intro p hp; simp at hp; subst hp; exact .inr (rd_al hk)
      · cases h
    · cases h
  · split at h
    · split at h
      · split at h
        · split at h
          · split at h
            · split at h
              · split at h
                · rename_i hk
                  split at h
                  · cases h; intro p hp; simp at hp; rcases hp with rfl | rfl
                    · exact .inr (rd_al hk)
                    · exact .inl rfl
                  · cases h
                · cases h
              · split at h
                · rename_i hk
                  split at h
                  · cases h; intro p hp; simp at hp; rcases hp with rfl | rfl
                    · exact .inr (rd_al hk)
                    · exact .inl rfl
                  · cases h
                · cases h
              · cases h; intro p hp; simp at hp; subst hp; exact .inl rfl
              · rename_i zs _ _ _
                cases hzf : zs.flat with
                | false => rw [hzf] at h; cases h
                | true => rw [hzf] at h; cases h; intro p hp; cases hp
              · cases h
            · cases h
          · cases h
        · cases h
      · cases h
    · cases h
  · split at h
    · split at h
      · rename_i v ch hfn
        cases hall : ch.all (fun p => (s.rd al p.1).isSome) with
        | false => rw [hall] at h; cases h
        | true =>
          rw [hall] at h
          cases h
          intro p hp
          have := List.all_eq_true.1 hall p hp
          obtain ⟨b, hb⟩ := Option.isSome_iff_exists.1 this
          exact .inr (rd_al hb)
      · cases h
    · cases h
  · cases h

theorem dEff_key {ops : Array Oper} {al : Nat → Bool} {nk i : Nat} {s : St} {o : Oper} {e : AV × List (Nat × Option Blk)} (h : dEff P C ops al nk i s o = some e) :
    ∀ p ∈ e.2, p.1 = nk + i ∨ (kd P C o.op = .w ∧ al p.1 = true) := by
  unfold dEff at h
  split at h
  · cases h
  · cases h; simp
  · cases ha : asr P C o s.ρ (s.rdk P C o al) with
    | false => rw [ha] at h; cases h
    | true =>
      rw [ha] at h
      simp only [cond_true] at h
      split at h
      · simp only [Option.map_eq_some_iff] at h; obtain ⟨_, _, h⟩ := h; cases h; simp
      · simp only [Option.map_eq_some_iff] at h; obtain ⟨_, _, h⟩ := h; cases h; simp
      · split at h
        · rename_i he _; cases h; exact fun p hp => .inl (effA_key he p hp)
        · cases h
      · rename_i hkd
        split at h
        · rename_i he _; cases h; exact fun p hp => (effW_key he p hp).imp id fun h => ⟨hkd, h⟩
        · cases h

theorem dEff_nokey {ops : Array Oper} {al : Nat → Bool} {nk i : Nat} {s : St} {o : Oper} {e : AV × List (Nat × Option Blk)} (h : dEff P C ops al nk i s o = some e) (hp : kd P C o.op = .p ∨ kd P C o.op = .r) : e.2 = [] := by
  unfold dEff at h
  split at h
  · cases h
  · cases h; rfl
  · cases ha : asr P C o s.ρ (s.rdk P C o al) with
    | false => rw [ha] at h; cases h
    | true =>
      rw [ha] at h
      rcases hp with hp | hp <;> (rw [hp] at h; simp only [cond_true, Option.map_eq_some_iff] at h; obtain ⟨_, _, h⟩ := h; cases h; rfl)

theorem chg_get : ∀ {l : List (Nat × Option Blk)} {h : List (Option (Option Blk))} {k : Nat}, (∀ p ∈ l, p.1 ≠ k) → (chg l h)[k]? = h[k]?
  | [], h, k, _ => rfl
  | (k', b) :: r, h, k, hp => by
    simp only [chg]
    rw [chg_get (l := r) fun p hm => hp p (by simp [hm])]
    exact List.getElem?_set_ne (hp (k', b) (by simp))
theorem chg_set : ∀ {l : List (Nat × Option Blk)} {h : List (Option (Option Blk))} {k : Nat} {b}, (∀ p ∈ l, p.1 ≠ k) → chg l (h.set k b) = (chg l h).set k b
  | [], h, k, b, _ => rfl
  | (k', b') :: r, h, k, b, hp => by
    simp only [chg]
    rw [← chg_set (l := r) fun p hm => hp p (by simp [hm])]
    rw [List.set_comm _ _ (Ne.symm (hp (k', b') (by simp)))]
theorem chg_comm : ∀ {l m : List (Nat × Option Blk)} {h : List (Option (Option Blk))}, (∀ p ∈ l, ∀ q ∈ m, p.1 ≠ q.1) → chg m (chg l h) = chg l (chg m h)
  | [], m, h, _ => rfl
  | (k, b) :: r, m, h, hp => by
    simp only [chg]
    rw [chg_comm (l := r) fun p hm => hp p (by simp [hm])]
    rw [chg_set fun q hq => (hp (k, b) (by simp) q hq).symm]

def compat : Kd → Kd → Bool
  | .w, .r => false
  | .r, .w => false
  | .w, .w => false
  | _, _ => true

/-- slots and memory that y looks at are as before x -/
theorem appl_keeps {ops : Array Oper} {al al' : Nat → Bool} {nk i j : Nat} {s : St} {x y : Oper} {e : AV × List (Nat × Option Blk)} (he : dEff P C ops al nk i s x = some e)
    (hap : ∀ d, x.dst = some d → d ∉ y.looksAt ops) (hc : compat (kd P C x.op) (kd P C y.op) = true ∨ ∀ k, al k = true → al' k = false) (hij : i ≠ j) (hal : al' (nk + i) = false) (halj : al (nk + j) = false) :
    dEff P C ops al' nk j (appl x e s) y = dEff P C ops al' nk j s y := by
  have hslot : ∀ t, t ∈ y.looksAt ops → (appl x e s).slots[t]? = s.slots[t]? := by
    intro t ht
    unfold appl St.put
    cases hd : x.dst with
    | none => rfl
    | some d =>
      have hne : d ≠ t := fun hh => hap d hd (hh ▸ ht)
      simp [List.getElem?_set_ne hne]
  refine dEff_congr ?_ ?_ ?_ ?_
  · intro z hz
    cases z with
    | tmp t => exact hslot t (by unfold Oper.looksAt; simp; exact .inl ⟨.tmp t, by simpa using hz, rfl⟩)
    | const v => rfl
    | global g => rfl
    | func f => rfl
  · unfold St.guard
    cases hg : y.guard with
    | none => rfl
    | some jw =>
      obtain ⟨g, want⟩ := jw
      simp only
      cases hd : (ops[g]?).bind (·.dst) with
      | none => rfl
      | some d =>
        simp only [Option.bind_some]
        rw [hslot d (by unfold Oper.looksAt; simp only [hg, hd]; simp)]
  · intro hk
    funext k
    unfold St.rd
    cases halk : al' k with
    | false => rfl
    | true =>
      simp only [cond_true, appl]
      rw [chg_get]
      intro p hp
      rcases dEff_key he p hp with h1 | ⟨h1, h2⟩
      · rintro rfl; rw [h1, hal] at halk; cases halk
      · rcases hc with hc | hc
        · rw [h1] at hc
          rcases hk with hk | hk <;> rw [hk] at hc <;> cases hc
        · rintro rfl; rw [hc _ h2] at halk; cases halk
  · simp only [appl]
    rw [chg_get]
    intro p hp
    rcases dEff_key he p hp with h1 | ⟨_, h2⟩
    · omega
    · rintro h3; rw [h3, halj] at h2; cases h2

theorem appl_comm {ops : Array Oper} {al al' : Nat → Bool} {nk i j : Nat} {s s' s'' : St} {x y : Oper} {e f : AV × List (Nat × Option Blk)} (he : dEff P C ops al nk i s' x = some e) (hf : dEff P C ops al' nk j s'' y = some f)
    (hd : ∀ d, x.dst = some d → y.dst ≠ some d) (hc : compat (kd P C x.op) (kd P C y.op) = true ∨ ∀ k, al k = true → al' k = false) (hij : i ≠ j) (hal : al' (nk + i) = false) (halj : al (nk + j) = false) :
    appl y f (appl x e s) = appl x e (appl y f s) := by
  have hslots : ((appl x e s).put y.dst f.1).slots = ((appl y f s).put x.dst e.1).slots := by
    unfold appl St.put
    cases hx : x.dst with
    | none => cases y.dst <;> rfl
    | some d =>
      cases hy : y.dst with
      | none => rfl
      | some d' =>
        have hne : d ≠ d' := fun hh => hd d hx (hh ▸ hy)
        simp [List.set_comm _ _ hne]
  have hheap : (appl y f (appl x e s)).heap = (appl x e (appl y f s)).heap := by
    simp only [appl]
    refine chg_comm fun p hp q hq => ?_
    rcases dEff_key he p hp with h1 | ⟨h1, h2⟩ <;> rcases dEff_key hf q hq with h3 | ⟨h3, h4⟩
    · omega
    · intro e; rw [← e, h1, hal] at h4; cases h4
    · intro e; rw [e, h3, halj] at h2; cases h2
    · rcases hc with hc | hc
      · rw [h1, h3] at hc; cases hc
      · intro e; rw [← e, hc _ h2] at h4; cases h4
  have h1 : (appl y f (appl x e s)).slots = ((appl x e s).put y.dst f.1).slots := rfl
  have h2 : (appl x e (appl y f s)).slots = ((appl y f s).put x.dst e.1).slots := rfl
  have : ∀ p q : St, p.slots = q.slots → p.heap = q.heap → p = q := by
    rintro ⟨a1, a2⟩ ⟨b1, b2⟩ h1 h2; simp only at h1 h2; subst h1; subst h2; rfl
  exact this _ _ (by rw [h1, h2, hslots]) hheap

theorem compat_symm (x y : Kd) : compat x y = compat y x := by cases x <;> cases y <;> rfl

theorem dOp_swap {ops : Array Oper} {al al' : Nat → Bool} {nk i j : Nat} {s s1 s2 : St} {x y : Oper} (hx : ops[i]? = some x) (hy : ops[j]? = some y) (hap : x.apart ops y = true) (hc : compat (kd P C x.op) (kd P C y.op) = true ∨ ∀ k, al k = true → al' k = false) (hij : i ≠ j)
    (hal : al' (nk + i) = false) (halj : al (nk + j) = false) (h1 : dOp P C ops al nk i s = some s1) (h2 : dOp P C ops al' nk j s1 = some s2) :
    ∃ s1', dOp P C ops al' nk j s = some s1' ∧ dOp P C ops al nk i s1' = some s2 := by
  have hc' : compat (kd P C y.op) (kd P C x.op) = true ∨ ∀ k, al' k = true → al k = false := by
    refine hc.imp (fun h => by rw [compat_symm]; exact h) fun h k hk => ?_
    cases ha : al k with
    | false => rfl
    | true => rw [h k ha] at hk; cases hk
  obtain ⟨ha1, ha2, ha3⟩ := Oper.apart_spec hap
  rw [dOp_eq, hx] at h1
  simp only [Option.map_eq_some_iff] at h1
  obtain ⟨e, he, rfl⟩ := h1
  rw [dOp_eq, hy] at h2
  simp only [Option.map_eq_some_iff] at h2
  obtain ⟨f, hf, rfl⟩ := h2
  rw [appl_keeps he ha1 hc hij hal halj] at hf
  refine ⟨appl y f s, by rw [dOp_eq, hy]; simp [hf], ?_⟩
  rw [dOp_eq, hx]
  simp only [Option.map_eq_some_iff]
  refine ⟨e, ?_, ?_⟩
  · rw [appl_keeps hf ha3 hc' (Ne.symm hij) halj hal]
    exact he
  · exact (appl_comm he hf ha2 hc hij hal halj).symm
end Go.Ev

namespace Go.Ev
open Go.RowKit
variable {P : Program} {C : Ctx} {B : Nat} {w0 : World}

/-! ### Regions that draw their order -/
def depsOf (ops : List Oper) (acc : List Nat) : List Nat :=
  match ops with
  | [] => acc
  | o :: os => depsOf os (acc ++ [o.after.toList.foldl (fun m e => bif Region.binds .any e then m ||| (1 <<< e.on) ||| acc.getD e.on 0 else m) 0])
/-- what must come before each operation, as masks -/
def closure (ops : Array Oper) : List Nat := depsOf ops.toList []
def clo (ops : Array Oper) (i : Nat) : Nat := (closure ops).getD i 0

def allLt (n : Nat) (p : Nat → Bool) : Bool := (List.range n).all p

def maskOf (cl : Nat → Nat) : List Edge → Nat
  | [] => 0
  | e :: es => bif Region.binds .any e then (1 <<< e.on) ||| cl e.on ||| maskOf cl es else maskOf cl es
def alw (cl : Nat → Nat) (nk i k : Nat) : Bool := decide (k < nk) || (cl i).testBit (k - nk)
/-- what an address in a slot points to: what the region has made, or what the slot showed ahead of it -/
def mkOf (p : Nat) : Nat → List Oper → Option (Nat × Oper)
  | _, [] => none
  | j, o :: r => match o.dst with
    | some d => cond (Nat.beq d p) (some (j, o)) (mkOf p (j + 1) r)
    | none => mkOf p (j + 1) r
def rootOf (ops : List Oper) (s : St) (nk : Nat) : Nat → Nat → Option Nat
  | 0, _ => none
  | f + 1, p => match mkOf p 0 ops with
    | some (j, o) => match o.op with
      | .alloc _ => some (nk + j)
      | .fieldAddr _ (.tmp q) _ => rootOf ops s nk f q
      | _ => none
    | none => match s.slots[p]? with
      | some (.one false [.ptr k _]) => some k
      | _ => none
def locOf (ops : List Oper) (s : St) (nk : Nat) (o : Oper) : Option Nat := match o.op with
  | .store _ (.tmp p) _ => rootOf ops s nk 4 p
  | .load _ (.tmp p) => rootOf ops s nk 4 p
  | _ => none
def locs (ops : Array Oper) (s : St) (nk : Nat) : List (Option Nat) := ops.toList.map (locOf ops.toList s nk)
def loc (lc : List (Option Nat)) (i : Nat) : Option Nat := lc.getD i none
/-- what an operation may look at -/
def alo (lc : List (Option Nat)) (cl : Nat → Nat) (nk i k : Nat) : Bool := match loc lc i with
  | some j => Nat.beq k j && alw cl nk i j
  | none => alw cl nk i k
theorem alo_le {lc : List (Option Nat)} {cl : Nat → Nat} {nk i k : Nat} (h : alo lc cl nk i k = true) : alw cl nk i k = true := by
  unfold alo at h
  split at h
  · rename_i j _
    simp only [Bool.and_eq_true] at h
    have := Nat.eq_of_beq_eq_true h.1
    subst this
    exact h.2
  · exact h
theorem alo_no {lc : List (Option Nat)} {cl : Nat → Nat} {nk i j : Nat} (h : (cl i).testBit j = false) : alo lc cl nk i (nk + j) = false := by
  cases ha : alo lc cl nk i (nk + j) with
  | false => rfl
  | true =>
    have := alo_le ha
    simp [alw, h] at this
    omega
/-- do they look at nothing that both may see? -/
def disj (lc : List (Option Nat)) (cl : Nat → Nat) (nk i j : Nat) : Bool := match loc lc i, loc lc j with
  | some a, some b => !Nat.beq a b
  | some a, none => !alw cl nk j a
  | none, some b => !alw cl nk i b
  | none, none => false
theorem disj_spec {lc : List (Option Nat)} {cl : Nat → Nat} {nk i j : Nat} (h : disj lc cl nk i j = true) (k : Nat) (hk : alo lc cl nk i k = true) : alo lc cl nk j k = false := by
  unfold disj at h
  unfold alo at hk ⊢
  split at h
  · rename_i a b h1 h2
    rw [h1] at hk; rw [h2]
    simp only [Bool.and_eq_true] at hk
    have := Nat.eq_of_beq_eq_true hk.1
    subst this
    simp only [Bool.not_eq_true'] at h
    simp [h]
  · rename_i a h1 h2
    rw [h1] at hk; rw [h2]
    simp only [Bool.and_eq_true] at hk
    have := Nat.eq_of_beq_eq_true hk.1
    subst this
    simpa using h
  · rename_i b h1 h2
    rw [h1] at hk; rw [h2]
    cases hb : Nat.beq k b with
    | false => simp [hb]
    | true =>
      have := Nat.eq_of_beq_eq_true hb
      subst this
      simp only at hk
      rw [hk] at h
      cases h
  · cases h
/-- may the region be run in the order of its text? -/
def regOK (P : Program) (C : Ctx) (ops : Array Oper) (cl : List Nat) (lc : List (Option Nat)) (nk : Nat) : Bool :=
  (List.range ops.size).all fun i => match ops[i]? with
    | none => false
    | some o => ((cl.getD i 0) == maskOf (fun k => cl.getD k 0) o.after.toList) && (o.after.toList.all fun e => !Region.binds .any e || decide (e.on < i)) &&
        (List.range i).all fun j => (cl.getD i 0).testBit j || match ops[j]? with
          | none => false
          | some x => x.apart ops o && (compat (kd P C x.op) (kd P C o.op) || disj lc (fun k => cl.getD k 0) nk j i)

structure RegOK (P : Program) (C : Ctx) (ops : Array Oper) (cl : Nat → Nat) (lc : List (Option Nat)) (nk : Nat) : Prop where
  lt : ∀ i o, ops[i]? = some o → ∀ e ∈ o.after.toList, Region.binds .any e = true → e.on < i
  gen : ∀ i o, ops[i]? = some o → cl i = maskOf cl o.after.toList
  ind : ∀ i j x y, ops[i]? = some x → ops[j]? = some y → j < i → (cl i).testBit j = false → y.apart ops x = true ∧ (compat (kd P C y.op) (kd P C x.op) = true ∨ disj lc cl nk j i = true)

theorem maskOf_bit {cl : Nat → Nat} {j : Nat} : ∀ {es : List Edge}, (maskOf cl es).testBit j = true → ∃ e ∈ es, Region.binds .any e = true ∧ (j = e.on ∨ (cl e.on).testBit j = true)
  | [], h => by simp [maskOf] at h
  | e :: es, h => by
    simp only [maskOf] at h
    cases hb : Region.binds .any e with
    | false =>
      rw [hb] at h
      obtain ⟨e', he', h'⟩ := maskOf_bit h
      exact ⟨e', by simp [he'], h'⟩
    | true =>
      rw [hb] at h
      simp only [cond_true, Nat.testBit_or, Bool.or_eq_true] at h
      rcases h with (h | h) | h
      · refine ⟨e, by simp, hb, .inl ?_⟩
        rw [Nat.one_shiftLeft, Nat.testBit_two_pow] at h
        simpa using (of_decide_eq_true h).symm
      · exact ⟨e, by simp, hb, .inr h⟩
      · obtain ⟨e', he', h'⟩ := maskOf_bit h
        exact ⟨e', by simp [he'], h'⟩

theorem regOK_spec {ops : Array Oper} {cl : List Nat} {lc : List (Option Nat)} {nk : Nat} (h : regOK P C ops cl lc nk = true) : RegOK P C ops (fun i => cl.getD i 0) lc nk := by
  have key : ∀ i o, ops[i]? = some o → cl.getD i 0 = maskOf (fun k => cl.getD k 0) o.after.toList ∧ (∀ e ∈ o.after.toList, Region.binds .any e = true → e.on < i) ∧
      ∀ j, j < i → (cl.getD i 0).testBit j = false → ∀ y, ops[j]? = some y → y.apart ops o = true ∧ (compat (kd P C y.op) (kd P C o.op) = true ∨ disj lc (fun k => cl.getD k 0) nk j i = true) := by
    intro i o ho
    have hi : i < ops.size := by
      rcases Nat.lt_or_ge i ops.size with h' | h'
      · exact h'
      · simp [Array.getElem?_eq_none h'] at ho
    have h1 := List.all_eq_true.1 h i (List.mem_range.2 hi)
    rw [ho] at h1
    simp only [Bool.and_eq_true, beq_iff_eq] at h1
    refine ⟨h1.1.1, fun e he hb => ?_, fun j hj hbit y hy => ?_⟩
    · have := List.all_eq_true.1 h1.1.2 e he
      simpa [hb] using this
    · have := List.all_eq_true.1 h1.2 j (List.mem_range.2 hj)
      rw [hy] at this
      simp only [hbit, Bool.false_or, Bool.and_eq_true, Bool.or_eq_true] at this
      exact this
  exact ⟨fun i o ho => (key i o ho).2.1, fun i o ho => (key i o ho).1, fun i j x y hx hy hji hbit => (key i x hx).2.2 j hji hbit y hy⟩

theorem RegOK.bit_lt {ops : Array Oper} {cl : Nat → Nat} {lc : List (Option Nat)} {nk : Nat} (hR : RegOK P C ops cl lc nk) : ∀ (n i : Nat), i ≤ n → i < ops.size → ∀ j, (cl i).testBit j = true → j < i
  | n, i, hin, hi, j, hj => by
    have ho : ops[i]? = some ops[i] := by simp [hi]
    rw [hR.gen i _ ho] at hj
    obtain ⟨e, he, hb, h⟩ := maskOf_bit hj
    have hlt := hR.lt i _ ho e he hb
    rcases h with rfl | h
    · exact hlt
    · cases n with
      | zero => omega
      | succ n =>
        have := hR.bit_lt n e.on (by omega) (by omega) j h
        omega

/-- an operation that is ready may come first -/
theorem front {ops : Array Oper} {cl : Nat → Nat} {lc : List (Option Nat)} {nk : Nat} (hR : RegOK P C ops cl lc nk) {i : Nat} {x : Oper} (hx : ops[i]? = some x) :
    ∀ {pre : List Nat} {post : List Nat} {s F : St}, (∀ j ∈ pre, j < i ∧ (cl i).testBit j = false) → (∀ j ∈ pre, (cl j).testBit i = false) → dRun P C ops (alo lc cl nk) nk (pre ++ i :: post) s = some F →
    ∃ s1, dOp P C ops (alo lc cl nk i) nk i s = some s1 ∧ dRun P C ops (alo lc cl nk) nk (pre ++ post) s1 = some F
  | [], post, s, F, _, _, h => by
    simp only [List.nil_append, dRun] at h ⊢
    split at h
    · rename_i s1 h1; exact ⟨s1, h1, h⟩
    · cases h
  | j :: pre, post, s, F, hp, hq, h => by
    simp only [List.cons_append, dRun] at h
    split at h
    · rename_i s1 h1
      obtain ⟨s2, h2, h3⟩ := front hR hx (fun k hk => hp k (by simp [hk])) (fun k hk => hq k (by simp [hk])) h
      obtain ⟨hji, hbit⟩ := hp j (by simp)
      have hbit' := hq j (by simp)
      have hyj : ∃ y, ops[j]? = some y := by
        unfold dOp at h1
        cases hy : ops[j]? with
        | none => rw [hy] at h1; cases h1
        | some y => exact ⟨y, rfl⟩
      obtain ⟨y, hy⟩ := hyj
      have hind := hR.ind i j x y hx hy hji hbit
      obtain ⟨s1', h4, h5⟩ := dOp_swap hy hx hind.1 (hind.2.imp id fun h => disj_spec h) (by omega) (alo_no hbit) (alo_no hbit') h1 h2
      refine ⟨s1', h4, ?_⟩
      simp only [List.cons_append, dRun, h5]
      exact h3
    · cases h

/-- what is left to do, in the order of the text -/
def left (n : Nat) (listed : Array Bool) : List Nat := (List.range n).filter fun i => !listed.getD i true

theorem wpAny_of_run (hC : CtxOK P C) {ops : Array Oper} {cl : Nat → Nat} {lc : List (Option Nat)} {nk : Nat} (hR : RegOK P C ops cl lc nk) {Q : Exit → Act → World → Prop} : ∀ (fuel : Nat) (listed : Array Bool) (E : Env) (s : St) (a : Act) (w : World) (F : St),
    listed.size = ops.size → (left ops.size listed).length ≤ fuel → (∀ i, i < ops.size → listed.getD i true = true → ∀ j, (cl i).testBit j = true → listed.getD j true = true) →
    Rel C B w0 E s a w → dRun P C ops (alo lc cl nk) nk (left ops.size listed) s = some F → (∀ E' a' w', Rel C B w0 E' F a' w' → Q .normal a' w') → wpAny P .any ops Q fuel listed a w := by
  have hready : ∀ (listed : Array Bool), listed.size = ops.size → Region.ready .any ops listed = [] → left ops.size listed = [] := by
    intro listed hsz hr
    cases hl : left ops.size listed with
    | nil => rfl
    | cons i rest =>
      exfalso
      have hi : i ∈ left ops.size listed := by rw [hl]; simp
      simp only [left, List.mem_filter, List.mem_range, Bool.not_eq_true'] at hi
      -- all before i are listed
      have hbefore : ∀ j, j < i → listed.getD j true = true := by
        intro j hj
        cases hb : listed.getD j true with
        | true => rfl
        | false =>
          have hjm : j ∈ left ops.size listed := by simp only [left, List.mem_filter, List.mem_range, Bool.not_eq_true']; exact ⟨by omega, hb⟩
          have hsorted : (left ops.size listed).Pairwise (· < ·) := List.Pairwise.filter _ List.pairwise_lt_range
          rw [hl] at hsorted hjm
          rcases List.mem_cons.1 hjm with rfl | h
          · omega
          · have := (List.pairwise_cons.1 hsorted).1 j h; omega
      have hmem : i ∈ Region.ready .any ops listed := by
        unfold Region.ready
        simp only [List.mem_filter, List.mem_range, Bool.and_eq_true, Bool.not_eq_true']
        refine ⟨hi.1, hi.2, ?_⟩
        have ho : ops[i]? = some ops[i] := by simp [hi.1]
        rw [ho]
        simp only [Option.map_some, Option.getD_some]
        rw [Array.all_eq_true']
        intro e he
        cases hb : Region.binds .any e with
        | false => rfl
        | true =>
          have hlt := hR.lt i _ ho e (by simpa using he) hb
          have := hbefore e.on hlt
          have hs : e.on < listed.size := by omega
          simp only [Bool.not_true, Bool.false_or]
          simp [Array.getD, hs] at this ⊢
          exact this
      rw [hr] at hmem
      cases hmem
  intro fuel
  induction fuel with
  | zero =>
    intro listed E s a w F hsz hfuel hdown h hrun hQ
    have hl : left ops.size listed = [] := List.length_eq_zero_iff.1 (by omega)
    rw [hl] at hrun
    cases hrun
    refine ⟨?_, hQ _ _ _ h⟩
    unfold Region.ready
    rw [List.filter_eq_nil_iff]
    intro i hi hcond
    simp only [Bool.and_eq_true] at hcond
    have : i ∈ left ops.size listed := by simp only [left, List.mem_filter]; exact ⟨hi, hcond.1⟩
    rw [hl] at this
    cases this
  | succ fuel ih =>
    intro listed E s a w F hsz hfuel hdown h hrun hQ
    refine ⟨fun hr => ?_, fun i hi => ?_⟩
    · rw [hready listed hsz hr] at hrun
      cases hrun
      exact hQ _ _ _ h
    · unfold Region.ready at hi
      simp only [List.mem_filter, List.mem_range, Bool.and_eq_true, Bool.not_eq_true'] at hi
      obtain ⟨hin, hnl, hdeps⟩ := hi
      have ho : ops[i]? = some ops[i] := by simp [hin]
      rw [ho] at hdeps
      simp only [Option.map_some, Option.getD_some] at hdeps
      have hdeps' : ∀ e ∈ ops[i].after.toList, Region.binds .any e = true → listed.getD e.on false = true := by
        intro e he hb
        have := (Array.all_eq_true'.1 hdeps) e (by simpa using he)
        simpa [hb] using this
      have hgd : ∀ j, listed.getD j false = true → listed.getD j true = true := by
        intro j hj
        by_cases hs : j < listed.size <;> simp [Array.getD, hs] at hj ⊢
        exact hj
      have hclo : ∀ j, (cl i).testBit j = true → listed.getD j true = true := by
        intro j hj
        rw [hR.gen i _ ho] at hj
        obtain ⟨e, he, hb, h'⟩ := maskOf_bit hj
        have hl := hgd _ (hdeps' e he hb)
        rcases h' with rfl | h'
        · exact hl
        · have hlt := hR.lt i _ ho e he hb
          exact hdown e.on (by omega) hl j h'
      have him : i ∈ left ops.size listed := by simp only [left, List.mem_filter, List.mem_range, Bool.not_eq_true']; exact ⟨hin, hnl⟩
      obtain ⟨pre, post, hpp⟩ := List.append_of_mem him
      have hsorted : (left ops.size listed).Pairwise (· < ·) := List.Pairwise.filter _ List.pairwise_lt_range
      rw [hpp] at hsorted
      have hpre : ∀ j ∈ pre, j < i := fun j hj => (List.pairwise_append.1 hsorted).2.2 j hj i (by simp)
      have hpost : ∀ j ∈ post, i < j := fun j hj => (List.pairwise_cons.1 (List.pairwise_append.1 hsorted).2.1).1 j hj
      have hunl : ∀ j ∈ pre, listed.getD j true = false := by
        intro j hj
        have : j ∈ left ops.size listed := by rw [hpp]; simp [hj]
        simp only [left, List.mem_filter, Bool.not_eq_true'] at this
        exact this.2
      rw [hpp] at hrun
      obtain ⟨s1, h1, h2⟩ := front hR ho (fun j hj => ⟨hpre j hj, by
          cases hb : (cl i).testBit j with
          | false => rfl
          | true => have := hclo j hb; rw [hunl j hj] at this; cases this⟩)
        (fun j hj => by
          cases hb : (cl j).testBit i with
          | false => rfl
          | true => have := hR.bit_lt j j (Nat.le_refl _) (by have := hpre j hj; omega) i hb; have := hpre j hj; omega) hrun
      have hget : ∀ k, (listed.setIfInBounds i true).getD k true = if k = i then true else listed.getD k true := by
        intro k
        by_cases hk : k = i
        · subst hk
          have : k < listed.size := by omega
          simp [Array.getD, this]
        · rw [if_neg hk]
          by_cases hs : k < listed.size
          · simp [Array.getD, hs, Ne.symm hk]
          · simp [Array.getD, hs]
      have hleft : left ops.size (listed.setIfInBounds i true) = pre ++ post := by
        have e1 : left ops.size (listed.setIfInBounds i true) = (left ops.size listed).filter (fun k => k != i) := by
          simp only [left, List.filter_filter]
          refine List.filter_congr fun k _ => ?_
          rw [hget k]
          by_cases hk : k = i
          · simp [hk]
          · simp [hk]
        rw [e1, hpp, List.filter_append, List.filter_cons]
        simp only [bne_self_eq_false, Bool.false_eq_true, if_false]
        rw [List.filter_eq_self.2, List.filter_eq_self.2]
        · intro k hk; have := hpost k hk; simp; omega
        · intro k hk; have := hpre k hk; simp; omega
      refine dOp_sound hC h h1 fun E' a' w' h' => ih _ E' s1 a' w' F (by simpa using hsz) ?_ ?_ h' (by rw [hleft]; exact h2) hQ
      · rw [hleft]
        have : (left ops.size listed).length = (pre ++ i :: post).length := by rw [hpp]
        simp at this ⊢
        omega
      · intro k hk hkl j hj
        rw [hget] at hkl ⊢
        by_cases hji : j = i
        · rw [if_pos hji]
        · rw [if_neg hji]
          by_cases hki : k = i
          · subst hki; exact hclo j hj
          · rw [if_neg hki] at hkl
            exact hdown k hk hkl j hj

theorem region_draw (hm : P.follows .mixedOrders = true) (hC : CtxOK P C) {ops : Array Oper} {cl : List Nat} {lc : List (Option Nat)} {nk : Nat} (hR : regOK P C ops cl lc nk = true) {id : Nat} {Q : Exit → Act → World → Prop} {E : Env} {s : St} {a : Act} {w : World} {F : St}
    (h : Rel C B w0 E s a w) (hrun : dRun P C ops (alo lc (fun i => cl.getD i 0) nk) nk (List.range ops.size) s = some F) (hQ : ∀ β' a' w', Rel C B w0 β' F a' w' → Q .normal a' w') : (Code.region id ops true).wp P Q a w := by
  have hl : left ops.size (Array.replicate ops.size false) = List.range ops.size := by
    unfold left
    rw [List.filter_eq_self]
    intro i hi
    have := List.mem_range.1 hi
    simp [Array.getD, this]
  refine wp_region_any hm (wpAny_of_run hC (regOK_spec hR) ops.size _ E s a _ F (by simp) (by rw [hl]; simp) ?_ h.drew (by rw [hl]; exact hrun) hQ)
  intro i hi h0
  simp [Array.getD, hi] at h0
end Go.Ev
