/- How allocations and stores keep the relation. Holds for every program of the model. -/
import Derived.Test.YtgaapeaclbpaeaaEvD
import Derived.Laws.CopyOwn
import Derived.Laws.OwnMore
namespace Go.Ev
open Go.RowKit

def callable (P : Program) (f : FuncId) : Prop := ∃ fn, P.funcs[f]? = some fn ∧ (fn.name == "runtime.NumGoroutine") = false ∧ fn.body.isNone = false

/-- what a summary promises of a call -/
def SumOK (P : Program) (C : Ctx) (f : FuncId) (first caps : Array Value) (sm : Summ) : Prop :=
  ∀ (E : Env) (w : World) (args : List AV) (vs : Array Value) (rd : Nat → Option Blk) (r : AV), sm.pre args rd = true → sm.fn args rd = some r → AllR (AV.rel C E w) args vs.toList →
    (∀ k b, rd k = some b → BlkR C E w k b) → (∀ n, w.heap.size ≤ n → E.F n) → (∀ n, E.A n → n < w.heap.size) →
    Calls P f (first ++ vs ++ caps) w fun e w' => ∃ v, e = .returned v ∧ AV.rel C E w' r v ∧ Below w.heap.size w w'

/-- a function that the model itself answers for -/
def ExtF (P : Program) (f : FuncId) (sm : Summ) : Prop :=
  ∀ (C : Ctx) (E : Env) (w : World) (args : List AV) (vs : Array Value) (rd : Nat → Option Blk) (r : AV), sm.pre args rd = true → sm.fn args rd = some r → AllR (AV.rel C E w) args vs.toList → (∀ k b, rd k = some b → BlkR C E w k b) →
    ∃ v, (callFunc f vs).run P w = .ok (.value v) w ∧ AV.rel C E w r v
/-- the same of a function that takes lists over, or writes into one -/
def WSumOK (P : Program) (C : Ctx) (f : FuncId) (sm : WSumm) : Prop :=
  ∀ (B : Nat) (w0 : World) (E : Env) (s : St) (a : Act) (w : World) (al : Nat → Bool) (args : List AV) (vs : Array Value) (r : AV) (ch : List (Nat × Option Blk)), sm.pre args (s.rd al) = true → sm.fn args (s.rd al) = some (r, ch) →
    (ch.all fun p => (s.rd al p.1).isSome) = true → Rel C B w0 E s a w → AllR (AV.rel C E w) args vs.toList →
    Calls P f vs w fun e w' => ∃ v E', e = .returned v ∧ Rel C B w0 E' { s with heap := chg ch s.heap } a w' ∧ AV.rel C E' w' r v
structure CtxOK (P : Program) (C : Ctx) : Prop where
  sum : ∀ f sm, C.sum f = some sm → (callable P f ∧ SumOK P C f #[] #[] sm) ∨ ExtF P f sm
  fsum : ∀ i sm, C.fsum i = some sm → ∃ f first caps, C.fval i = .func (.func f) first caps ∧ callable P f ∧ SumOK P C f first caps sm
  wsum : ∀ f sm, C.wsum f = some sm → callable P f ∧ WSumOK P C f sm

variable {P : Program} {C : Ctx} {B : Nat} {w0 : World} {E E' : Env} {s : St} {a : Act} {w w' : World}

theorem cell_heap {b o : Nat} (h : w'.heap[b]? = w.heap[b]?) : w'.cell? ⟨b, o, none⟩ = w.cell? ⟨b, o, none⟩ := by
  simp [World.cell?, h]
theorem cell_lt {b o : Nat} {u} (h : w.cell? ⟨b, o, none⟩ = some u) : b < w.heap.size := World.block_lt_of_cell? (a := ⟨b, o, none⟩) w h
theorem heap_get_lt {n : Nat} {o} (h : w.heap[n]? = some o) : n < w.heap.size := by
  rcases Nat.lt_or_ge n w.heap.size with h' | h'
  · exact h'
  · simp [Array.getElem?_eq_none h'] at h
theorem list_get_lt {α : Type} {l : List α} {n : Nat} {o} (h : l[n]? = some o) : n < l.length := by
  rcases Nat.lt_or_ge n l.length with h' | h'
  · exact h'
  · simp [List.getElem?_eq_none h'] at h

theorem SV.rel_below {v x} (h : SV.rel C E w x v) (hb : Below w.heap.size w w') : SV.rel C E w' x v :=
  SV.rel_ext h ⟨fun _ _ h => h, fun _ _ h => h, fun _ _ h => h, fun _ _ _ h => h, hb.size, fun b o u _ hc => by rw [cell_heap (hb.block b (cell_lt hc))]; exact hc⟩
theorem AV.rel_below {v x} (h : AV.rel C E w x v) (hb : Below w.heap.size w w') : AV.rel C E w' x v :=
  AV.rel_map h fun _ _ hs => SV.rel_below hs hb
theorem grownBy_of_below (hb : Below w.heap.size w w') (r : Option Nat) : w.grownBy w' r := ⟨hb.os, hb.tape, hb.output, hb.size, fun k hk _ => hb.block k hk⟩
theorem BlkR.below {k b} (h : BlkR C E w k b) (hb : Below w.heap.size w w') : BlkR C E w' k b := by
  cases b with
  | cells e l =>
    obtain ⟨n, hn, hA, vs, hv, hr, h1⟩ := h
    exact ⟨n, hn, hA, vs, by rw [hb.block n (heap_get_lt hv)]; exact hv, hr.mono fun _ _ _ hs => SV.rel_below hs hb, h1⟩
  | grow e xs =>
    obtain ⟨v, hv, hβ, hA, hfl, ho⟩ := h
    exact ⟨v, hv, hβ, hA, hfl, ho.kept (grownBy_of_below hb none) (by cases v.ownBlock <;> simp)⟩

theorem Rel.world (h : Rel C B w0 E s a w) (hb : Below w.heap.size w w') : Rel C B w0 E s a w' where
  slots := h.slots.mono fun _ _ _ hs => AV.rel_below hs hb
  defers := h.defers
  heap k b hk := (h.heap k b hk).below hb
  free := h.free
  lo n hn := ⟨(h.lo n hn).1, Nat.lt_of_lt_of_le (h.lo n hn).2 hb.size⟩
  inj := h.inj
  below := h.below.trans (belowX_of hb h.base)
  base := Nat.le_trans h.base hb.size
  ok := h.ok

theorem Rel.drew (h : Rel C B w0 E s a w) : Rel C B w0 E s a w.drew := h.world (Below.refl _ _).drew

def upd {α : Type} (β : Nat → Option α) (k : Nat) (n : α) : Nat → Option α := fun x => if x = k then some n else β x
theorem upd_same {α : Type} {β : Nat → Option α} {k n} : upd β k n k = some n := by simp [upd]
theorem upd_ne {α : Type} {β : Nat → Option α} {k n x} (h : x ≠ k) : upd β k n x = β x := by simp [upd, h]
theorem upd_keep {α : Type} {β : Nat → Option α} {k n} (h : β k = none) : ∀ x m, β x = some m → upd β k n x = some m := by
  intro x m hm
  rw [upd_ne]
  · exact hm
  · rintro rfl; rw [h] at hm; cases hm

theorem below_alloc (o : Obj) : Below w.heap.size w (w.alloc o) := (Below.refl _ _).alloc (Nat.le_refl _) _

theorem put_slots {d : Option Nat} {x : AV} {u : Value} {E : Env} {w : World} {s : St} {a : Act} (hs : AllR (AV.rel C E w) s.slots a.tmps.toList) (hx : AV.rel C E w x u) (h : List (Option (Option Blk))) :
    AllR (AV.rel C E w) { s.put d x with heap := h }.slots (a.put d u).tmps.toList := by
  cases d with
  | none => exact hs
  | some d => simpa [St.put, Act.put] using hs.set d hx
theorem put_defers {d : Option Nat} {u : Value} {a : Act} : (a.put d u).defers = a.defers := by cases d <;> rfl

/-- one key is laid anew: a free key gets a new thing; or a key keeps its place and gets new content. All else stays. -/
theorem Rel.lay (h : Rel C B w0 E s a w) {k : Nat} {b : Blk} {x : AV} {u : Value} (d : Option Nat)
    (hkl : k < s.heap.length)
    (hext : ∀ x v, SV.rel C E w x v → SV.rel C E' w' x v)
    (hblk : ∀ k' b', k' ≠ k → s.heap[k']? = some (some (some b')) → BlkR C E w k' b' → BlkR C E' w' k' b')
    (hnew : BlkR C E' w' k b)
    (hfree : ∀ k', k' ≠ k → E.β k' = none ∧ E.σ k' = none → E'.β k' = none ∧ E'.σ k' = none)
    (hlo : ∀ n, E'.A n → (B ≤ n ∨ E'.X n) ∧ n < w'.heap.size)
    (hinj : ∀ k' b' n, k' ≠ k → s.heap[k']? = some (some (some b')) → E'.blk k' = some n → E.blk k' = some n ∧ E'.blk k ≠ some n)
    (hbelow : BelowX E'.X B w0 w') (hbase : B ≤ w'.heap.size) (hok : EOK C B E')
    (hx : AV.rel C E' w' x u) : Rel C B w0 E' { s.put d x with heap := s.heap.set k (some (some b)) } (a.put d u) w' where
  slots := put_slots (h.slots.mono fun _ _ _ hs => AV.rel_map hs hext) hx _
  defers := by rw [put_defers]; exact h.defers
  heap k' b' hb' := by
    simp only [List.getElem?_set] at hb'
    by_cases hkk : k = k'
    · subst hkk
      rw [if_pos rfl, if_pos hkl] at hb'
      cases hb'
      exact hnew
    · rw [if_neg hkk] at hb'
      exact hblk k' b' (Ne.symm hkk) hb' (h.heap k' b' hb')
  free k' hk' := by
    have hne : k' ≠ k := by
      rintro rfl
      simp [hkl] at hk'
    simp only [List.getElem?_set, if_neg (Ne.symm hne)] at hk'
    exact hfree k' hne (h.free k' hk')
  lo := hlo
  inj k1 k2 b1 b2 n h1 h2 e1 e2 := by
    simp only [List.getElem?_set] at h1 h2
    by_cases e : k = k1
    · by_cases e' : k = k2
      · omega
      · rw [if_neg e'] at h2
        subst e
        exact absurd e1 (hinj k2 b2 n (Ne.symm e') h2 e2).2
    · rw [if_neg e] at h1
      by_cases e' : k = k2
      · subst e'
        exact absurd e2 (hinj k1 b1 n (Ne.symm e) h1 e1).2
      · rw [if_neg e'] at h2
        exact h.inj k1 k2 b1 b2 n h1 h2 (hinj k1 b1 n (Ne.symm e) h1 e1).1 (hinj k2 b2 n (Ne.symm e') h2 e2).1
  below := hbelow
  base := hbase
  ok := hok

/-- the place of a thing that is alive is one of those to be left alone -/
theorem Rel.blkA (h : Rel C B w0 E s a w) {k b n} (hk : s.heap[k]? = some (some (some b))) (hn : E.blk k = some n) : E.A n := by
  have := h.heap k b hk
  unfold Env.blk at hn
  cases b with
  | cells e l =>
    obtain ⟨m, hm, hA, _⟩ := this
    rw [hm] at hn; cases hn; exact hA
  | grow e xs =>
    obtain ⟨v, hv, hβ, hA, _⟩ := this
    rw [hβ, hv] at hn
    exact hA n hn

/-- a new block of cells -/
theorem Rel.alloc (h : Rel C B w0 E s a w) {k : Nat} (hk : s.heap[k]? = some none) {e : TypeId} {l : List SV} {vs : Array Value} (hv : AllR (SV.rel C E w) l vs.toList) (h1 : ∀ v ∈ vs.toList, oneCell v = true)
    {x : AV} {u : Value} (d : Option Nat)
    (hx : AV.rel C { E with β := upd E.β k w.heap.size, A := fun n => E.A n ∨ n = w.heap.size } (w.alloc (.cells vs e)) x u) :
    Rel C B w0 { E with β := upd E.β k w.heap.size, A := fun n => E.A n ∨ n = w.heap.size } { s.put d x with heap := s.heap.set k (some (some (.cells e l))) } (a.put d u) (w.alloc (.cells vs e)) := by
  obtain ⟨hkn, hks⟩ := h.free k (.inl hk)
  have hb := below_alloc (w := w) (.cells vs e)
  have hext : ∀ x v, SV.rel C E w x v → SV.rel C { E with β := upd E.β k w.heap.size, A := fun n => E.A n ∨ n = w.heap.size } (w.alloc (.cells vs e)) x v := fun x v hx =>
    SV.rel_ext hx ⟨upd_keep hkn, fun _ _ h => h, fun n hn h => h.elim id fun e => by omega, fun _ _ _ h => h, hb.size, fun b o u _ hc => by rw [cell_heap (hb.block b (cell_lt hc))]; exact hc⟩
  refine h.lay d (list_get_lt hk) hext ?_ ?_ ?_ ?_ ?_ (h.below.trans (belowX_of hb h.base)) (by have := h.base; simp; omega) (h.ok.to rfl rfl fun _ h => h) hx
  · intro k' b' hne _ hbl
    cases b' with
    | cells e' l' =>
      obtain ⟨n, hn, hA, vs', hv', hr', h1'⟩ := hbl
      exact ⟨n, upd_keep hkn _ _ hn, .inl hA, vs', by rw [hb.block n (heap_get_lt hv')]; exact hv', hr'.mono fun _ _ _ => hext _ _, h1'⟩
    | grow e' xs =>
      obtain ⟨v, hv', hβ, hA, hfl, ho⟩ := hbl
      exact ⟨v, hv', by simp only; rw [upd_ne hne]; exact hβ, fun n hn => .inl (hA n hn), hfl, ho.kept (grownBy_of_below hb none) (by cases v.ownBlock <;> simp)⟩
  · exact ⟨w.heap.size, upd_same, .inr rfl, vs, by show (w.heap.push _)[w.heap.size]? = _; simp, hv.mono fun _ _ _ => hext _ _, h1⟩
  · intro k' hne hf
    exact ⟨by simp only; rw [upd_ne hne]; exact hf.1, hf.2⟩
  · rintro n (hn | rfl)
    · have := h.lo n hn; exact ⟨this.1, by simp; omega⟩
    · exact ⟨.inl h.base, by simp⟩
  · intro k' b' n hne hk' hn
    have e1 : Env.blk { E with β := upd E.β k w.heap.size, A := fun n => E.A n ∨ n = w.heap.size } k' = E.blk k' := by
      simp only [Env.blk]; rw [upd_ne hne]
    rw [e1] at hn
    refine ⟨hn, ?_⟩
    have := (h.lo n (h.blkA hk' hn)).2
    simp only [Env.blk, upd_same]
    intro e; cases e; omega

/-- a store into a block of cells -/
theorem Rel.store (h : Rel C B w0 E s a w) {k n : Nat} {e : TypeId} {l l' : List SV} {vs vs' : Array Value} (hk : s.heap[k]? = some (some (some (.cells e l)))) (hn : E.β k = some n) (hA : E.A n)
    (hv0 : w.heap[n]? = some (.cells vs e (0, 0))) (hv : AllR (SV.rel C E w) l' vs'.toList) (h1 : ∀ v ∈ vs'.toList, oneCell v = true) (d : Option Nat) :
    Rel C B w0 E { s.put d undefA with heap := s.heap.set k (some (some (.cells e l'))) } (a.put d undef) (w.setRow n vs') := by
  have hext : ∀ x v, SV.rel C E w x v → SV.rel C E (w.setRow n vs') x v := fun x v hx => SV.rel_ext hx ⟨fun _ _ h => h, fun _ _ h => h, fun _ _ h => h, fun _ _ _ h => h, by simp, fun b o u hb hc => by
    rw [cell_setRow_other]
    · exact hc
    · rintro rfl; exact hb hA⟩
  have hblkk : E.blk k = some n := by simp [Env.blk, hn]
  refine h.lay d (list_get_lt hk) hext ?_ ⟨n, hn, hA, vs', setRow_heap w n vs vs' e _ hv0, hv.mono fun _ _ _ => hext _ _, h1⟩ (fun _ _ h => h) (fun m hm => by simpa using h.lo m hm) ?_ (h.below.trans ⟨rfl, rfl, rfl, by simp, fun k hk hx => setRow_other _ _ _ _ (by rintro rfl; rcases (h.lo k hA).1 with h' | h'; omega; exact hx h')⟩) (by simpa using h.base) (h.ok.to rfl rfl fun _ h => h) (undef_rel C E _)
  · intro k' b' hne hk' hbl
    have hne' : E.blk k' ≠ some n := fun e => hne (h.inj k' k _ _ n hk' hk e hblkk)
    cases b' with
    | cells e' l' =>
      obtain ⟨m, hm, hA', us, hu, hr', h1'⟩ := hbl
      have : m ≠ n := by rintro rfl; exact hne' (by simp [Env.blk, hm])
      exact ⟨m, hm, hA', us, by rw [setRow_other _ _ _ _ this]; exact hu, hr'.mono fun _ _ _ => hext _ _, h1'⟩
    | grow e' xs =>
      obtain ⟨v, hv', hβ, hA', hfl, ho⟩ := hbl
      refine ⟨v, hv', hβ, hA', hfl, ho.kept (row := some n) ⟨rfl, rfl, rfl, by simp, fun m _ hm => setRow_other _ _ _ _ (fun e => hm (by rw [e]))⟩ ?_⟩
      right
      intro e
      exact hne' (by simp [Env.blk, hβ, hv', e])
  · intro k' b' m hne hk' hm
    exact ⟨hm, fun e => hne (h.inj k' k _ _ m hk' hk hm e)⟩

/-- a store into an owned list -/
theorem Rel.storeGrow (h : Rel C B w0 E s a w) {k : Nat} {e : TypeId} {xs ys : VL} {v : Value} {g : Nat} (hk : s.heap[k]? = some (some (some (.grow e xs)))) (hv : E.σ k = some v) (hβ : E.β k = none) (hg : v.ownBlock = some g) (hA : E.A g)
    (hfl : ys.flat = true) (ho : w'.ownsRow 0 e ys.wd v ys.len ys.vals) (hgr : w.grownBy w' (some g)) (d : Option Nat) :
    Rel C B w0 E { s.put d undefA with heap := s.heap.set k (some (some (.grow e ys))) } (a.put d undef) w' := by
  have hext : ∀ x v, SV.rel C E w x v → SV.rel C E w' x v := fun x v hx => SV.rel_ext hx ⟨fun _ _ h => h, fun _ _ h => h, fun _ _ h => h, fun _ _ _ h => h, hgr.size, fun b o u hb hc => by
    rw [cell_heap (hgr.block b (cell_lt hc) (fun e => hb (by cases e; exact hA)))]; exact hc⟩
  have hblkk : E.blk k = some g := by simp [Env.blk, hβ, hv, hg]
  refine h.lay d (list_get_lt hk) hext ?_ ⟨v, hv, hβ, fun n hn => by rw [hg] at hn; cases hn; exact hA, hfl, ho⟩ (fun _ _ h => h) (fun m hm => ⟨(h.lo m hm).1, Nat.lt_of_lt_of_le (h.lo m hm).2 hgr.size⟩) ?_
    (h.below.grown hgr h.base (fun k hk => by cases hk; exact (h.lo g hA).1)) (Nat.le_trans h.base hgr.size) (h.ok.to rfl rfl fun _ h => h) (undef_rel C E _)
  · intro k' b' hne hk' hbl
    have hne' : E.blk k' ≠ some g := fun e => hne (h.inj k' k _ _ g hk' hk e hblkk)
    cases b' with
    | cells e' l' =>
      obtain ⟨m, hm, hA', us, hu, hr', h1'⟩ := hbl
      have : m ≠ g := by rintro rfl; exact hne' (by simp [Env.blk, hm])
      exact ⟨m, hm, hA', us, by rw [hgr.block m (heap_get_lt hu) (fun e => this (by cases e; rfl))]; exact hu, hr'.mono fun _ _ _ => hext _ _, h1'⟩
    | grow e' zs =>
      obtain ⟨u, hu, hβ', hA', hfl', ho'⟩ := hbl
      exact ⟨u, hu, hβ', hA', hfl', ho'.kept hgr (.inr fun e => hne' (by simp [Env.blk, hβ', hu, e]))⟩
  · intro k' b' m hne hk' hm
    exact ⟨hm, fun e => hne (h.inj k' k _ _ m hk' hk hm e)⟩

/-- a key dies -/
theorem Rel.kill (h : Rel C B w0 E s a w) (k : Nat) (_hk : ∀ x, s.heap[k]? = some x → x ≠ none) : Rel C B w0 E { s with heap := s.heap.set k (some none) } a w where
  slots := h.slots
  defers := h.defers
  heap k' b hb := by
    simp only [List.getElem?_set] at hb
    split at hb
    · split at hb <;> cases hb
    · exact h.heap k' b hb
  free k' hk' := by
    simp only [List.getElem?_set] at hk'
    split at hk'
    · rename_i e
      split at hk'
      · rcases hk' with hk' | hk' <;> cases hk'
      · subst e; exact h.free k (.inr (List.getElem?_eq_none (by omega)))
    · exact h.free k' hk'
  lo := h.lo
  inj k1 k2 b1 b2 n h1 h2 := by
    simp only [List.getElem?_set] at h1 h2
    split at h1
    · split at h1 <;> cases h1
    · split at h2
      · split at h2 <;> cases h2
      · exact h.inj k1 k2 b1 b2 n h1 h2
  below := h.below
  base := h.base
  ok := h.ok

/-- a free key gets an owned list: a new one, or one that was another key's (which is dead) -/
theorem Rel.own (h : Rel C B w0 E s a w) {k : Nat} (hk : s.heap[k]? = some none) {e : TypeId} {ys : VL} {v : Value} {row : Option Nat} (hv : ∃ b n c, v = .slice b n c)
    (hfl : ys.flat = true) (ho : w'.ownsRow 0 e ys.wd v ys.len ys.vals) (hgr : w.grownBy w' row) (hrow : ∀ g, row = some g → E.A g ∧ ∀ k' b', s.heap[k']? = some (some (some b')) → E.blk k' ≠ some g)
    (hblk : ∀ g, v.ownBlock = some g → some g = row ∨ w.heap.size ≤ g) (d : Option Nat) :
    ∃ E', Rel C B w0 E' { s.put d (.one false [.own k]) with heap := s.heap.set k (some (some (.grow e ys))) } (a.put d v) w' := by
  obtain ⟨hkn, hks⟩ := h.free k (.inl hk)
  refine ⟨{ E with σ := upd E.σ k v, A := fun n => E.A n ∨ v.ownBlock = some n }, ?_⟩
  have hext : ∀ x u, SV.rel C E w x u → SV.rel C { E with σ := upd E.σ k v, A := fun n => E.A n ∨ v.ownBlock = some n } w' x u := fun x u hx =>
    SV.rel_ext hx ⟨fun _ _ h => h, upd_keep hks, fun n hn h => h.elim id fun hv => by
      rcases hblk n hv with e | e
      · exact (hrow n e.symm).1
      · omega, fun _ _ _ h => h, hgr.size, fun b o u hb hc => by
      rw [cell_heap (hgr.block b (cell_lt hc) (fun e => hb (hrow b e.symm).1))]; exact hc⟩
  have hlt := ho.lt
  refine h.lay d (list_get_lt hk) hext ?_ ⟨v, upd_same, hkn, fun n hn => .inr hn, hfl, ho⟩ ?_ ?_ ?_ (h.below.grown hgr h.base (fun g hg => (h.lo g (hrow g hg).1).1)) (Nat.le_trans h.base hgr.size) (h.ok.to rfl rfl (upd_keep hks 0)) ⟨upd_same, hv⟩
  · intro k' b' hne hk' hbl
    have hne' : ∀ g, row = some g → E.blk k' ≠ some g := fun g hg => (hrow g hg).2 k' b' hk'
    cases b' with
    | cells e' l' =>
      obtain ⟨m, hm, hA', us, hu, hr', h1'⟩ := hbl
      have hmr : some m ≠ row := by intro e; exact hne' m e.symm (by simp [Env.blk, hm])
      exact ⟨m, hm, .inl hA', us, by rw [hgr.block m (heap_get_lt hu) hmr]; exact hu, hr'.mono fun _ _ _ => hext _ _, h1'⟩
    | grow e' zs =>
      obtain ⟨u, hu, hβ', hA', hfl', ho'⟩ := hbl
      refine ⟨u, by simp only; rw [upd_ne hne]; exact hu, hβ', fun n hn => .inl (hA' n hn), hfl', ho'.kept hgr ?_⟩
      cases hub : u.ownBlock with
      | none => exact .inl rfl
      | some m =>
        right
        intro e
        exact hne' m e.symm (by simp [Env.blk, hβ', hu, hub])
  · intro k' hne hf
    exact ⟨hf.1, by simp only; rw [upd_ne hne]; exact hf.2⟩
  · rintro n (hn | hn)
    · exact ⟨(h.lo n hn).1, Nat.lt_of_lt_of_le (h.lo n hn).2 hgr.size⟩
    · refine ⟨?_, (hlt n hn).2⟩
      rcases hblk n hn with e | e
      · exact (h.lo n (hrow n e.symm).1).1
      · exact .inl (Nat.le_trans h.base e)
  · intro k' b' n hne hk' hn
    have e1 : Env.blk { E with σ := upd E.σ k v, A := fun n => E.A n ∨ v.ownBlock = some n } k' = E.blk k' := by
      simp only [Env.blk]; rw [upd_ne hne]
    rw [e1] at hn
    refine ⟨hn, ?_⟩
    simp only [Env.blk, hkn, upd_same, Option.bind_some]
    intro hv'
    rcases hblk n hv' with e | e
    · exact (hrow n e.symm).2 k' b' hk' hn
    · have := (h.lo n (h.blkA hk' hn)).2; omega
end Go.Ev
