/- What the evaluator's values stand for in a world, and that this goes over to a later world. Holds for every program of the model. -/
import Derived.Test.YtgaapeaclbpaeaaEvA
namespace Go.Ev
open Go.RowKit

/-! ### What abstract values stand for -/
def AllR {α β : Type} (R : α → β → Prop) (l : List α) (m : List β) : Prop :=
  l.length = m.length ∧ ∀ (i : Nat) (a : α) (b : β), l[i]? = some a → m[i]? = some b → R a b

theorem AllR.nil {α β : Type} {R : α → β → Prop} : AllR R [] [] := ⟨rfl, by simp⟩
theorem AllR.cons {α β : Type} {R : α → β → Prop} {a b l m} (h : R a b) (t : AllR R l m) : AllR R (a :: l) (b :: m) := by
  refine ⟨by simp [t.1], fun i x y hx hy => ?_⟩
  cases i with
  | zero => simp at hx hy; subst hx hy; exact h
  | succ i => simp at hx hy; exact t.2 i x y hx hy
theorem AllR.uncons {α β : Type} {R : α → β → Prop} {a l m} (t : AllR R (a :: l) m) : ∃ b m', m = b :: m' ∧ R a b ∧ AllR R l m' := by
  cases m with
  | nil => have := t.1; simp at this
  | cons b m' =>
    refine ⟨b, m', rfl, t.2 0 a b rfl rfl, by have := t.1; simpa using this, fun i x y hx hy => t.2 (i + 1) x y (by simpa using hx) (by simpa using hy)⟩
theorem AllR.unnil {α β : Type} {R : α → β → Prop} {m} (t : AllR R ([] : List α) m) : m = ([] : List β) := by
  have := t.1; simp at this; exact List.length_eq_zero_iff.1 (by omega) 
theorem AllR.mono {α β : Type} {R S : α → β → Prop} {l m} (h : ∀ a b, a ∈ l → R a b → S a b) (t : AllR R l m) : AllR S l m :=
  ⟨t.1, fun i a b ha hb => h a b (List.mem_of_getElem? ha) (t.2 i a b ha hb)⟩
theorem AllR.get {α β : Type} {R : α → β → Prop} {l : List α} {m : List β} (t : AllR R l m) {i : Nat} {a : α} (h : l[i]? = some a) : ∃ b, m[i]? = some b ∧ R a b := by
  have hi : i < l.length := by
    rcases Nat.lt_or_ge i l.length with h' | h'
    · exact h'
    · simp [List.getElem?_eq_none h'] at h
  have hm : i < m.length := t.1 ▸ hi
  exact ⟨m[i], by simp [hm], t.2 i a m[i] h (by simp [hm])⟩
theorem AllR.app {α β : Type} {R : α → β → Prop} {l m l' m'} (t : AllR R l m) (t' : AllR R l' m') : AllR R (l ++ l') (m ++ m') := by
  refine ⟨by simp [t.1, t'.1], fun i a b ha hb => ?_⟩
  rcases Nat.lt_or_ge i l.length with h | h
  · rw [List.getElem?_append_left h] at ha
    rw [List.getElem?_append_left (t.1 ▸ h)] at hb
    exact t.2 i a b ha hb
  · rw [List.getElem?_append_right h] at ha
    rw [List.getElem?_append_right (t.1 ▸ h)] at hb
    rw [← t.1] at hb
    exact t'.2 _ a b ha hb
theorem AllR.take {α β : Type} {R : α → β → Prop} {l m} (t : AllR R l m) (n : Nat) : AllR R (l.take n) (m.take n) := by
  refine ⟨by simp [t.1], fun i a b ha hb => ?_⟩
  rw [List.getElem?_take] at ha hb
  split at ha
  · rename_i h
    rw [if_pos h] at hb
    exact t.2 i a b ha hb
  · cases ha
theorem AllR.drop {α β : Type} {R : α → β → Prop} {l m} (t : AllR R l m) (n : Nat) : AllR R (l.drop n) (m.drop n) := by
  refine ⟨by simp [t.1], fun i a b ha hb => ?_⟩
  rw [List.getElem?_drop] at ha hb
  exact t.2 _ a b ha hb
theorem AllR.set {α β : Type} {R : α → β → Prop} {l m} (t : AllR R l m) (n : Nat) {a b} (h : R a b) : AllR R (l.set n a) (m.set n b) := by
  refine ⟨by simp [t.1], fun i x y hx hy => ?_⟩
  rw [List.getElem?_set] at hx hy
  by_cases e : n = i
  · rw [if_pos e] at hx hy
    split at hx
    · rw [if_pos (by have := t.1; omega)] at hy
      cases hx; cases hy; exact h
    · cases hx
  · rw [if_neg e] at hx hy
    exact t.2 i x y hx hy
theorem AllR.map {α β γ : Type} {R : α → β → Prop} {l : List γ} {f : γ → α} {g : γ → β} (h : ∀ x ∈ l, R (f x) (g x)) : AllR R (l.map f) (l.map g) := by
  refine ⟨by simp, fun i x y hx hy => ?_⟩
  simp only [List.getElem?_map, Option.map_eq_some_iff] at hx hy
  obtain ⟨c, hc, rfl⟩ := hx
  obtain ⟨d, hd, rfl⟩ := hy
  rw [hc] at hd; cases hd
  exact h c (List.mem_of_getElem? hc)


def SV.plain : SV → Bool
  | .bool _ => true
  | .int _ _ => true
  | .val _ => true
  | _ => false
def RdAt (w : World) (b off : Nat) (l : List SV) : Prop := ∀ j c, l[j]? = some c → w.cell? ⟨b, off + j, none⟩ = some c.exact

/-- where local blocks lie, what owned lists are, which blocks are to be left alone, and the first block that is ours -/
structure Env where
  β : Nat → Option Nat
  σ : Nat → Option Value
  A : Nat → Prop
  lo : Nat

/-- a list that lies somewhere -/
def VecAt (E : Env) (w : World) (fr : Bool) (xs : VL) (v : Value) : Prop :=
  ∃ a cap, v = .slice a xs.len cap ∧ xs.len ≤ cap ∧ (a = none → cap = 0) ∧ (xs.len = 0 ∨ ∃ b off, a = some ⟨b, off, none⟩ ∧ ¬ E.A b ∧ b < w.heap.size ∧ (fr = true → E.lo ≤ b) ∧ ∀ i, i < xs.len → RdAt w b (off + i * xs.wd) (xs.at i))

/-- a pointer to a cell of others that holds a list -/
def PvcR (E : Env) (w : World) (xs : VL) (v : Value) : Prop := ∃ b off u, v = .pointer (some ⟨b, off, none⟩) ∧ ¬ E.A b ∧ b < w.heap.size ∧ w.cell? ⟨b, off, none⟩ = some u ∧ VecAt E w false xs u
def SV.rel (C : Ctx) (E : Env) (w : World) : SV → Value → Prop
  | .bool b, v => v = .bool b
  | .int k n, v => v = .int k n
  | .ptr key off, v => ∃ n, E.β key = some n ∧ v = .pointer (some ⟨n, off, none⟩)
  | .val x, v => v = x
  | .vec fr xs, v => VecAt E w fr xs v
  | .epv xs i o, v => ∃ b off, v = .pointer (some ⟨b, off + o, none⟩) ∧ ¬ E.A b ∧ b < w.heap.size ∧ RdAt w b off (xs.at i)
  | .pvc xs, v => ∃ b off u, v = .pointer (some ⟨b, off, none⟩) ∧ ¬ E.A b ∧ b < w.heap.size ∧ w.cell? ⟨b, off, none⟩ = some u ∧ VecAt E w false xs u
  | .sl key off len cap, v => ∃ n, E.β key = some n ∧ v = .slice (some ⟨n, off, none⟩) len cap
  | .fnv id, v => v = C.fval id
  | .clo f caps, v => ∃ ns : List Nat, caps.map E.β = ns.map some ∧ v = .func (.func f) #[] (ns.map fun n => Value.pointer (some ⟨n, 0, none⟩)).toArray
  | .clv f xss, v => ∃ ps : List Value, v = .func (.func f) #[] ps.toArray ∧ AllR (PvcR E w) xss ps
  | .own key, v => E.σ key = some v ∧ ∃ a n c, v = .slice a n c
  | .sub key wd lo len, v => ∃ a cap b l c, E.σ key = some (.slice b l c) ∧ lo + len ≤ l ∧ v = .slice a len cap ∧ len ≤ cap ∧ (a = none → cap = 0) ∧ (len = 0 ∨ ∃ n, b = some ⟨n, 0, none⟩ ∧ a = some ⟨n, lo * wd, none⟩)
  | .epo key wd i o, v => ∃ n l c, E.σ key = some (.slice (some ⟨n, 0, none⟩) l c) ∧ i < l ∧ v = .pointer (some ⟨n, i * wd + o, none⟩)
  | .top, _ => True
  | .und, v => v = undef

def OneR (C : Ctx) (E : Env) (w : World) (g : Bool) (l : List SV) (v : Value) : Prop :=
  match g, l with
  | true, l => ∃ vs, v = .agg vs ∧ AllR (SV.rel C E w) l vs.toList
  | false, [s] => s.rel C E w v
  | false, _ => False
def AV.rel (C : Ctx) (E : Env) (w : World) : AV → Value → Prop
  | .one g l, v => OneR C E w g l v
  | .tup l, v => ∃ vs, v = .tuple vs ∧ AllR (fun (p : Bool × List SV) v => OneR C E w p.1 p.2 v) l vs.toList

/-- the cells of a list's payload -/
def VL.vals (xs : VL) : List Value := ((List.range xs.len).map fun i => (xs.at i).map SV.exact).flatten
def VL.ok (xs : VL) : Prop := ∀ i, i < xs.len → (xs.at i).length = xs.wd ∧ ∀ c ∈ xs.at i, SV.plain c = true ∧ oneCell c.exact = true

def BlkR (C : Ctx) (E : Env) (w : World) (k : Nat) : Blk → Prop
  | .cells e l => ∃ n, E.β k = some n ∧ E.A n ∧ ∃ vs : Array Value, w.heap[n]? = some (.cells vs e (0, 0)) ∧ AllR (SV.rel C E w) l vs.toList ∧ ∀ v ∈ vs.toList, oneCell v = true
  | .grow e xs => ∃ v, E.σ k = some v ∧ E.β k = none ∧ (∀ n, v.ownBlock = some n → E.A n) ∧ w.ownsRow E.lo e xs.wd v xs.len xs.vals

/-- the block of a key -/
def Env.blk (E : Env) (k : Nat) : Option Nat :=
  match E.β k with
  | some n => some n
  | none => (E.σ k).bind Value.ownBlock

structure Rel (C : Ctx) (B : Nat) (w0 : World) (E : Env) (s : St) (a : Act) (w : World) : Prop where
  slots : AllR (AV.rel C E w) s.slots a.tmps.toList
  defers : a.defers = []
  heap : ∀ k b, s.heap[k]? = some (some (some b)) → BlkR C E w k b
  free : ∀ k, s.heap[k]? = some none ∨ s.heap[k]? = none → E.β k = none ∧ E.σ k = none
  lo : ∀ n, E.A n → B ≤ n ∧ n < w.heap.size
  inj : ∀ k k' b b' n, s.heap[k]? = some (some (some b)) → s.heap[k']? = some (some (some b')) → E.blk k = some n → E.blk k' = some n → k = k'
  below : Below B w0 w
  base : B ≤ w.heap.size
  elo : E.lo = B

/-! ### Moving to another world -/
theorem VecAt.ext {E E' : Env} {w w' : World} {fr : Bool} {xs : VL} {v : Value} (h : VecAt E w fr xs v) (hA : ∀ n, n < w.heap.size → E'.A n → E.A n) (hlo : E'.lo = E.lo) (hz : w.heap.size ≤ w'.heap.size)
    (hc : ∀ b o u, ¬ E.A b → w.cell? ⟨b, o, none⟩ = some u → w'.cell? ⟨b, o, none⟩ = some u) : VecAt E' w' fr xs v := by
  obtain ⟨a, cap, rfl, hcap, hnil, hr⟩ := h
  refine ⟨a, cap, rfl, hcap, hnil, hr.imp id ?_⟩
  rintro ⟨b, off, rfl, hb, hl, hf, hrd⟩
  exact ⟨b, off, rfl, fun h' => hb (hA b hl h'), by omega, fun e => by rw [hlo]; exact hf e, fun i hi j c hj => hc _ _ _ hb (hrd i hi j c hj)⟩
theorem SV.rel_ext {C : Ctx} {E E' : Env} {w w' : World} {s : SV} {v : Value} (h : SV.rel C E w s v) (hβ : ∀ k n, E.β k = some n → E'.β k = some n) (hσ : ∀ k n, E.σ k = some n → E'.σ k = some n)
    (hA : ∀ n, n < w.heap.size → E'.A n → E.A n) (hlo : E'.lo = E.lo) (hz : w.heap.size ≤ w'.heap.size)
    (hc : ∀ b o u, ¬ E.A b → w.cell? ⟨b, o, none⟩ = some u → w'.cell? ⟨b, o, none⟩ = some u) : SV.rel C E' w' s v := by
  cases s <;> try exact h
  case ptr key off => obtain ⟨n, hn, rfl⟩ := h; exact ⟨n, hβ _ _ hn, rfl⟩
  case vec fr xs => exact VecAt.ext h hA hlo hz hc
  case pvc xs =>
    obtain ⟨b, off, u, rfl, hb, hl, hu, hv⟩ := h
    exact ⟨b, off, u, rfl, fun h' => hb (hA b hl h'), by omega, hc _ _ _ hb hu, hv.ext hA hlo hz hc⟩
  case epv xs i o =>
    obtain ⟨b, off, rfl, hb, hl, hrd⟩ := h
    exact ⟨b, off, rfl, fun h' => hb (hA b hl h'), by omega, fun j c hj => hc _ _ _ hb (hrd j c hj)⟩
  case sl key off len cap => obtain ⟨n, hn, rfl⟩ := h; exact ⟨n, hβ _ _ hn, rfl⟩
  case clv f xss =>
    obtain ⟨ps, rfl, hp⟩ := h
    refine ⟨ps, rfl, hp.1, fun i xs v hx hv => ?_⟩
    obtain ⟨b, off, u, rfl, hb, hl, hu, hv⟩ := hp.2 i xs v hx hv
    exact ⟨b, off, u, rfl, fun h' => hb (hA b hl h'), by omega, hc _ _ _ hb hu, hv.ext hA hlo hz hc⟩
  case clo f caps =>
    obtain ⟨ns, hns, rfl⟩ := h
    refine ⟨ns, ?_, rfl⟩
    rw [← hns]
    refine List.map_congr_left fun c hcm => ?_
    have hmem : E.β c ∈ ns.map some := by rw [← hns]; exact List.mem_map_of_mem hcm
    obtain ⟨m, _, hm⟩ := List.mem_map.1 hmem
    rw [hβ c m hm.symm, hm]
  case own key => exact ⟨hσ _ _ h.1, h.2⟩
  case sub key wd lo len =>
    obtain ⟨a, cap, b, l, c, h1, h2⟩ := h
    exact ⟨a, cap, b, l, c, hσ _ _ h1, h2⟩
  case epo key wd i o =>
    obtain ⟨n, l, c, h1, h2⟩ := h
    exact ⟨n, l, c, hσ _ _ h1, h2⟩
theorem OneR.map {C C' E E' w w' g l v} (h : OneR C E w g l v) (hs : ∀ s v, s ∈ l → SV.rel C E w s v → SV.rel C' E' w' s v) : OneR C' E' w' g l v := by
  cases g with
  | true =>
    obtain ⟨vs, rfl, ha⟩ := h
    exact ⟨vs, rfl, ha.mono hs⟩
  | false =>
    match l, h with
    | [s], h => exact hs s v (by simp) h
theorem AV.rel_map {C C' E E' w w' x v} (h : AV.rel C E w x v) (hs : ∀ s v, SV.rel C E w s v → SV.rel C' E' w' s v) : AV.rel C' E' w' x v := by
  cases x with
  | one g l => exact OneR.map h fun s v _ => hs s v
  | tup l =>
    obtain ⟨vs, rfl, ha⟩ := h
    exact ⟨vs, rfl, ha.mono fun p u _ hp => OneR.map hp fun s v _ => hs s v⟩

theorem ofV_rel (C E w) (v : Value) (h : oneCell v = true) : SV.rel C E w (SV.ofV v) v := by
  cases v <;> simp_all [SV.ofV, SV.rel, Value.oneCell']
theorem AV_ofV_rel (C E w) (v : Value) {x} (h : AV.ofV v = some x) : AV.rel C E w x v := by
  cases v <;> simp only [AV.ofV, Option.some.injEq, reduceCtorEq] at h
  case agg cs =>
    split at h
    · rename_i hall
      cases h
      refine ⟨cs, rfl, ?_⟩
      have : cs.toList = cs.toList.map id := by simp
      conv => rhs; rw [this]
      exact AllR.map fun x hx => ofV_rel C E w x (List.all_eq_true.1 hall x hx)
    · cases h
  all_goals (subst h; simp [AV.rel, OneR, SV.ofV, SV.rel])

theorem Rel.eval {C B w0 E s a w} (h : Rel C B w0 E s a w) {x : Operand} {v} (hv : s.ρ x = some v) : AV.rel C E w v (a.eval x) := by
  cases x with
  | tmp t =>
    obtain ⟨b, hb, hr⟩ := h.slots.get hv
    have : a.tmps[t]? = some b := by simpa using hb
    simpa [Act.eval, this] using hr
  | const u => exact AV_ofV_rel C E w u hv
  | global g => cases hv
  | func f =>
    simp only [St.ρ, Option.some.injEq] at hv
    subst hv
    exact ⟨[], rfl, rfl⟩

theorem Rel.put {C B w0 E s a w} (h : Rel C B w0 E s a w) {v : AV} {u : Value} (hv : AV.rel C E w v u) (d : Option Nat) : Rel C B w0 E (s.put d v) (a.put d u) w := by
  cases d with
  | none => exact h
  | some d =>
    refine { h with slots := ?_ }
    simpa [St.put, Act.put] using h.slots.set d hv

theorem undef_rel (C E w) : AV.rel C E w undefA undef := rfl

theorem Rel.guard {C B w0 E s a w} (h : Rel C B w0 E s a w) {ops : Array Oper} {o : Oper} {t : Bool} (hg : s.guard ops o = some t) : Region.wanted o (yielded ops a.tmps) = t := by
  unfold St.guard at hg
  unfold Region.wanted
  split at hg
  · rename_i h0; rw [h0]; simpa using hg
  · rename_i j want h0
    rw [h0]
    simp only
    cases hd : (ops[j]?).bind (·.dst) with
    | none => simp [hd] at hg
    | some d =>
      simp only [hd, Option.bind_some] at hg
      cases hs : s.slots[d]? with
      | none => simp [hs] at hg
      | some x =>
        obtain ⟨u, hu, hr⟩ := h.slots.get hs
        have hu' : a.tmps[d]? = some u := by simpa using hu
        have hy : yielded ops a.tmps j = match u with | .bool b => some b | _ => none := by
          simp only [yielded, hd, Option.bind_some, hu']
          cases u <;> rfl
        rw [hy]
        rw [hs] at hg
        split at hg
        · rename_i b heq
          cases heq
          have : u = .bool b := hr
          subst this
          cases hg
          simp
        · rename_i heq
          cases heq
          have : u = undef := hr
          subst this
          cases hg
          cases want <;> rfl
        · cases hg

/-! ### Types -/
theorem szT_spec {P : Program} {t n} (h : szT P t = some n) (w : World) : (sizeOf t).run P w = .ok n w := by
  simp only [szT, Option.map_eq_some_iff] at h
  obtain ⟨i, hi, rfl⟩ := h
  simp [sizeOf, typeInfo, hi]
theorem aggT_spec {P : Program} {t b} (h : aggT P t = some b) (w : World) : (isAgg t).run P w = .ok b w := by
  unfold aggT at h
  split at h
  · rename_i hu; cases h; simp [isAgg, underlying, hu]
  · rename_i hu; cases h; simp [isAgg, underlying, hu]
  · rename_i d h1 h2 hu
    cases h
    simp only [isAgg, Sem.run_bind, run_underlying hu, Result.andThen_ok]
    cases d <;> simp_all
  · cases h

theorem AllR.toArr {R : SV → Value → Prop} {l vs} (h : AllR R l vs) : AllR R l vs.toArray.toList := by simpa using h
theorem partS_spec {P : Program} {C E w t l off x} {vs : Array Value} (h : partS P t l off = some x) (hr : AllR (SV.rel C E w) l vs.toList) (w' : World) :
    ∃ u, (part t vs off).run P w' = .ok u w' ∧ AV.rel C E w x u := by
  unfold partS at h
  split at h
  · rename_i n ha hn
    split at h
    · rename_i hle
      cases h
      refine ⟨_, by simp [part, aggT_spec ha, szT_spec hn]; rfl, ⟨_, rfl, ?_⟩⟩
      have := (hr.drop off).take n
      simp [cut, Array.toList_extract, List.extract_eq_take_drop] at *
      exact this
    · cases h
  · rename_i n ha hn
    split at h
    · rename_i v hv
      cases h
      obtain ⟨u, hu, hr'⟩ := hr.get hv
      have hu' : vs[off]? = some u := by simpa using hu
      exact ⟨u, by simp [part, aggT_spec ha, hu'], hr'⟩
    · cases h
  · cases h
end Go.Ev
