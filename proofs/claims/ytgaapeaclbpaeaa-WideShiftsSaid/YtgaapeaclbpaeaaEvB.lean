/- What the evaluator's values stand for in a world, and that this goes over to a later world. Holds for every program of the model. -/
import Derived.Test.YtgaapeaclbpaeaaEvA
namespace Go.Ev
open Go.RowKit

/-! ### What abstract values stand for -/
def AllR {α β : Type} (R : α → β → Prop) (l : List α) (m : List β) : Prop :=
  l.length = m.length ∧ ∀ (i : Nat) (a : α) (b : β), l[i]? = some a → m[i]? = some b → R a b

theorem AllR.nil {α β : Type} {R : α → β → Prop} : AllR R [] [] := ⟨rfl, by simp⟩
theorem AllR.cons {α β : Type} {R : α → β → Prop} {a b l m} (h : R a b) (t : AllR R l m) : AllR R (a :: l) (b :: m) := by
  refine ⟨by simp [t.1], fun i x y hx hy => ?_⟩
  cases i with
  | zero => simp at hx hy; subst hx hy; exact h
  | succ i => simp at hx hy; exact t.2 i x y hx hy
theorem AllR.uncons {α β : Type} {R : α → β → Prop} {a l m} (t : AllR R (a :: l) m) : ∃ b m', m = b :: m' ∧ R a b ∧ AllR R l m' := by
  cases m with
  | nil => have := t.1; simp at this
  | cons b m' =>
    refine ⟨b, m', rfl, t.2 0 a b rfl rfl, by have := t.1; simpa using this, fun i x y hx hy => t.2 (i + 1) x y (by simpa using hx) (by simpa using hy)⟩
theorem AllR.unnil {α β : Type} {R : α → β → Prop} {m} (t : AllR R ([] : List α) m) : m = ([] : List β) := by
  have := t.1; simp at this; exact List.length_eq_zero_iff.1 (by omega) 
theorem AllR.mono {α β : Type} {R S : α → β → Prop} {l m} (h : ∀ a b, a ∈ l → R a b → S a b) (t : AllR R l m) : AllR S l m :=
  ⟨t.1, fun i a b ha hb => h a b (List.mem_of_getElem? ha) (t.2 i a b ha hb)⟩
theorem AllR.get {α β : Type} {R : α → β → Prop} {l : List α} {m : List β} (t : AllR R l m) {i : Nat} {a : α} (h : l[i]? = some a) : ∃ b, m[i]? = some b ∧ R a b := by
  have hi : i < l.length := by
    rcases Nat.lt_or_ge i l.length with h' | h'
    · exact h'
    · simp [List.getElem?_eq_none h'] at h
  have hm : i < m.length := t.1 ▸ hi
  exact ⟨m[i], by simp [hm], t.2 i a m[i] h (by simp [hm])⟩
theorem AllR.app {α β : Type} {R : α → β → Prop} {l m l' m'} (t : AllR R l m) (t' : AllR R l' m') : AllR R (l ++ l') (m ++ m') := by
  refine ⟨by simp [t.1, t'.1], fun i a b ha hb => ?_⟩
  rcases Nat.lt_or_ge i l.length with h | h
  · rw [List.getElem?_append_left h] at ha
    rw [List.getElem?_append_left (t.1 ▸ h)] at hb
    exact t.2 i a b ha hb
  · rw [List.getElem?_append_right h] at ha
    rw [List.getElem?_append_right (t.1 ▸ h)] at hb
    rw [← t.1] at hb
    exact t'.2 _ a b ha hb
theorem AllR.take {α β : Type} {R : α → β → Prop} {l m} (t : AllR R l m) (n : Nat) : AllR R (l.take n) (m.take n) := by
  refine ⟨by simp [t.1], fun i a b ha hb => ?_⟩
  rw [List.getElem?_take] at ha hb
  split at ha
  · rename_i h
    rw [if_pos h] at hb
    exact t.2 i a b ha hb
  · cases ha
theorem AllR.drop {α β : Type} {R : α → β → Prop} {l m} (t : AllR R l m) (n : Nat) : AllR R (l.drop n) (m.drop n) := by
  refine ⟨by simp [t.1], fun i a b ha hb => ?_⟩
  rw [List.getElem?_drop] at ha hb
  exact t.2 _ a b ha hb
theorem AllR.set {α β : Type} {R : α → β → Prop} {l m} (t : AllR R l m) (n : Nat) {a b} (h : R a b) : AllR R (l.set n a) (m.set n b) := by
  refine ⟨by simp [t.1], fun i x y hx hy => ?_⟩
  rw [List.getElem?_set] at hx hy
  by_cases e : n = i
  · rw [if_pos e] at hx hy
    split at hx
    · rw [if_pos (by have := t.1; omega)] at hy
      cases hx; cases hy; exact h
    · cases hx
  · rw [if_neg e] at hx hy
    exact t.2 i x y hx hy
theorem AllR.map {α β γ : Type} {R : α → β → Prop} {l : List γ} {f : γ → α} {g : γ → β} (h : ∀ x ∈ l, R (f x) (g x)) : AllR R (l.map f) (l.map g) := by
  refine ⟨by simp, fun i x y hx hy => ?_⟩
  simp only [List.getElem?_map, Option.map_eq_some_iff] at hx hy
  obtain ⟨c, hc, rfl⟩ := hx
  obtain ⟨d, hd, rfl⟩ := hy
  rw [hc] at hd; cases hd
  exact h c (List.mem_of_getElem? hc)


def SV.plain : SV → Bool
  | .bool _ => true
  | .int _ _ => true
  | .val _ => true
  | _ => false
/-- exactly these cells lie there -/
def RdX (w : World) (b off : Nat) (l : List SV) : Prop := ∀ j c, l[j]? = some c → w.cell? ⟨b, off + j, none⟩ = some c.exact

/-- where local blocks lie, what owned lists are, which blocks are to be left alone, which ones count as new, and which one is lent -/
structure Env where
  β : Nat → Option Nat
  σ : Nat → Option Value
  A : Nat → Prop
  F : Nat → Prop
  X : Nat → Prop
/-- the blocks in which a list may lie -/
def Env.G (E : Env) (fr : Bool) (b : Nat) : Prop := ¬ E.A b ∧ (fr = true → E.F b)

/-- a list of plain cells that lies in a block of a kind -/
def VecIn (G : Nat → Prop) (w : World) (xs : VL) (v : Value) : Prop :=
  xs.flat = true ∧ ∃ a cap, v = .slice a xs.len cap ∧ xs.len ≤ cap ∧ (a = none → cap = 0) ∧ (xs.len = 0 ∨ ∃ b off, a = some ⟨b, off, none⟩ ∧ G b ∧ b < w.heap.size ∧ ∀ i, i < xs.len → RdX w b (off + i * xs.wd) (xs.at false i))
def CellIn (G : Nat → Prop) (w : World) : SV → Value → Prop
  | .vec _ xs, v => VecIn G w xs v
  | c, v => v = c.exact
def RdAt (G : Nat → Prop) (w : World) (b off : Nat) (l : List SV) : Prop := ∀ j c, l[j]? = some c → ∃ u, w.cell? ⟨b, off + j, none⟩ = some u ∧ CellIn G w c u
/-- a list that lies in a block of a kind -/
def VecG (G : Nat → Prop) (w : World) (fr : Bool) (xs : VL) (v : Value) : Prop :=
  ∃ a cap, v = .slice a xs.len cap ∧ xs.len ≤ cap ∧ (a = none → cap = 0) ∧ (xs.len = 0 ∨ ∃ b off, a = some ⟨b, off, none⟩ ∧ G b ∧ b < w.heap.size ∧ ∀ i, i < xs.len → RdAt G w b (off + i * xs.wd) (xs.at fr i))
/-- a list that lies somewhere -/
def VecAt (E : Env) (w : World) (fr : Bool) (xs : VL) (v : Value) : Prop := VecG (E.G fr) w fr xs v

/-- a pointer to a cell of others that holds a list -/
def PvcR (E : Env) (w : World) (xs : VL) (v : Value) : Prop := ∃ b off u, v = .pointer (some ⟨b, off, none⟩) ∧ ¬ E.A b ∧ b < w.heap.size ∧ w.cell? ⟨b, off, none⟩ = some u ∧ VecAt E w false xs u
def SV.rel (C : Ctx) (E : Env) (w : World) : SV → Value → Prop
  | .bool b, v => v = .bool b
  | .int k n, v => v = .int k n
  | .ptr key off, v => ∃ n, E.β key = some n ∧ v = .pointer (some ⟨n, off, none⟩)
  | .val x, v => v = x
  | .vec fr xs, v => VecAt E w fr xs v
  | .epv fr xs i o, v => ∃ b off, v = .pointer (some ⟨b, off + o, none⟩) ∧ E.G fr b ∧ b < w.heap.size ∧ RdAt (E.G fr) w b off (xs.at fr i)
  | .str l, v => v = .string ⟨l.toArray⟩
  | .emp, v => ∃ a, v = .slice a 0 0
  | .pvc xs, v => PvcR E w xs v
  | .sl key off len cap, v => ∃ n, E.β key = some n ∧ v = .slice (some ⟨n, off, none⟩) len cap
  | .fnv id, v => v = C.fval id
  | .clo f caps, v => ∃ ns : List Nat, caps.map E.β = ns.map some ∧ v = .func (.func f) #[] (ns.map fun n => Value.pointer (some ⟨n, 0, none⟩)).toArray
  | .clv f xss, v => ∃ ps : List Value, v = .func (.func f) #[] ps.toArray ∧ AllR (PvcR E w) xss ps
  | .own key, v => E.σ key = some v ∧ ∃ a n c, v = .slice a n c
  | .sub key wd lo len, v => ∃ a cap b l c, E.σ key = some (.slice b l c) ∧ lo + len ≤ l ∧ v = .slice a len cap ∧ len ≤ cap ∧ (a = none → cap = 0) ∧ (len = 0 ∨ ∃ n, b = some ⟨n, 0, none⟩ ∧ a = some ⟨n, lo * wd, none⟩)
  | .epo key wd i o, v => ∃ n l c, E.σ key = some (.slice (some ⟨n, 0, none⟩) l c) ∧ i < l ∧ v = .pointer (some ⟨n, i * wd + o, none⟩)
  | .top, _ => True
  | .und, v => v = undef

def OneR (C : Ctx) (E : Env) (w : World) (g : Bool) (l : List SV) (v : Value) : Prop :=
  match g, l with
  | true, l => ∃ vs, v = .agg vs ∧ AllR (SV.rel C E w) l vs.toList
  | false, [s] => s.rel C E w v
  | false, _ => False
def AV.rel (C : Ctx) (E : Env) (w : World) : AV → Value → Prop
  | .one g l, v => OneR C E w g l v
  | .tup l, v => ∃ vs, v = .tuple vs ∧ AllR (fun (p : Bool × List SV) v => OneR C E w p.1 p.2 v) l vs.toList

/-- the cells of a list's payload -/
def VL.vals (xs : VL) : List Value := ((List.range xs.len).map fun i => (xs.at false i).map SV.exact).flatten

def BlkR (C : Ctx) (E : Env) (w : World) (k : Nat) : Blk → Prop
  | .cells e l => ∃ n, E.β k = some n ∧ E.A n ∧ ∃ vs : Array Value, w.heap[n]? = some (.cells vs e (0, 0)) ∧ AllR (SV.rel C E w) l vs.toList ∧ ∀ v ∈ vs.toList, oneCell v = true
  | .grow e xs => ∃ v, E.σ k = some v ∧ E.β k = none ∧ (∀ n, v.ownBlock = some n → E.A n) ∧ xs.flat = true ∧ w.ownsRow 0 e xs.wd v xs.len xs.vals

/-- the block of a key -/
def Env.blk (E : Env) (k : Nat) : Option Nat :=
  match E.β k with
  | some n => some n
  | none => (E.σ k).bind Value.ownBlock

/-- Below block number B the world is as it was, but for lent blocks -/
structure BelowX (X : Nat → Prop) (B : Nat) (w w' : World) : Prop where
  os : w'.os = w.os
  tape : w'.tape = w.tape
  output : w'.output = w.output
  size : w.heap.size ≤ w'.heap.size
  block : ∀ k, k < B → ¬ X k → w'.heap[k]? = w.heap[k]?
theorem BelowX.refl (X : Nat → Prop) (B : Nat) (w : World) : BelowX X B w w := ⟨rfl, rfl, rfl, Nat.le_refl _, fun _ _ _ => rfl⟩
theorem BelowX.trans {X : Nat → Prop} {B : Nat} {a b c : World} (h : BelowX X B a b) (k : BelowX X B b c) : BelowX X B a c :=
  ⟨k.os.trans h.os, k.tape.trans h.tape, k.output.trans h.output, Nat.le_trans h.size k.size, fun i hi hx => (k.block i hi hx).trans (h.block i hi hx)⟩
theorem belowX_of {X : Nat → Prop} {B B' : Nat} {w w' : World} (h : Below B' w w') (hB : B ≤ B') : BelowX X B w w' := ⟨h.os, h.tape, h.output, h.size, fun k hk _ => h.block k (Nat.lt_of_lt_of_le hk hB)⟩
theorem BelowX.to {X : Nat → Prop} {B : Nat} {w w' : World} (h : BelowX X B w w') (hX : ∀ n, ¬ X n) : Below B w w' := ⟨h.os, h.tape, h.output, h.size, fun k hk => h.block k hk (hX k)⟩
theorem BelowX.grown {X : Nat → Prop} {B : Nat} {a w w' : World} {row : Option Nat} (h : BelowX X B a w) (hg : w.grownBy w' row) (hB : B ≤ w.heap.size) (hr : ∀ k, row = some k → B ≤ k ∨ X k) : BelowX X B a w' :=
  h.trans ⟨hg.os, hg.tape, hg.output, hg.size, fun k hk hx => hg.block k (by omega) (fun e => by rcases hr k e.symm with h | h; omega; exact hx h)⟩

structure EOK (C : Ctx) (B : Nat) (E : Env) : Prop where
  F : ∀ n, B ≤ n → E.F n
  X : ∀ n, E.X n → E.F n
  eF : E.F = C.F
  eX : E.X = C.X
  v0 : ∀ v, C.v0 = some v → E.σ 0 = some v
theorem EOK.to {C : Ctx} {B : Nat} {E E' : Env} (h : EOK C B E) (h1 : E'.F = E.F) (h2 : E'.X = E.X) (h3 : ∀ v, E.σ 0 = some v → E'.σ 0 = some v) : EOK C B E' :=
  ⟨fun n hn => by rw [h1]; exact h.F n hn, fun n hn => by rw [h1]; rw [h2] at hn; exact h.X n hn, h1.trans h.eF, h2.trans h.eX, fun v hv => h3 v (h.v0 v hv)⟩
structure Rel (C : Ctx) (B : Nat) (w0 : World) (E : Env) (s : St) (a : Act) (w : World) : Prop where
  slots : AllR (AV.rel C E w) s.slots a.tmps.toList
  defers : a.defers = []
  heap : ∀ k b, s.heap[k]? = some (some (some b)) → BlkR C E w k b
  free : ∀ k, s.heap[k]? = some none ∨ s.heap[k]? = none → E.β k = none ∧ E.σ k = none
  lo : ∀ n, E.A n → (B ≤ n ∨ E.X n) ∧ n < w.heap.size
  inj : ∀ k k' b b' n, s.heap[k]? = some (some (some b)) → s.heap[k']? = some (some (some b')) → E.blk k = some n → E.blk k' = some n → k = k'
  below : BelowX E.X B w0 w
  base : B ≤ w.heap.size
  ok : EOK C B E

/-! ### Moving to another world -/
theorem RdX.mono {w w' : World} {b off : Nat} {l : List SV} (h : RdX w b off l) (hc : ∀ o u, w.cell? ⟨b, o, none⟩ = some u → w'.cell? ⟨b, o, none⟩ = some u) : RdX w' b off l := fun j c hj => hc _ _ (h j c hj)
theorem VecIn.mono {G G' : Nat → Prop} {w w' : World} {xs : VL} {v : Value} (h : VecIn G w xs v) (hG : ∀ b, b < w.heap.size → G b → G' b) (hz : w.heap.size ≤ w'.heap.size)
    (hc : ∀ b o u, G b → w.cell? ⟨b, o, none⟩ = some u → w'.cell? ⟨b, o, none⟩ = some u) : VecIn G' w' xs v := by
  obtain ⟨hf, a, cap, rfl, hcap, hnil, hr⟩ := h
  refine ⟨hf, a, cap, rfl, hcap, hnil, hr.imp id ?_⟩
  rintro ⟨b, off, rfl, hb, hl, hrd⟩
  exact ⟨b, off, rfl, hG b hl hb, by omega, fun i hi => (hrd i hi).mono (hc b · · hb)⟩
theorem CellIn.mono {G G' : Nat → Prop} {w w' : World} {c : SV} {v : Value} (h : CellIn G w c v) (hG : ∀ b, b < w.heap.size → G b → G' b) (hz : w.heap.size ≤ w'.heap.size)
    (hc : ∀ b o u, G b → w.cell? ⟨b, o, none⟩ = some u → w'.cell? ⟨b, o, none⟩ = some u) : CellIn G' w' c v := by
  cases c <;> first
    | exact h
    | exact VecIn.mono h hG hz hc
theorem RdAt.mono {G G' : Nat → Prop} {w w' : World} {b off : Nat} {l : List SV} (h : RdAt G w b off l) (hb : G b) (hG : ∀ b, b < w.heap.size → G b → G' b) (hz : w.heap.size ≤ w'.heap.size)
    (hc : ∀ b o u, G b → w.cell? ⟨b, o, none⟩ = some u → w'.cell? ⟨b, o, none⟩ = some u) : RdAt G' w' b off l := fun j c hj => by
  obtain ⟨u, h1, h2⟩ := h j c hj
  exact ⟨u, hc _ _ _ hb h1, h2.mono hG hz hc⟩
theorem VecG.mono {G G' : Nat → Prop} {w w' : World} {fr : Bool} {xs : VL} {v : Value} (h : VecG G w fr xs v) (hG : ∀ b, b < w.heap.size → G b → G' b) (hz : w.heap.size ≤ w'.heap.size)
    (hc : ∀ b o u, G b → w.cell? ⟨b, o, none⟩ = some u → w'.cell? ⟨b, o, none⟩ = some u) : VecG G' w' fr xs v := by
  obtain ⟨a, cap, rfl, hcap, hnil, hr⟩ := h
  refine ⟨a, cap, rfl, hcap, hnil, hr.imp id ?_⟩
  rintro ⟨b, off, rfl, hb, hl, hrd⟩
  exact ⟨b, off, rfl, hG b hl hb, by omega, fun i hi => (hrd i hi).mono hb hG hz hc⟩
/-- the cells of an element, read with or without the mark that they are new -/
theorem at_flag {G : Nat → Prop} {w : World} {b off : Nat} {xs : VL} {i : Nat} {fr fr' : Bool} (h : RdAt G w b off (xs.at fr i)) : RdAt G w b off (xs.at fr' i) := by
  cases xs with
  | row ks l =>
    simp only [VL.at] at h ⊢
    generalize l.getD i [] = r at h ⊢
    induction ks generalizing r off with
    | nil => exact h
    | cons k ks ih =>
      intro j c hj
      rcases j with _ | j
      · cases k with
        | ints k =>
          simp only [rowCells, List.getElem?_cons_zero, Option.some.injEq] at hj
          subst hj
          obtain ⟨u, h1, h2⟩ := h 0 (.vec fr _) rfl
          exact ⟨u, h1, h2⟩
        | bool => simp only [rowCells, List.getElem?_cons_zero, Option.some.injEq] at hj; subst hj; exact h 0 _ rfl
        | int k => simp only [rowCells, List.getElem?_cons_zero, Option.some.injEq] at hj; subst hj; exact h 0 _ rfl
      · have hj' : (rowCells fr' ks r.tail)[j]? = some c := by cases k <;> simpa only [rowCells, List.getElem?_cons_succ] using hj
        have := ih (off := off + 1) (r := r.tail) (fun i d hd => by
          have := h (i + 1) d (by cases k <;> simpa only [rowCells, List.getElem?_cons_succ] using hd)
          rw [show off + (i + 1) = off + 1 + i by omega] at this
          exact this) j c hj'
        rw [show off + (j + 1) = off + 1 + j by omega]
        exact this
  | _ => exact h
theorem VecG.flag {G : Nat → Prop} {w : World} {fr fr' : Bool} {xs : VL} {v : Value} (h : VecG G w fr xs v) : VecG G w fr' xs v := by
  obtain ⟨a, cap, rfl, hcap, hnil, hr⟩ := h
  exact ⟨a, cap, rfl, hcap, hnil, hr.imp id fun ⟨b, off, h1, h2, h3, h4⟩ => ⟨b, off, h1, h2, h3, fun i hi => at_flag (h4 i hi)⟩⟩
/-- from one setting to another -/
structure ExtE (E E' : Env) (w w' : World) : Prop where
  β : ∀ k n, E.β k = some n → E'.β k = some n
  σ : ∀ k n, E.σ k = some n → E'.σ k = some n
  A : ∀ n, n < w.heap.size → E'.A n → E.A n
  F : ∀ n, n < w.heap.size → ¬ E.A n → E.F n → E'.F n
  z : w.heap.size ≤ w'.heap.size
  c : ∀ b o u, ¬ E.A b → w.cell? ⟨b, o, none⟩ = some u → w'.cell? ⟨b, o, none⟩ = some u
theorem ExtE.G {E E' : Env} {w w' : World} (h : ExtE E E' w w') {fr : Bool} : ∀ b, b < w.heap.size → E.G fr b → E'.G fr b :=
  fun b hb hg => ⟨fun h' => hg.1 (h.A b hb h'), fun e => h.F b hb hg.1 (hg.2 e)⟩
theorem ExtE.cG {E E' : Env} {w w' : World} (h : ExtE E E' w w') {fr : Bool} : ∀ b o u, E.G fr b → w.cell? ⟨b, o, none⟩ = some u → w'.cell? ⟨b, o, none⟩ = some u := fun b o u hg hu => h.c b o u hg.1 hu
theorem VecAt.ext {E E' : Env} {w w' : World} {fr : Bool} {xs : VL} {v : Value} (h : VecAt E w fr xs v) (he : ExtE E E' w w') : VecAt E' w' fr xs v := VecG.mono h he.G he.z he.cG
theorem PvcR.ext {E E' : Env} {w w' : World} {xs : VL} {v : Value} (h : PvcR E w xs v) (he : ExtE E E' w w') : PvcR E' w' xs v := by
  obtain ⟨b, off, u, rfl, hb, hl, hu, hv⟩ := h
  exact ⟨b, off, u, rfl, fun h' => hb (he.A b hl h'), Nat.lt_of_lt_of_le hl he.z, he.c _ _ _ hb hu, hv.ext he⟩
theorem SV.rel_ext {C : Ctx} {E E' : Env} {w w' : World} {s : SV} {v : Value} (h : SV.rel C E w s v) (he : ExtE E E' w w') : SV.rel C E' w' s v := by
  cases s <;> try exact h
  case ptr key off => obtain ⟨n, hn, rfl⟩ := h; exact ⟨n, he.β _ _ hn, rfl⟩
  case vec fr xs => exact VecAt.ext h he
  case pvc xs => exact PvcR.ext h he
  case epv fr xs i o =>
    obtain ⟨b, off, rfl, hb, hl, hrd⟩ := h
    exact ⟨b, off, rfl, he.G b hl hb, Nat.lt_of_lt_of_le hl he.z, hrd.mono hb he.G he.z he.cG⟩
  case sl key off len cap => obtain ⟨n, hn, rfl⟩ := h; exact ⟨n, he.β _ _ hn, rfl⟩
  case clv f xss =>
    obtain ⟨ps, rfl, hp⟩ := h
    exact ⟨ps, rfl, hp.1, fun i xs v hx hv => (hp.2 i xs v hx hv).ext he⟩
  case clo f caps =>
    obtain ⟨ns, hns, rfl⟩ := h
    refine ⟨ns, ?_, rfl⟩
    rw [← hns]
    refine List.map_congr_left fun c hcm => ?_
    have hmem : E.β c ∈ ns.map some := by rw [← hns]; exact List.mem_map_of_mem hcm
    obtain ⟨m, _, hm⟩ := List.mem_map.1 hmem
    rw [he.β c m hm.symm, hm]
  case own key => exact ⟨he.σ _ _ h.1, h.2⟩
  case sub key wd lo len =>
    obtain ⟨a, cap, b, l, c, h1, h2⟩ := h
    exact ⟨a, cap, b, l, c, he.σ _ _ h1, h2⟩
  case epo key wd i o =>
    obtain ⟨n, l, c, h1, h2⟩ := h
    exact ⟨n, l, c, he.σ _ _ h1, h2⟩
theorem OneR.map {C C' E E' w w' g l v} (h : OneR C E w g l v) (hs : ∀ s v, s ∈ l → SV.rel C E w s v → SV.rel C' E' w' s v) : OneR C' E' w' g l v := by
  cases g with
  | true =>
    obtain ⟨vs, rfl, ha⟩ := h
    exact ⟨vs, rfl, ha.mono hs⟩
  | false =>
    match l, h with
    | [s], h => exact hs s v (by simp) h
theorem AV.rel_map {C C' E E' w w' x v} (h : AV.rel C E w x v) (hs : ∀ s v, SV.rel C E w s v → SV.rel C' E' w' s v) : AV.rel C' E' w' x v := by
  cases x with
  | one g l => exact OneR.map h fun s v _ => hs s v
  | tup l =>
    obtain ⟨vs, rfl, ha⟩ := h
    exact ⟨vs, rfl, ha.mono fun p u _ hp => OneR.map hp fun s v _ => hs s v⟩

theorem ofV_rel (C E w) (v : Value) (h : oneCell v = true) : SV.rel C E w (SV.ofV v) v := by
  cases v <;> simp_all [SV.ofV, SV.rel, Value.oneCell']
theorem AV_ofV_rel (C E w) (v : Value) {x} (h : AV.ofV v = some x) : AV.rel C E w x v := by
  cases v <;> simp only [AV.ofV, Option.some.injEq, reduceCtorEq] at h
  case agg cs =>
    split at h
    · rename_i hall
      cases h
      refine ⟨cs, rfl, ?_⟩
      have : cs.toList = cs.toList.map id := by simp
      conv => rhs; rw [this]
      exact AllR.map fun x hx => ofV_rel C E w x (List.all_eq_true.1 hall x hx)
    · cases h
  all_goals (subst h; simp [AV.rel, OneR, SV.ofV, SV.rel])

theorem Rel.eval {C B w0 E s a w} (h : Rel C B w0 E s a w) {x : Operand} {v} (hv : s.ρ x = some v) : AV.rel C E w v (a.eval x) := by
  cases x with
  | tmp t =>
    obtain ⟨b, hb, hr⟩ := h.slots.get hv
    have : a.tmps[t]? = some b := by simpa using hb
    simpa [Act.eval, this] using hr
  | const u => exact AV_ofV_rel C E w u hv
  | global g => cases hv
  | func f =>
    simp only [St.ρ, Option.some.injEq] at hv
    subst hv
    exact ⟨[], rfl, rfl⟩

theorem Rel.put {C B w0 E s a w} (h : Rel C B w0 E s a w) {v : AV} {u : Value} (hv : AV.rel C E w v u) (d : Option Nat) : Rel C B w0 E (s.put d v) (a.put d u) w := by
  cases d with
  | none => exact h
  | some d =>
    refine { h with slots := ?_ }
    simpa [St.put, Act.put] using h.slots.set d hv

theorem undef_rel (C E w) : AV.rel C E w undefA undef := rfl

theorem Rel.guard {C B w0 E s a w} (h : Rel C B w0 E s a w) {ops : Array Oper} {o : Oper} {t : Bool} (hg : s.guard ops o = some t) : Region.wanted o (yielded ops a.tmps) = t := by
  unfold St.guard at hg
  unfold Region.wanted
  split at hg
  · rename_i h0; rw [h0]; simpa using hg
  · rename_i j want h0
    rw [h0]
    simp only
    cases hd : (ops[j]?).bind (·.dst) with
    | none => simp [hd] at hg
    | some d =>
      simp only [hd, Option.bind_some] at hg
      cases hs : s.slots[d]? with
      | none => simp [hs] at hg
      | some x =>
        obtain ⟨u, hu, hr⟩ := h.slots.get hs
        have hu' : a.tmps[d]? = some u := by simpa using hu
        have hy : yielded ops a.tmps j = match u with | .bool b => some b | _ => none := by
          simp only [yielded, hd, Option.bind_some, hu']
          cases u <;> rfl
        rw [hy]
        rw [hs] at hg
        split at hg
        · rename_i b heq
          cases heq
          have : u = .bool b := hr
          subst this
          cases hg
          simp
        · rename_i heq
          cases heq
          have : u = undef := hr
          subst this
          cases hg
          cases want <;> rfl
        · cases hg

/-! ### Types -/
theorem szT_spec {P : Program} {t n} (h : szT P t = some n) (w : World) : (sizeOf t).run P w = .ok n w := by
  simp only [szT, Option.map_eq_some_iff] at h
  obtain ⟨i, hi, rfl⟩ := h
  simp [sizeOf, typeInfo, hi]
theorem aggT_spec {P : Program} {t b} (h : aggT P t = some b) (w : World) : (isAgg t).run P w = .ok b w := by
  unfold aggT at h
  split at h
  · rename_i hu; cases h; simp [isAgg, underlying, hu]
  · rename_i hu; cases h; simp [isAgg, underlying, hu]
  · rename_i d h1 h2 hu
    cases h
    simp only [isAgg, Sem.run_bind, run_underlying hu, Result.andThen_ok]
    cases d <;> simp_all
  · cases h

theorem AllR.toArr {R : SV → Value → Prop} {l vs} (h : AllR R l vs) : AllR R l vs.toArray.toList := by simpa using h
theorem partS_spec {P : Program} {C E w t l off x} {vs : Array Value} (h : partS P t l off = some x) (hr : AllR (SV.rel C E w) l vs.toList) (w' : World) :
    ∃ u, (part t vs off).run P w' = .ok u w' ∧ AV.rel C E w x u := by
  unfold partS at h
  split at h
  · rename_i n ha hn
    split at h
    · rename_i hle
      cases h
      refine ⟨_, by simp [part, aggT_spec ha, szT_spec hn]; rfl, ⟨_, rfl, ?_⟩⟩
      have := (hr.drop off).take n
      simp [cut, Array.toList_extract, List.extract_eq_take_drop] at *
      exact this
    · cases h
  · rename_i n ha hn
    split at h
    · rename_i v hv
      cases h
      obtain ⟨u, hu, hr'⟩ := hr.get hv
      have hu' : vs[off]? = some u := by simpa using hu
      exact ⟨u, by simp [part, aggT_spec ha, hu'], hr'⟩
    · cases h
  · cases h
end Go.Ev
