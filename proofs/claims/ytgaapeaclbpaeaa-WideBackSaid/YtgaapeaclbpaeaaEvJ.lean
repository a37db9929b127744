/- Lists of known length, known functions as arguments, loops by an invariant. -/
import Derived.Test.YtgaapeaclbpaeaaEvI
namespace Go.Ev
open Go.RowKit

variable {P : Program} {C : Ctx} {B : Nat} {w0 : World}

/-! ### A known function as an argument; one function, several summaries -/
def cFn (f : FuncId) : Cod Unit where
  enc _ _ := .one false [.clo f []]
  dec _ | .one false [.clo g []] => cond (Nat.beq g f) (some ()) none
        | _ => none
  ok rd a x h := by
    split at h
    · rename_i g
      cases hb : Nat.beq g f with
      | false => rw [hb] at h; cases h
      | true =>
        have := Nat.eq_of_beq_eq_true hb
        subst this
        intro C E w v _ hv C' lo
        obtain ⟨ns, hns, rfl⟩ := hv
        have : ns = [] := by simpa using hns.symm
        subst this
        exact ⟨[], rfl, rfl⟩
    · cases h

/-! ### Closures that hold lists -/
theorem vec_pvc {E w fr xs n off v} {vs : Array Value} {e : TypeId} (hn : w.heap[n]? = some (.cells vs e (0, 0))) (hv : vs[off]? = some v) (h : VecAt E w fr xs v) (lo : Nat) : PvcR (E0 lo) w xs (.pointer (some ⟨n, off, none⟩)) := by
  refine ⟨n, off, v, rfl, fun h => h, heap_get_lt hn, by simpa [World.cell?, hn] using hv, ?_⟩
  obtain ⟨a, cap, rfl, hc, hz, hr⟩ := h
  exact ⟨a, cap, rfl, hc, hz, hr.imp id fun ⟨b, off, h1, _, h3, _, h5⟩ => ⟨b, off, h1, fun h => h, h3, fun h => (by cases h), h5⟩⟩
theorem PvcR.weak {E w xs v} (h : PvcR E w xs v) (lo : Nat) : PvcR (E0 lo) w xs v := by
  obtain ⟨b, off, u, rfl, _, hl, hu, a, cap, rfl, hc, hz, hr⟩ := h
  exact ⟨b, off, _, rfl, fun h => h, hl, hu, a, cap, rfl, hc, hz, hr.imp id fun ⟨b, off, h1, _, h3, _, h5⟩ => ⟨b, off, h1, fun h => h, h3, fun h => (by cases h), h5⟩⟩
def pvI (k : IntKind) (rd : Nat → Option Blk) : SV → Option (List Int)
  | .ptr key 0 => match rd key with
    | some (.cells _ [.vec _ (.int k' l)]) => if k' = k then some l else none
    | _ => none
  | .pvc (.int k' l) => if k' = k then some l else none
  | _ => none
theorem pvI_spec {k : IntKind} {rd : Nat → Option Blk} {s : SV} {l : List Int} (h : pvI k rd s = some l) {E : Env} {w : World} (hrd : ∀ k b, rd k = some b → BlkR C E w k b) {v : Value} (hv : SV.rel C E w s v) (lo : Nat) : PvcR (E0 lo) w (.int k l) v := by
  unfold pvI at h
  split at h
  · split at h
    · rename_i hk
      split at h
      · rename_i hkk; subst hkk; cases h
        obtain ⟨n, hn, _, vs, hvs, hvr, _⟩ := hrd _ _ hk
        obtain ⟨m, hm, rfl⟩ := hv
        rw [hn] at hm; cases hm
        obtain ⟨u, hu, hur⟩ := hvr.get (i := 0) rfl
        exact vec_pvc hvs (by simpa using hu) hur lo
      · cases h
    · cases h
  · split at h
    · rename_i hkk; subst hkk; cases h
      exact PvcR.weak hv lo
    · cases h
  · cases h
/-- a captured list, as the closure's own function sees it -/
def cPv (k : IntKind) : Cod (List Int) where
  enc _ l := .one false [.pvc (.int k l)]
  dec rd | .one false [s] => pvI k rd s
         | _ => none
  ok rd a x h := by
    split at h
    · intro C E w v hrd hv C' lo
      exact pvI_spec h hrd hv lo
    · cases h
/-- a closure that holds a list -/
def cClo (k : IntKind) (f : FuncId) : Cod (List Int) where
  enc _ l := .one false [.clv f [.int k l]]
  dec rd | .one false [.clo g [key]] => cond (Nat.beq g f) (pvI k rd (.ptr key 0)) none
         | .one false [.clv g [.int k' l]] => cond (Nat.beq g f) (if k' = k then some l else none) none
         | _ => none
  ok rd a x h := by
    split at h
    · rename_i g key
      cases hb : Nat.beq g f with
      | false => rw [hb] at h; cases h
      | true =>
        rw [hb] at h
        have := Nat.eq_of_beq_eq_true hb
        subst this
        intro C E w v hrd hv C' lo
        obtain ⟨ns, hns, rfl⟩ := hv
        match ns, hns with
        | [n], hns =>
          simp only [List.map_cons, List.map_nil, List.cons.injEq, and_true] at hns
          exact ⟨[_], rfl, AllR.cons (pvI_spec h hrd (s := .ptr key 0) ⟨n, hns, rfl⟩ lo) AllR.nil⟩
        | [], hns => simp at hns
        | _ :: _ :: _, hns => simp at hns
    · rename_i g k' l
      cases hb : Nat.beq g f with
      | false => rw [hb] at h; cases h
      | true =>
        rw [hb] at h
        have := Nat.eq_of_beq_eq_true hb
        subst this
        simp only [cond_true] at h
        split at h
        · rename_i hk; subst hk; cases h
          intro C E w v hrd hv C' lo
          obtain ⟨ps, rfl, hps⟩ := hv
          exact ⟨ps, rfl, hps.1, fun i xs v hx hv => (hps.2 i xs v hx hv).weak lo⟩
        · cases h
    · cases h

def orS (a b : Summ) : Summ where
  pre args rd := match a.fn args rd with
    | some _ => a.pre args rd
    | none => b.pre args rd
  fn args rd := match a.fn args rd with
    | some r => some r
    | none => b.fn args rd
theorem good_or {f : FuncId} {a b : Summ} (ha : GoodF P f a) (hb : GoodF P f b) : GoodF P f (orS a b) := by
  refine ⟨ha.1, fun C B w0 E w args vs rd r hpre hfn => ?_⟩
  simp only [orS] at hpre hfn
  split at hfn
  · rename_i x hx
    rw [hx] at hpre
    cases hfn
    exact ha.2 C B w0 E w args vs rd r hpre hx
  · rename_i hx
    rw [hx] at hpre
    exact hb.2 C B w0 E w args vs rd r hpre hfn

/-! ### Lists of known length -/
theorem sl_listW {E w} {rd : Nat → Option Blk} (hrd : ∀ k b, rd k = some b → BlkR C E w k b) {key off len cap : Nat} {e : TypeId} {l : List SV} (hk : rd key = some (.cells e l)) {xs : VL} (hlen : xs.len = len) (hc : len ≤ cap) (_hle : off + len * xs.wd ≤ l.length)
    (hat : ∀ i, i < len → xs.at i = cut l (off + i * xs.wd) xs.wd) {v : Value} (hs : SV.rel C E w (.sl key off len cap) v) : ListAt w xs v := by
  obtain ⟨n, hn, _, vs, hvs, hvr, _⟩ := hrd _ _ hk
  obtain ⟨m, hm, rfl⟩ := hs
  rw [hn] at hm; cases hm
  refine ⟨_, cap, by rw [hlen], by omega, fun e => (by cases e), .inr ⟨n, off, rfl, heap_get_lt hvs, fun i hi j c hj => ?_⟩⟩
  rw [hlen] at hi
  have hpl := (VL.at_plain (List.mem_of_getElem? hj)).1
  rw [hat i hi] at hj
  simp only [cut, List.getElem?_take, List.getElem?_drop] at hj
  split at hj
  · obtain ⟨u, hu, hr⟩ := hvr.get hj
    rw [exact_of_plain hpl hr] at hu
    simpa [World.cell?, hvs] using hu
  · cases hj

/-- what one element is -/
structure EC (α : Type) where
  wd : Nat
  cells : α → List Value
  dec : List SV → Option α
  ok : ∀ l x, dec l = some x → litCells wd (cells x) = l
def decL {α : Type} (c : EC α) : Nat → List SV → Option (List α)
  | 0, _ => some []
  | n + 1, l => match c.dec (l.take c.wd), decL c n (l.drop c.wd) with
    | some x, some r => some (x :: r)
    | _, _ => none
theorem decL_spec {α : Type} {c : EC α} : ∀ {n : Nat} {l : List SV} {xs : List α}, decL c n l = some xs → xs.length = n ∧ ∀ i, i < n → litCells c.wd ((xs.map c.cells).getD i []) = (l.drop (i * c.wd)).take c.wd
  | 0, l, xs, h => by cases h; exact ⟨rfl, fun i hi => by omega⟩
  | n + 1, l, xs, h => by
    simp only [decL] at h
    split at h
    · rename_i x r hx hr
      cases h
      obtain ⟨h1, h2⟩ := decL_spec hr
      refine ⟨by simp [h1], fun i hi => ?_⟩
      rcases i with _ | i
      · simpa using c.ok _ _ hx
      · have := h2 i (by omega)
        rw [List.drop_drop] at this
        simp only [List.map_cons, List.getD_cons_succ]
        rw [this, Nat.add_mul, Nat.one_mul, Nat.add_comm c.wd]
    · cases h
def litOf {α : Type} (c : EC α) (rd : Nat → Option Blk) : SV → Option (List α)
  | .sl key off len cap => match rd key with
    | some (.cells _ l) => if off + len * c.wd ≤ l.length ∧ len ≤ cap then decL c len (l.drop off) else none
    | _ => none
  | .val (.slice none 0 0) => some []
  | _ => none
def cLit {α β : Type} (c : EC α) (toL : β → List α) (ofL : List α → Option β) (hL : ∀ l x, ofL l = some x → toL x = l) : Cod β where
  enc fr x := .one false [.vec fr (.lit c.wd ((toL x).map c.cells))]
  dec rd | .one false [s] => (litOf c rd s).bind ofL
         | _ => none
  ok rd a x h := by
    split at h
    · rename_i s
      simp only [Option.bind_eq_some_iff] at h
      obtain ⟨l, hl, hx⟩ := h
      rw [hL l x hx]
      intro C E w v hrd hv
      refine list_in ?_
      unfold litOf at hl
      split at hl
      · rename_i key off len cap
        split at hl
        · rename_i _ e cs hk
          split at hl
          · rename_i hle
            obtain ⟨h1, h2⟩ := decL_spec hl
            refine sl_listW hrd hk (by simp [VL.len, h1]) hle.2 hle.1 (fun i hi => ?_) hv
            simp only [VL.at, VL.wd, cut]
            rw [h2 i hi, List.drop_drop]
          · cases hl
        · cases hl
      · cases hl; cases hv; exact nil_list rfl
      · cases hl
    · cases h
def ecInt (k : IntKind) : EC Int where
  wd := 1
  cells n := [.int k n]
  dec | [.int k' n] => if k' = k then some n else none
      | _ => none
  ok l x h := by
    split at h
    · split at h
      · rename_i hk; subst hk; cases h; rfl
      · cases h
    · cases h
/-- integers, so many -/
def cIntsN (k : IntKind) {β : Type} (toL : β → List Int) (ofL : List Int → Option β) (hL : ∀ l x, ofL l = some x → toL x = l) : Cod β where
  enc fr x := (cInts k).enc fr (toL x)
  dec rd a := ((cInts k).dec rd a).bind ofL
  ok rd a x h := by
    simp only [Option.bind_eq_some_iff] at h
    obtain ⟨l, hl, hx⟩ := h
    rw [hL l x hx]
    exact (cInts k).ok rd a l hl
def to0 {α : Type} (_ : Unit) : List α := []
def of0 {α : Type} : List α → Option Unit
  | [] => some ()
  | _ => none
theorem l0 {α : Type} (l : List α) (x : Unit) (h : of0 l = some x) : to0 x = l := by
  unfold of0 at h; split at h
  · rfl
  · cases h
def to1 {α : Type} (x : α) : List α := [x]
def of1 {α : Type} : List α → Option α
  | [x] => some x
  | _ => none
theorem l1 {α : Type} (l : List α) (x : α) (h : of1 l = some x) : to1 x = l := by
  unfold of1 at h; split at h
  · cases h; rfl
  · cases h
def to2 {α : Type} (x : α × α) : List α := [x.1, x.2]
def of2 {α : Type} : List α → Option (α × α)
  | [x, y] => some (x, y)
  | _ => none
theorem l2 {α : Type} (l : List α) (x : α × α) (h : of2 l = some x) : to2 x = l := by
  unfold of2 at h; split at h
  · cases h; rfl
  · cases h
def to3 {α : Type} (x : α × α × α) : List α := [x.1, x.2.1, x.2.2]
def of3 {α : Type} : List α → Option (α × α × α)
  | [x, y, z] => some (x, y, z)
  | _ => none
theorem l3 {α : Type} (l : List α) (x : α × α × α) (h : of3 l = some x) : to3 x = l := by
  unfold of3 at h; split at h
  · cases h; rfl
  · cases h
def to4 {α : Type} (x : α × α × α × α) : List α := [x.1, x.2.1, x.2.2.1, x.2.2.2]
def of4 {α : Type} : List α → Option (α × α × α × α)
  | [x, y, z, u] => some (x, y, z, u)
  | _ => none
theorem l4 {α : Type} (l : List α) (x : α × α × α × α) (h : of4 l = some x) : to4 x = l := by
  unfold of4 at h; split at h
  · cases h; rfl
  · cases h

/-! ### Loops -/
def SV.lt (n : Nat) : SV → Bool
  | .ptr k _ => decide (k < n)
  | .sl k _ _ _ => decide (k < n)
  | .clo _ ks => ks.all fun k => decide (k < n)
  | .own k => decide (k < n)
  | .sub k _ _ _ => decide (k < n)
  | .epo k _ _ _ => decide (k < n)
  | _ => true
def AV.lt (n : Nat) : AV → Bool
  | .one _ l => l.all (SV.lt n)
  | .tup l => l.all fun p => p.2.all (SV.lt n)
def topA : AV := .one false [.top]
def keepGo (keep : List Nat) : Nat → List AV → List AV
  | _, [] => []
  | i, v :: r => cond (keep.contains i) v topA :: keepGo keep (i + 1) r
/-- a state of which only some slots, and the first blocks, are remembered -/
def St.forget (keep : List Nat) (n : Nat) (s : St) : St := ⟨keepGo keep 0 s.slots, s.heap.take n⟩
def hLt (n : Nat) : Option (Option Blk) → Bool
  | some (some (.cells _ l)) => l.all (SV.lt n)
  | _ => true
def St.closed (n : Nat) (s : St) : Bool := s.slots.all (AV.lt n) && s.heap.all (hLt n)

theorem keepGo_rel {E w} {keep : List Nat} : ∀ {i : Nat} {l : List AV} {vs : List Value}, AllR (AV.rel C E w) l vs → AllR (AV.rel C E w) (keepGo keep i l) vs
  | _, [], vs, h => by have := h.unnil; subst this; exact AllR.nil
  | i, x :: r, vs, h => by
    obtain ⟨v, vs', rfl, hv, h'⟩ := h.uncons
    refine AllR.cons ?_ (keepGo_rel h')
    cases keep.contains i
    · exact trivial
    · exact hv

def Env.cutE (E : Env) (n : Nat) : Env := { E with β := fun k => if k < n then E.β k else none, σ := fun k => if k < n then E.σ k else none }
theorem SV.rel_cut {E w s v n} (hn : SV.lt n s = true) (h : SV.rel C E w s v) : SV.rel C (E.cutE n) w s v := by
  cases s <;> simp only [SV.lt, decide_eq_true_eq] at hn <;> try exact h
  case ptr key off => obtain ⟨m, hm, rfl⟩ := h; exact ⟨m, by simp [Env.cutE, hn, hm], rfl⟩
  case sl key off len cap => obtain ⟨m, hm, rfl⟩ := h; exact ⟨m, by simp [Env.cutE, hn, hm], rfl⟩
  case clo f caps =>
    obtain ⟨ns, hns, rfl⟩ := h
    refine ⟨ns, ?_, rfl⟩
    rw [← hns]
    refine List.map_congr_left fun c hc => ?_
    have := List.all_eq_true.1 hn c hc
    simp only [decide_eq_true_eq] at this
    simp [Env.cutE, this]
  case own key => exact ⟨by simp [Env.cutE, hn, h.1], h.2⟩
  case sub key wd lo len =>
    obtain ⟨a, cap, b, l, c, h1, h2⟩ := h
    exact ⟨a, cap, b, l, c, by simp [Env.cutE, hn, h1], h2⟩
  case epo key wd i o =>
    obtain ⟨m, l, c, h1, h2⟩ := h
    exact ⟨m, l, c, by simp [Env.cutE, hn, h1], h2⟩
theorem OneR_cut {E w n g l v} (hn : l.all (SV.lt n) = true) (h : OneR C E w g l v) : OneR C (E.cutE n) w g l v :=
  OneR.map h fun s _ hs hr => SV.rel_cut (List.all_eq_true.1 hn s hs) hr
theorem AV.rel_cut {E w x v n} (hn : AV.lt n x = true) (h : AV.rel C E w x v) : AV.rel C (E.cutE n) w x v := by
  cases x with
  | one g l => exact OneR_cut hn h
  | tup l =>
    obtain ⟨vs, rfl, ha⟩ := h
    exact ⟨vs, rfl, ha.mono fun p u hp hr => OneR_cut (List.all_eq_true.1 hn p hp) hr⟩
theorem Env.blk_cut {E : Env} {n k : Nat} (h : k < n) : (E.cutE n).blk k = E.blk k := by simp [Env.blk, Env.cutE, h]

theorem Rel.forget {E s a w} (h : Rel C B w0 E s a w) {keep : List Nat} {n : Nat} (hc : (s.forget keep n).closed n = true) : Rel C B w0 (E.cutE n) (s.forget keep n) a w := by
  simp only [St.closed, Bool.and_eq_true] at hc
  have hget : ∀ k b, (s.forget keep n).heap[k]? = some (some (some b)) → k < n ∧ s.heap[k]? = some (some (some b)) := by
    intro k b hk
    simp only [St.forget, List.getElem?_take] at hk
    split at hk
    · rename_i hkn; exact ⟨hkn, hk⟩
    · cases hk
  refine { slots := ?_, defers := h.defers, heap := ?_, free := ?_, lo := h.lo, inj := ?_, below := h.below, base := h.base, elo := h.elo }
  · exact (keepGo_rel h.slots).mono fun x v hx hr => AV.rel_cut (List.all_eq_true.1 hc.1 x hx) hr
  · intro k b hk
    obtain ⟨hkn, hk'⟩ := hget k b hk
    have hb := h.heap k b hk'
    have hlt := List.all_eq_true.1 hc.2 _ (List.mem_of_getElem? hk)
    cases b with
    | cells e l =>
      obtain ⟨m, hm, hA, vs, hvs, hvr, h1⟩ := hb
      exact ⟨m, by simp [Env.cutE, hkn, hm], hA, vs, hvs, hvr.mono fun x v hx hr => SV.rel_cut (List.all_eq_true.1 hlt x hx) hr, h1⟩
    | grow e xs =>
      obtain ⟨v, hv, hβ, hA, ho⟩ := hb
      exact ⟨v, by simp [Env.cutE, hkn, hv], by simp [Env.cutE, hkn, hβ], hA, ho⟩
  · intro k hk
    by_cases hkn : k < n
    · have : E.β k = none ∧ E.σ k = none := by
        refine h.free k ?_
        simp only [St.forget, List.getElem?_take, if_pos hkn] at hk
        exact hk
      simp [Env.cutE, hkn, this]
    · simp [Env.cutE, hkn]
  · intro k k' b b' m h1 h2 e1 e2
    obtain ⟨hk1, h1'⟩ := hget k b h1
    obtain ⟨hk2, h2'⟩ := hget k' b' h2
    rw [Env.blk_cut hk1] at e1
    rw [Env.blk_cut hk2] at e2
    exact h.inj k k' b b' m h1' h2' e1 e2

/-- a state that may be taken for another -/
def Fits (keep : List Nat) (n : Nat) (s t : St) : Prop := s.forget keep n = t ∧ t.closed n = true
theorem Rel.fits {E s a w keep n t} (h : Rel C B w0 E s a w) (hf : Fits keep n s t) : Rel C B w0 (E.cutE n) t a w := by
  obtain ⟨rfl, hc⟩ := hf
  exact h.forget hc

/-- a loop that is gone through by an invariant with a measure, and ends one way -/
theorem EW_loop {c : Code} {ι : Type} (I : ι → St) (μ : ι → Nat) (keep : List Nat) (n : Nat) (k : X → St → Prop)
    (hbody : ∀ i, EW P C B w0 c (I i) fun x s => match x with
      | .nrm => ∃ j, Fits keep n s (I j) ∧ μ j < μ i
      | .ex id => ∃ t, Fits keep n s t ∧ k (.ex id) t
      | .ret => k .ret s) (i : ι) : EW P C B w0 (.loop c) (I i) k := by
  intro E a w hr
  refine wp_loop_ghost (fun m a w => ∃ j E, μ j = m ∧ Rel C B w0 E (I j) a w) (μ i) ⟨i, E, rfl, hr⟩ ?_
  rintro m a w ⟨j, E, rfl, hr⟩
  refine wp_mono (hbody j E a w hr) ?_
  rintro e a' w' ⟨x, E', s', rfl, hr', h'⟩
  cases x with
  | nrm =>
    obtain ⟨j', hf, hlt⟩ := h'
    exact ⟨μ j', hlt, j', _, rfl, hr'.fits hf⟩
  | ex id =>
    obtain ⟨t, hf, hk⟩ := h'
    exact ⟨.ex id, _, t, rfl, hr'.fits hf, hk⟩
  | ret => exact ⟨.ret, _, s', rfl, hr', h'⟩

/-- the loop's summary: from that state it ends that way in that state -/
def ls (keep : List Nat) (n : Nat) (I0 : St) (x : X) (F : St) : St → (X → St → Prop) → Prop := fun s k => Fits keep n s I0 ∧ k x F
theorem ls_ok {c : Code} {keep : List Nat} {n : Nat} {I0 F : St} {x : X} (h : EW P C B w0 (.loop c) I0 fun y t => y = x ∧ t = F) {s : St} {k : X → St → Prop} (hk : ls keep n I0 x F s k) : EW P C B w0 (.loop c) s k := by
  intro E a w hr
  refine wp_mono (h _ a w (hr.fits hk.1)) ?_
  rintro e a' w' ⟨y, E', t, rfl, hr', rfl, rfl⟩
  exact ⟨_, E', _, rfl, hr', hk.2⟩
def lp (fn : Func) (i : Nat) : Code := match fn.body with
  | some c => (loopsIn c).getD i .skip
  | none => .skip
theorem loops_one {L : Loops} {fn : Func} (h1 : (fn.body.map fun c => (loopsIn c).length) = some 1) (h : ∀ f, (rid (lp fn 0)).bind L = some f → ∀ s k, f s k → EW P C B w0 (.loop (lp fn 0)) s k) : ∀ c, fn.body = some c → LoopsOK P C B w0 L (loopsIn c) := by
  intro c hc d hd f hf s k hk
  have h2 : lp fn 0 = (loopsIn c).getD 0 .skip := by simp [lp, hc]
  have : lp fn 0 = d := by
    rw [hc] at h1
    simp only [Option.map_some, Option.some.injEq] at h1
    obtain ⟨x, hx⟩ := List.length_eq_one_iff.1 h1
    rw [h2]
    rw [hx] at hd ⊢
    simp at hd
    simp [hd]
  subst this
  exact h f hf s k hk
end Go.Ev
