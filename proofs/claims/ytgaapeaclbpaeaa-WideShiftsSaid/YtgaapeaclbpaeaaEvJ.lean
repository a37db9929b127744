/- Lists of known length, known functions as arguments, loops by an invariant. -/
import Derived.Test.YtgaapeaclbpaeaaEvI
namespace Go.Ev
open Go.RowKit

variable {P : Program} {C : Ctx} {B : Nat} {w0 : World}

/-! ### A known function as an argument; one function, several summaries -/
def cFn (f : FuncId) : Cod Unit where
  enc _ _ := .one false [.clo f []]
  dec _ | .one false [.clo g []] => cond (Nat.beq g f) (some ()) none
        | _ => none
  ok rd a x h := by
    split at h
    · rename_i g
      cases hb : Nat.beq g f with
      | false => rw [hb] at h; cases h
      | true =>
        have := Nat.eq_of_beq_eq_true hb
        subst this
        intro C E w v fr G _ _ _ hv C' E' _
        obtain ⟨ns, hns, rfl⟩ := hv
        have : ns = [] := by simpa using hns.symm
        subst this
        exact ⟨[], rfl, rfl⟩
    · cases h
  weak _ := rfl

/-! ### Closures that hold lists -/
def pvI (k : IntKind) (rd : Nat → Option Blk) : SV → Option (List Int)
  | .ptr key 0 => match rd key with
    | some (.cells _ [.vec _ (.int k' l)]) => if k' = k then some l else none
    | _ => none
  | .pvc (.int k' l) => if k' = k then some l else none
  | _ => none
theorem pvI_spec {k : IntKind} {rd : Nat → Option Blk} {s : SV} {l : List Int} (h : pvI k rd s = some l) {E : Env} {w : World} (hrd : ∀ k b, rd k = some b → BlkR C E w k b) {v : Value} (hv : SV.rel C E w s v) {G : Nat → Prop} (h1 : ∀ n, ¬ E.A n → G n) (h2 : ∀ k ∈ s.keys, ∀ b n, rd k = some b → E.blk k = some n → G n)
    {E' : Env} (hE : ∀ n, G n → E'.G false n) : PvcR E' w (.int k l) v := by
  unfold pvI at h
  split at h
  · split at h
    · rename_i hk
      split at h
      · rename_i hkk; subst hkk; cases h
        obtain ⟨n, hn, _, vs, hvs, hvr, _⟩ := hrd _ _ hk
        obtain ⟨m, hm, rfl⟩ := hv
        rw [hn] at hm; cases hm
        obtain ⟨u, hu, hur⟩ := hvr.get (i := 0) rfl
        have hu' : vs[0]? = some u := by simpa using hu
        exact ⟨n, 0, u, rfl, (hE n (h2 _ (by simp [SV.keys]) _ n hk (by simp [Env.blk, hn]))).1, heap_get_lt hvs, by simpa [World.cell?, hvs] using hu', (VecG.mono hur (fun b _ hb => hE b (h1 b hb.1)) (Nat.le_refl _) (fun _ _ _ _ h => h)).flag⟩
      · cases h
    · cases h
  · split at h
    · rename_i hkk; subst hkk; cases h
      obtain ⟨b, off, u, rfl, e1, e2, e3, e4⟩ := hv
      exact ⟨b, off, u, rfl, (hE b (h1 b e1)).1, e2, e3, (VecG.mono e4 (fun b _ hb => hE b (h1 b hb.1)) (Nat.le_refl _) (fun _ _ _ _ h => h)).flag⟩
    · cases h
  · cases h
theorem pvI_keys {k : IntKind} {rd : Nat → Option Blk} {s : SV} {l : List Int} (h : pvI k rd s = some l) : s.fresh rd = false := by
  unfold pvI at h
  split at h
  · rfl
  · rfl
  · cases h
/-- a captured list, as the closure's own function sees it -/
def cPv (k : IntKind) : Cod (List Int) where
  enc _ l := .one false [.pvc (.int k l)]
  dec rd | .one false [s] => pvI k rd s
         | _ => none
  ok rd a x h := by
    split at h
    · intro C E w v fr G hrd h1 h2 hv C' E' hE
      refine pvI_spec h hrd hv (fun n hn => h1 n hn fun e => ?_) (fun k hk => h2 k (by simpa [AV.keys, AV.cells] using hk)) fun n hn => ⟨(hE n hn).1, fun e => by cases e⟩
      simp [AV.fresh, AV.cells, pvI_keys h] at e
    · cases h
  weak _ := rfl

def orS (a b : Summ) : Summ where
  pre args rd := match a.fn args rd with
    | some _ => a.pre args rd
    | none => b.pre args rd
  fn args rd := match a.fn args rd with
    | some r => some r
    | none => b.fn args rd
theorem good_or {f : FuncId} {a b : Summ} (ha : GoodF P f a) (hb : GoodF P f b) : GoodF P f (orS a b) := by
  refine ⟨ha.1, fun C E w args vs rd r hpre hfn => ?_⟩
  simp only [orS] at hpre hfn
  split at hfn
  · rename_i x hx
    rw [hx] at hpre
    cases hfn
    exact ha.2 C E w args vs rd r hpre hx
  · rename_i hx
    rw [hx] at hpre
    exact hb.2 C E w args vs rd r hpre hfn

/-! ### Lists of rows -/
/-- cells that lie in a block of cells -/
theorem sl_listR {E w} {G : Nat → Prop} {rd : Nat → Option Blk} (hrd : ∀ k b, rd k = some b → BlkR C E w k b) {key off len cap : Nat} {e : TypeId} {l : List SV} (hk : rd key = some (.cells e l)) (hG : ∀ b n, rd key = some b → E.blk key = some n → G n) {xs : VL} (hlen : xs.len = len) (hc : len ≤ cap)
    (hat : ∀ i, i < len → ∀ j c, (xs.at false i)[j]? = some c → ∃ s, l[off + i * xs.wd + j]? = some s ∧ ∀ u, SV.rel C E w s u → CellIn G w c u) {v : Value} (hs : SV.rel C E w (.sl key off len cap) v) {fr : Bool} : VecG G w fr xs v := by
  obtain ⟨n, hn, _, vs, hvs, hvr, _⟩ := hrd _ _ hk
  obtain ⟨m, hm, rfl⟩ := hs
  rw [hn] at hm; cases hm
  refine ⟨_, cap, by rw [hlen], by omega, fun e => (by cases e), .inr ⟨n, off, rfl, hG _ _ hk (by simp [Env.blk, hn]), heap_get_lt hvs, fun i hi => at_flag (fr := false) fun j c hj => ?_⟩⟩
  rw [hlen] at hi
  obtain ⟨s, h1, h2⟩ := hat i hi j c hj
  obtain ⟨u, hu, hr⟩ := hvr.get h1
  exact ⟨u, by simpa [World.cell?, hvs, Nat.add_assoc] using hu, h2 u hr⟩

def cellCv (_rd : Nat → Option Blk) : Ct → SV → Option Cv
  | .int k, .int k' n => if k' = k then some (.i n) else none
  | .bool, .bool b => some (.b b)
  | .ints k, .vec _ (.int k' l) => if k' = k then some (.l l) else none
  | .ints _, .val (.slice none 0 0) => some (.l [])
  | _, _ => none
def rowCv (rd : Nat → Option Blk) : List Ct → List SV → Option (List Cv)
  | [], _ => some []
  | c :: cs, s :: ss => match cellCv rd c s, rowCv rd cs ss with
    | some x, some r => some (x :: r)
    | _, _ => none
  | _ :: _, [] => none
def rowsCv (rd : Nat → Option Blk) (ks : List Ct) : Nat → List SV → Option (List (List Cv))
  | 0, _ => some []
  | n + 1, l => match rowCv rd ks l, rowsCv rd ks n (l.drop ks.length) with
    | some x, some r => some (x :: r)
    | _, _ => none
def rowsOf (ks : List Ct) (rd : Nat → Option Blk) : SV → Option (List (List Cv))
  | .sl key off len cap => match rd key with
    | some (.cells _ l) => if len ≤ cap then rowsCv rd ks len (l.drop off) else none
    | _ => none
  | .val (.slice none 0 0) => some []
  | .vec _ (.row ks' l) => if ks' = ks then some l else none
  | _ => none
/-- what is known of a cell -/
def CellTo (rd : Nat → Option Blk) (c s : SV) : Prop := ∀ (C : Ctx) (E : Env) (w : World) (G : Nat → Prop), (∀ n, ¬ E.A n → (s.fresh rd = true → E.F n) → G n) → ∀ u, SV.rel C E w s u → CellIn G w c u
theorem VecG.in {G : Nat → Prop} {w : World} {fr : Bool} {xs : VL} {v : Value} (hf : xs.flat = true) (h : VecG G w fr xs v) : VecIn G w xs v := by
  obtain ⟨a, cap, rfl, h1, h2, h3⟩ := h
  exact ⟨hf, a, cap, rfl, h1, h2, h3.imp id fun ⟨b, off, e1, e2, e3, e4⟩ => ⟨b, off, e1, e2, e3, fun i hi => (e4 i hi).x hf⟩⟩
theorem rowCv_spec {rd : Nat → Option Blk} : ∀ {ks : List Ct} {l : List SV} {r : List Cv}, rowCv rd ks l = some r → ∀ (j : Nat) (c : SV), (rowCells false ks r)[j]? = some c → ∃ s : SV, l[j]? = some s ∧ CellTo rd c s
  | [], l, r, h, j, c, hj => by simp [rowCells] at hj
  | _ :: _, [], r, h, j, c, hj => by cases h
  | k :: ks, s :: ss, r, h, j, c, hj => by
    simp only [rowCv] at h
    split at h
    · rename_i x r' hx hr
      cases h
      rcases j with _ | j
      · refine ⟨s, rfl, ?_⟩
        unfold cellCv at hx
        split at hx
        · split at hx
          · rename_i hk; subst hk; cases hx
            simp only [rowCells, List.getElem?_cons_zero, Option.some.injEq] at hj; subst hj
            exact fun C E w G _ u hu => hu
          · cases hx
        · cases hx
          simp only [rowCells, List.getElem?_cons_zero, Option.some.injEq] at hj; subst hj
          exact fun C E w G _ u hu => hu
        · split at hx
          · rename_i hk; subst hk; cases hx
            simp only [rowCells, List.getElem?_cons_zero, Option.some.injEq] at hj; subst hj
            intro C E w G hG u hu
            exact VecG.in (fr := false) rfl (VecG.mono hu (fun b _ hb => hG b hb.1 hb.2) (Nat.le_refl _) (fun _ _ _ _ h => h)).flag
          · cases hx
        · cases hx
          simp only [rowCells, List.getElem?_cons_zero, Option.some.injEq] at hj; subst hj
          intro C E w G hG u hu
          cases hu
          exact VecG.in (fr := false) rfl (nil_G rfl)
        · cases hx
      · have hj' : (rowCells false ks r')[j]? = some c := by cases k <;> simpa only [rowCells, List.getElem?_cons_succ, List.tail_cons] using hj
        obtain ⟨s', h1, h2⟩ := rowCv_spec hr j c hj'
        exact ⟨s', by simpa using h1, h2⟩
    · cases h
theorem rowsCv_spec {rd : Nat → Option Blk} {ks : List Ct} : ∀ {n : Nat} {l : List SV} {rs : List (List Cv)}, rowsCv rd ks n l = some rs → rs.length = n ∧ ∀ i, i < n → ∀ (j : Nat) (c : SV), (rowCells false ks (rs.getD i []))[j]? = some c → ∃ s : SV, l[i * ks.length + j]? = some s ∧ CellTo rd c s
  | 0, l, rs, h => by cases h; exact ⟨rfl, fun i hi => by omega⟩
  | n + 1, l, rs, h => by
    simp only [rowsCv] at h
    split at h
    · rename_i x r hx hr
      cases h
      obtain ⟨h1, h2⟩ := rowsCv_spec hr
      refine ⟨by simp [h1], fun i hi j c hj => ?_⟩
      rcases i with _ | i
      · simpa using rowCv_spec hx j c (by simpa using hj)
      · obtain ⟨s, h3, h4⟩ := h2 i (by omega) j c (by simpa using hj)
        rw [List.getElem?_drop] at h3
        exact ⟨s, by rw [Nat.add_mul, Nat.one_mul, Nat.add_comm _ ks.length, Nat.add_assoc]; exact h3, h4⟩
    · cases h
theorem rowsOf_to {ks : List Ct} {rd : Nat → Option Blk} {s : SV} {x : List (List Cv)} (h : rowsOf ks rd s = some x) : ToG rd s (.row ks x) := by
  unfold rowsOf at h
  split at h
  · rename_i key off len cap
    split at h
    · rename_i _ e l hk
      split at h
      · rename_i hle
        obtain ⟨h1, h2⟩ := rowsCv_spec h
        intro C E w v G hrd e1 e2 hv
        refine sl_listR hrd hk (fun b n hb hn => e2 key (by simp [SV.keys]) b n hb hn) (by simp [VL.len, h1]) hle (fun i hi j c hj => ?_) hv
        obtain ⟨s, h3, h4⟩ := h2 i hi j c hj
        rw [List.getElem?_drop] at h3
        refine ⟨s, by rw [Nat.add_assoc]; exact h3, fun u hu => h4 C E w G (fun n hn hf => e1 n hn fun e => hf ?_) u hu⟩
        simp only [SV.fresh, hk] at e
        have := List.all_eq_true.1 e s (List.mem_of_getElem? h3)
        cases s <;> first | exact this | rfl | simp [SV.plain] at this
      · cases h
    · cases h
  · cases h; intro C E w v G _ _ _ hv; cases hv; exact nil_G rfl
  · rename_i fr' ks' l
    split at h
    · rename_i hk; subst hk; cases h
      intro C E w v G hrd h1 h2 hv
      exact (VecG.mono hv (fun b _ hb => h1 b hb.1 hb.2) (Nat.le_refl _) (fun _ _ _ _ h => h)).flag
    · cases h
  · cases h
/-- lists of rows; what is said of them: by 'to' -/
def cRows {α : Type} (ks : List Ct) (to : List (List Cv) → α) (of : α → List (List Cv)) (hto : ∀ x, of (to x) = x) : Cod α where
  enc fr x := .one false [.vec fr (.row ks (of x))]
  dec rd | .one false [s] => (rowsOf ks rd s).map to
         | _ => none
  ok rd a x h := by
    split at h
    · simp only [Option.map_eq_some_iff] at h
      obtain ⟨y, hy, rfl⟩ := h
      simp only [hto]
      exact (rowsOf_to hy).one
    · cases h
  weak _ := rfl

/-! ### Lists of known length -/
/-- what one element is -/
structure EC (α : Type) where
  wd : Nat
  cells : α → List Value
  dec : List SV → Option α
  ok : ∀ l x, dec l = some x → litCells wd (cells x) = l
def decL {α : Type} (c : EC α) : Nat → List SV → Option (List α)
  | 0, _ => some []
  | n + 1, l => match c.dec (l.take c.wd), decL c n (l.drop c.wd) with
    | some x, some r => some (x :: r)
    | _, _ => none
theorem decL_spec {α : Type} {c : EC α} : ∀ {n : Nat} {l : List SV} {xs : List α}, decL c n l = some xs → xs.length = n ∧ ∀ i, i < n → litCells c.wd ((xs.map c.cells).getD i []) = (l.drop (i * c.wd)).take c.wd
  | 0, l, xs, h => by cases h; exact ⟨rfl, fun i hi => by omega⟩
  | n + 1, l, xs, h => by
    simp only [decL] at h
    split at h
    · rename_i x r hx hr
      cases h
      obtain ⟨h1, h2⟩ := decL_spec hr
      refine ⟨by simp [h1], fun i hi => ?_⟩
      rcases i with _ | i
      · simpa using c.ok _ _ hx
      · have := h2 i (by omega)
        rw [List.drop_drop] at this
        simp only [List.map_cons, List.getD_cons_succ]
        rw [this, Nat.add_mul, Nat.one_mul, Nat.add_comm c.wd]
    · cases h
def litOf {α : Type} (c : EC α) (rd : Nat → Option Blk) : SV → Option (List α)
  | .sl key off len cap => match rd key with
    | some (.cells _ l) => if off + len * c.wd ≤ l.length ∧ len ≤ cap then decL c len (l.drop off) else none
    | _ => none
  | .val (.slice none 0 0) => some []
  | _ => none
def cLit {α β : Type} (c : EC α) (toL : β → List α) (ofL : List α → Option β) (hL : ∀ l x, ofL l = some x → toL x = l) : Cod β where
  enc fr x := .one false [.vec fr (.lit c.wd ((toL x).map c.cells))]
  dec rd | .one false [s] => (litOf c rd s).bind ofL
         | _ => none
  ok rd a x h := by
    split at h
    · rename_i s
      simp only [Option.bind_eq_some_iff] at h
      obtain ⟨l, hl, hx⟩ := h
      rw [hL l x hx]
      refine ToG.one ?_
      intro C E w v G hrd e1 e2 hv
      unfold litOf at hl
      split at hl
      · rename_i key off len cap
        split at hl
        · rename_i _ e cs hk
          split at hl
          · rename_i hle
            obtain ⟨h1, h2⟩ := decL_spec hl
            refine sl_listR hrd hk (fun b n hb hn => e2 key (by simp [SV.keys]) b n hb hn) (by simp [VL.len, h1]) hle.2 (fun i hi j c hj => ?_) hv
            have hpl := (VL.at_plain (xs := .lit _ _) rfl (List.mem_of_getElem? hj)).1
            simp only [VL.at, VL.wd] at hj ⊢
            rw [h2 i hi, List.drop_drop, List.getElem?_take, List.getElem?_drop] at hj
            split at hj
            · refine ⟨c, by rw [← hj], fun u hu => ?_⟩
              rw [exact_of_plain hpl hu]
              exact plain_cell hpl
            · cases hj
          · cases hl
        · cases hl
      · cases hl; cases hv; exact nil_G rfl
      · cases hl
    · cases h
  weak _ := rfl
def ecInt (k : IntKind) : EC Int where
  wd := 1
  cells n := [.int k n]
  dec | [.int k' n] => if k' = k then some n else none
      | _ => none
  ok l x h := by
    split at h
    · split at h
      · rename_i hk; subst hk; cases h; rfl
      · cases h
    · cases h
/-- integers, so many -/
def cIntsN (k : IntKind) {β : Type} (toL : β → List Int) (ofL : List Int → Option β) (hL : ∀ l x, ofL l = some x → toL x = l) : Cod β where
  enc fr x := (cInts k).enc fr (toL x)
  dec rd a := ((cInts k).dec rd a).bind ofL
  ok rd a x h := by
    simp only [Option.bind_eq_some_iff] at h
    obtain ⟨l, hl, hx⟩ := h
    rw [hL l x hx]
    exact (cInts k).ok rd a l hl
  weak x := (cInts k).weak _
def to0 {α : Type} (_ : Unit) : List α := []
def of0 {α : Type} : List α → Option Unit
  | [] => some ()
  | _ => none
theorem l0 {α : Type} (l : List α) (x : Unit) (h : of0 l = some x) : to0 x = l := by
  unfold of0 at h; split at h
  · rfl
  · cases h
def to1 {α : Type} (x : α) : List α := [x]
def of1 {α : Type} : List α → Option α
  | [x] => some x
  | _ => none
theorem l1 {α : Type} (l : List α) (x : α) (h : of1 l = some x) : to1 x = l := by
  unfold of1 at h; split at h
  · cases h; rfl
  · cases h
def to2 {α : Type} (x : α × α) : List α := [x.1, x.2]
def of2 {α : Type} : List α → Option (α × α)
  | [x, y] => some (x, y)
  | _ => none
theorem l2 {α : Type} (l : List α) (x : α × α) (h : of2 l = some x) : to2 x = l := by
  unfold of2 at h; split at h
  · cases h; rfl
  · cases h
def to3 {α : Type} (x : α × α × α) : List α := [x.1, x.2.1, x.2.2]
def of3 {α : Type} : List α → Option (α × α × α)
  | [x, y, z] => some (x, y, z)
  | _ => none
theorem l3 {α : Type} (l : List α) (x : α × α × α) (h : of3 l = some x) : to3 x = l := by
  unfold of3 at h; split at h
  · cases h; rfl
  · cases h
def to4 {α : Type} (x : α × α × α × α) : List α := [x.1, x.2.1, x.2.2.1, x.2.2.2]
def of4 {α : Type} : List α → Option (α × α × α × α)
  | [x, y, z, u] => some (x, y, z, u)
  | _ => none
theorem l4 {α : Type} (l : List α) (x : α × α × α × α) (h : of4 l = some x) : to4 x = l := by
  unfold of4 at h; split at h
  · cases h; rfl
  · cases h

/-! ### Functions that hand on parts of their arguments: the arguments' own blocks are given up -/
def keysOf : List AV → List Nat
  | [] => []
  | a :: r => a.keys ++ keysOf r
def aliasW {α : Type} (A : ACod α) (pre : α → Bool) (r : α → AV) : WSumm where
  pre args rd := match A.dec rd args with
    | some x => pre x
    | none => false
  fn args rd := match A.dec rd args with
    | some x => some (cond (args.all (AV.fresh rd)) (r x) (r x).weak, (keysOf args).map fun k => (k, none))
    | none => none
theorem mem_keysOf {k : Nat} : ∀ {l : List AV} {a}, a ∈ l → k ∈ a.keys → k ∈ keysOf l
  | b :: l, a, h, hk => by
    rcases List.mem_cons.1 h with rfl | h
    · simp [keysOf, hk]
    · simp [keysOf, mem_keysOf h hk]
theorem chg_kills_get : ∀ {ks : List Nat} {h : List (Option (Option Blk))} {k : Nat}, (chg (ks.map fun k => (k, none)) h)[k]? = if k ∈ ks ∧ k < h.length then some (some none) else h[k]?
  | [], h, k => by simp [chg]
  | a :: ks, h, k => by
    simp only [List.map_cons, chg]
    rw [chg_kills_get]
    simp only [List.length_set, List.mem_cons]
    by_cases hk : k ∈ ks ∧ k < h.length
    · rw [if_pos hk, if_pos ⟨.inr hk.1, hk.2⟩]
    · rw [if_neg hk, List.getElem?_set]
      by_cases e : a = k
      · subst e
        rw [if_pos rfl]
        by_cases hl : a < h.length
        · rw [if_pos hl, if_pos ⟨.inl rfl, hl⟩]
        · rw [if_neg hl, if_neg (fun h => hl h.2), List.getElem?_eq_none (by omega)]
      · rw [if_neg e, if_neg]
        rintro ⟨h1 | h1, h2⟩
        · exact e h1.symm
        · exact hk ⟨h1, h2⟩
/-- blocks are given up -/
theorem Rel.frees {E s a w} (h : Rel C B w0 E s a w) (ks : List Nat) (hks : ∀ k ∈ ks, ∃ b, s.heap[k]? = some (some (some b))) :
    Rel C B w0 { E with A := fun n => E.A n ∧ ∀ k ∈ ks, E.blk k ≠ some n } { s with heap := chg (ks.map fun k => (k, none)) s.heap } a w := by
  have hext : ExtE E { E with A := fun n => E.A n ∧ ∀ k ∈ ks, E.blk k ≠ some n } w w := ⟨fun _ _ h => h, fun _ _ h => h, fun _ _ h => h.1, fun _ _ _ h => h, Nat.le_refl _, fun _ _ _ _ h => h⟩
  have hget : ∀ k b, (chg (ks.map fun k => (k, none)) s.heap)[k]? = some (some (some b)) → k ∉ ks ∧ s.heap[k]? = some (some (some b)) := by
    intro k b hk
    rw [chg_kills_get] at hk
    split at hk
    · cases hk
    · rename_i hn
      exact ⟨fun hm => hn ⟨hm, list_get_lt hk⟩, hk⟩
  refine { slots := h.slots.mono fun _ _ _ hr => AV.rel_map hr fun _ _ hs => SV.rel_ext hs hext, defers := h.defers, heap := ?_, free := ?_, lo := fun n hn => h.lo n hn.1, inj := ?_, below := h.below, base := h.base, ok := h.ok.to rfl rfl fun _ h => h }
  · intro k b hk
    obtain ⟨hkn, hk'⟩ := hget k b hk
    have hb := h.heap k b hk'
    have hne : ∀ n, E.blk k = some n → ∀ j ∈ ks, E.blk j ≠ some n := by
      intro n hn j hj e
      obtain ⟨b', hb'⟩ := hks j hj
      exact hkn (h.inj k j _ _ n hk' hb' hn e ▸ hj)
    cases b with
    | cells e l =>
      obtain ⟨m, hm, hA, vs, hvs, hvr, h1⟩ := hb
      exact ⟨m, hm, ⟨hA, hne m (by simp [Env.blk, hm])⟩, vs, hvs, hvr.mono fun _ _ _ hs => SV.rel_ext hs hext, h1⟩
    | grow e xs =>
      obtain ⟨v, hv, hβ, hA, hf, ho⟩ := hb
      exact ⟨v, hv, hβ, fun n hn => ⟨hA n hn, hne n (by simp [Env.blk, hβ, hv, hn])⟩, hf, ho⟩
  · intro k hk
    refine h.free k ?_
    rw [chg_kills_get] at hk
    split at hk
    · rcases hk with hk | hk <;> cases hk
    · exact hk
  · intro k k' b b' n h1 h2 e1 e2
    exact h.inj k k' b b' n (hget k b h1).2 (hget k' b' h2).2 e1 e2
theorem good_alias {α : Type} {A : ACod α} {pre : α → Bool} {r : α → AV} {f : FuncId} (hc : callable P f) (h : ∀ x, pre x = true → ∀ w (F : Nat → Prop), (∀ n, w.heap.size ≤ n → F n) → ∀ vs, ArgsF F (A.enc true x) w vs → Calls P f vs w (AnsF F (r x) w)) : GoodW P f (aliasW A pre r) := by
  refine ⟨hc, fun C B w0 E s a w al args vs z ch hpre hfn hch hR hargs => ?_⟩
  simp only [aliasW] at hpre hfn
  split at hfn
  · rename_i x hx
    rw [hx] at hpre
    cases hfn
    have hks : ∀ k ∈ keysOf args, ∃ b, s.heap[k]? = some (some (some b)) := by
      intro k hk
      have := List.all_eq_true.1 hch (k, none) (List.mem_map.2 ⟨k, hk, rfl⟩)
      obtain ⟨b, hb⟩ := Option.isSome_iff_exists.1 this
      exact ⟨b, rd_heap hb⟩
    have hfree := hR.frees (keysOf args) hks
    have hAF : ∀ n, E.A n → E.F n := fun n hn => by
      rcases (hR.lo n hn).1 with h1 | h1
      · exact hR.ok.F n h1
      · exact hR.ok.X n h1
    let F : Nat → Prop := fun n => w.heap.size ≤ n ∨ (¬ (E.A n ∧ ∀ k ∈ keysOf args, E.blk k ≠ some n) ∧ ((args.all (AV.fresh (s.rd al))) = true → E.F n))
    have hin : ArgsF F (A.enc true x) w vs := args_in hx (rd_rel hR al) hargs true F
      (fun n hn hf => .inr ⟨fun h => hn h.1, hf⟩)
      (fun a ha k hk b n hb hn => .inr ⟨fun h => h.2 k (mem_keysOf ha hk) hn, fun _ => hAF n (hR.blkA (rd_heap hb) hn)⟩)
    refine (h x hpre w F (fun n hn => .inl hn) vs hin).mono ?_
    rintro e w' ⟨v, rfl, hv, hb⟩
    refine ⟨v, _, rfl, hfree.world hb, ?_⟩
    have hG : ∀ fr : Bool, (fr = true → args.all (AV.fresh (s.rd al)) = true) → ∀ n, F n → ({ E with A := fun n => E.A n ∧ ∀ k ∈ keysOf args, E.blk k ≠ some n } : Env).G fr n := by
      rintro fr hfr n (hn | hn)
      · exact ⟨fun hA => by have := (hR.lo n hA.1).2; omega, fun _ => hR.ok.F n (Nat.le_trans hR.base hn)⟩
      · exact ⟨hn.1, fun e => hn.2 (hfr e)⟩
    cases hfr : args.all (AV.fresh (s.rd al)) with
    | true => exact hv C _ (hG true fun _ => hfr)
    | false => exact hv.weak C _ (hG false fun e => by cases e)
  · cases hfn

/-! ### Functions that write into a list that they are lent -/
/-- a lent list: its key, its whole, the part -/
def lentOf (rd : Nat → Option Blk) : SV → Option (Nat × TypeId × VL × Nat × Nat)
  | .own k => match rd k with
    | some (.grow e xs) => some (k, e, xs, 0, xs.len)
    | _ => none
  | .sub k wd lo len => match rd k with
    | some (.grow e xs) => if xs.wd = wd then some (k, e, xs, lo, len) else none
    | _ => none
  | _ => none
def butKey (k : Nat) (rd : Nat → Option Blk) : Nat → Option Blk := fun j => cond (Nat.beq j k) none (rd j)
/-- f: of the whole, the part's beginning and length, and the other arguments: the answer, and the whole -/
def lentW {α : Type} (k : IntKind) (e : TypeId) (A : ACod α) (pre : List Int → Nat → Nat → α → Bool) (r : List Int → Nat → Nat → α → AV) (g : List Int → Nat → Nat → α → List Int) : WSumm where
  pre args rd := match args with
    | .one false [s] :: rest => match lentOf rd s with
      | some (key, _, .int _ xs, lo, len) => match A.dec (butKey key rd) rest with
        | some x => pre xs lo len x
        | none => false
      | _ => false
    | _ => false
  fn args rd := match args with
    | .one false [s] :: rest => match lentOf rd s with
      | some (key, e', .int k' xs, lo, len) => match A.dec (butKey key rd) rest with
        | some x => cond (decide (k' = k) && Nat.beq e' e) (some (r xs lo len x, [(key, some (.grow e (.int k (g xs lo len x))))])) none
        | none => none
      | _ => none
    | _ => none
/-- the promise of such a function's call -/
def LentR (k : IntKind) (e : TypeId) (v0 : Value) (r : AV) (ys : List Int) (w : World) : Ending → World → Prop := fun ed w' => ed = .returned r.toV ∧ r.plain = true ∧ w'.ownsRow 0 e 1 v0 ys.length (VL.int k ys).vals ∧ BelowX (fun n => v0.ownBlock = some n) w.heap.size w w'
def LentA (v0 : Value) (lo len : Nat) (args : List AV) (w : World) (vs : Array Value) : Prop := ∀ C, AllR (AV.rel C (EB (fun n => v0.ownBlock = some n) v0) w) (.one false [.sub 0 1 lo len] :: args) vs.toList
theorem contractB (hm : P.follows .mixedOrders = true) {T : Tab} (hT : AllGood P T) {f : FuncId} {fn : Func} (hf : P.funcs[f]? = some fn) {L : Loops} {u : Nat} (hL : ∀ v0 B w0 c, fn.body = some c → LoopsOK P (mkB T v0) B w0 L (loopsIn c))
    {args : List AV} {e : TypeId} {k : IntKind} {xs : List Int} {lo len : Nat} {ρ : Type} {enc : ρ → AV} {t : Tr (ρ × List Int)} (hs : t.safe = true) (h : ∀ v0 Q, evFB P (mkB T v0) L u fn (.one false [.sub 0 1 lo len] :: args) e (.int k xs) Q = t.prop fun x => Q (enc x.1) (.int k x.2))
    (w : World) (v0 : Value) (ho : w.ownsRow 0 e 1 v0 xs.length (VL.int k xs).vals) (vs : Array Value) (hp : LentA v0 lo len args w vs) : Calls P f vs w (LentR k e v0 (enc t.val.1) t.val.2 w) := by
  refine (calls_of_evFB hm (mkB_ok hT v0) rfl rfl rfl hf (fun c hc => hL v0 _ _ c hc) (hp _) (xs := .int k xs) rfl ho (Q := fun r ys => r = enc t.val.1 ∧ ys = .int k t.val.2) (by rw [h]; exact Tr.prop_val hs ⟨rfl, rfl⟩)).mono ?_
  rintro ed w' ⟨r, ys, ⟨rfl, rfl⟩, h1, h2, h3, h4⟩
  exact ⟨h1, h2, h3.2, h4⟩
/-- the whole of a lent list is another one now -/
theorem Rel.regrow {E s a w w'} (h : Rel C B w0 E s a w) {k : Nat} {e e' : TypeId} {xs ys : VL} {v : Value} (hk : s.heap[k]? = some (some (some (.grow e' xs)))) (hv : E.σ k = some v) (hf : ys.flat = true) (ho : w'.ownsRow 0 e ys.wd v ys.len ys.vals) (hb : BelowX (fun n => v.ownBlock = some n) w.heap.size w w') :
    Rel C B w0 E { s with heap := s.heap.set k (some (some (.grow e ys))) } a w' := by
  obtain ⟨v', hv', hβ, hA, _⟩ := h.heap k _ hk
  rw [hv] at hv'; cases hv'
  have hgr : w.grownBy w' v.ownBlock := ⟨hb.os, hb.tape, hb.output, hb.size, fun n hn hne => hb.block n hn (fun e => hne e.symm)⟩
  have hblkk : ∀ n, E.blk k = some n ↔ v.ownBlock = some n := fun n => by simp [Env.blk, hβ, hv]
  have hext : ∀ x u, SV.rel C E w x u → SV.rel C E w' x u := fun x u hx => SV.rel_ext hx ⟨fun _ _ h => h, fun _ _ h => h, fun _ _ h => h, fun _ _ _ h => h, hgr.size, fun b o u hb' hc => by
    rw [cell_heap (hgr.block b (cell_lt hc) (fun e => hb' (hA b e.symm)))]; exact hc⟩
  have := h.lay (w' := w') (E' := E) (k := k) (b := .grow e ys) (x := undefA) (u := undef) none (list_get_lt hk) hext ?_ ⟨v, hv, hβ, hA, hf, ho⟩ (fun _ _ h => h) (fun m hm => ⟨(h.lo m hm).1, Nat.lt_of_lt_of_le (h.lo m hm).2 hgr.size⟩) ?_
    (h.below.grown hgr h.base (fun n hn => (h.lo n (hA n hn)).1)) (Nat.le_trans h.base hgr.size) (h.ok.to rfl rfl fun _ h => h) (undef_rel C E _)
  · exact this
  · intro k' b' hne hk' hbl
    have hne' : ∀ g, v.ownBlock = some g → E.blk k' ≠ some g := fun g hg e => hne (h.inj k' k _ _ g hk' hk e ((hblkk g).2 hg))
    cases b' with
    | cells e' l' =>
      obtain ⟨m, hm, hA', us, hu, hr', h1'⟩ := hbl
      exact ⟨m, hm, hA', us, by rw [hgr.block m (heap_get_lt hu) (fun e => hne' m e.symm (by simp [Env.blk, hm]))]; exact hu, hr'.mono fun _ _ _ => hext _ _, h1'⟩
    | grow e' zs =>
      obtain ⟨u, hu, hβ', hA', hfl', ho'⟩ := hbl
      refine ⟨u, hu, hβ', hA', hfl', ho'.kept hgr ?_⟩
      cases hub : u.ownBlock with
      | none => exact .inl rfl
      | some m => exact .inr fun e => hne' m e.symm (by simp [Env.blk, hβ', hu, hub])
  · intro k' b' m hne hk' hm
    exact ⟨hm, fun e => hne (h.inj k' k _ _ m hk' hk hm e)⟩
theorem good_lent {α : Type} {k : IntKind} {e : TypeId} {A : ACod α} {pre : List Int → Nat → Nat → α → Bool} {r : List Int → Nat → Nat → α → AV} {g : List Int → Nat → Nat → α → List Int} {f : FuncId} (hc : callable P f)
    (h : ∀ xs lo len x, pre xs lo len x = true → lo + len ≤ xs.length → ∀ w v0 vs, w.ownsRow 0 e 1 v0 xs.length (VL.int k xs).vals → LentA v0 lo len (A.enc false x) w vs → Calls P f vs w (LentR k e v0 (r xs lo len x) (g xs lo len x) w)) : GoodW P f (lentW k e A pre r g) := by
  refine ⟨hc, fun C B w0 E s a w al args vs z ch hpre hfn hch hR hargs => ?_⟩
  simp only [lentW] at hpre hfn
  split at hfn
  case h_2 => cases hfn
  rename_i s0 rest
  split at hfn
  case h_2 => cases hfn
  rename_i key e' k' xs lo len hlent
  split at hfn
  case h_2 => cases hfn
  rename_i x hx
  cases hcond : (decide (k' = k) && Nat.beq e' e) with
  | false => rw [hcond] at hfn; cases hfn
  | true =>
  rw [hcond] at hfn
  simp only [Bool.and_eq_true, decide_eq_true_eq] at hcond
  obtain ⟨hkk, hee⟩ := hcond
  have hee := Nat.eq_of_beq_eq_true hee
  subst hkk hee
  simp only [hlent, hx] at hpre
  cases hfn
  obtain ⟨u0, us', hus, hu0, hrest⟩ := hargs.uncons
  -- the lent list
  have hlent' : ∃ v0, s.rd al key = some (.grow e' (.int k' xs)) ∧ E.σ key = some v0 ∧ lo + len ≤ xs.length ∧ ∀ C (X : Nat → Prop), AV.rel C (EB X v0) w (.one false [.sub 0 1 lo len]) u0 := by
    unfold lentOf at hlent
    split at hlent
    · split at hlent
      · rename_i k0 _ e0 ys hk
        simp only [Option.some.injEq, Prod.mk.injEq] at hlent
        obtain ⟨rfl, rfl, rfl, rfl, rfl⟩ := hlent
        obtain ⟨v0, hv0, _, _, _, ho⟩ := rd_rel hR al _ _ hk
        have hu1 := hu0.1
        rw [hv0] at hu1; cases hu1
        refine ⟨_, hk, hv0, by simp [VL.len], fun C X => ?_⟩
        simp only [VL.len] at ho ⊢
        rcases own_form (xs := .int k' xs) ho with ⟨rfl, h0⟩ | ⟨m, cap, rfl, hc', _, _⟩
        · exact ⟨none, 0, none, 0, 0, rfl, by simp only [VL.len] at h0; omega, by simp only [VL.len] at h0 ⊢; rw [h0], by simp only [VL.len] at h0 ⊢; omega, fun _ => rfl, .inl h0⟩
        · exact ⟨_, cap, _, _, cap, rfl, by simp only [VL.len]; omega, rfl, hc', fun e => (by cases e), .inr ⟨m, rfl, by simp⟩⟩
      · cases hlent
    · split at hlent
      · rename_i k0 wd l0 n0 _ e0 ys hk
        split at hlent
        · rename_i hwd
          simp only [Option.some.injEq, Prod.mk.injEq] at hlent
          obtain ⟨rfl, rfl, rfl, rfl, rfl⟩ := hlent
          obtain ⟨v0, hv0, _, _, _, ho⟩ := rd_rel hR al _ _ hk
          obtain ⟨a0, cap, b0, l, c, g1, g2, g3⟩ := hu0
          have g1' := g1
          rw [hv0] at g1'; cases g1'
          have hwd1 : wd = 1 := hwd.symm
          subst hwd1
          have hl : l = (VL.int k' xs).len := by rcases own_form ho with ⟨h, h0⟩ | ⟨m, cap', h, _⟩ <;> cases h <;> simp [*]
          simp only [VL.len] at hl
          exact ⟨_, hk, hv0, by omega, fun C X => ⟨a0, cap, b0, l, c, rfl, g2, g3⟩⟩
        · cases hlent
      · cases hlent
    · cases hlent
  obtain ⟨v0, hkey, hσ, hle, hu0'⟩ := hlent'
  have hkk := rd_heap hkey
  obtain ⟨v1, hv1, hβ, hA, _, ho⟩ := hR.heap key _ hkk
  rw [hσ] at hv1; cases hv1
  have hblk : ∀ n, v0.ownBlock = some n → E.blk key = some n := fun n hn => by simp [Env.blk, hβ, hσ, hn]
  have hin : AllR (InG false (fun n => ¬ v0.ownBlock = some n) w) (A.enc false x) us' := by
    have hbut : ∀ j b, butKey key (s.rd al) j = some b → j ≠ key ∧ s.rd al j = some b := by
      intro j b hb
      unfold butKey at hb
      cases hj : Nat.beq j key with
      | true => rw [hj] at hb; cases hb
      | false => rw [hj] at hb; exact ⟨fun e => by subst e; simp at hj, hb⟩
    have := args_in (vs := us'.toArray) hx (C := C) (E := E) (w := w) (fun j b hb => rd_rel hR al _ _ (hbut j b hb).2) (by simpa using hrest) false (fun n => ¬ v0.ownBlock = some n)
      (fun n hn _ e => hn (hA n e)) (fun a _ j _ b n hb hn e => (hbut j b hb).1 (hR.inj j key _ _ n (rd_heap (hbut j b hb).2) hkk hn (hblk n e)))
    simpa using this
  have hla : LentA v0 lo len (A.enc false x) w vs := by
    intro C'
    rw [hus]
    exact AllR.cons (hu0' C' _) (hin.mono fun y v _ h => h C' _ fun n hn => ⟨hn, fun e => by cases e⟩)
  refine (h xs lo len x hpre hle w v0 vs ho hla).mono ?_
  rintro ed w' ⟨rfl, hpl, ho', hb'⟩
  exact ⟨_, E, rfl, hR.regrow hkk hσ (ys := .int k' (g xs lo len x)) rfl ho' hb', AV.rel_toV hpl⟩

def lp (fn : Func) (i : Nat) : Code := match fn.body with
  | some c => (loopsIn c).getD i .skip
  | none => .skip
theorem loops_one {L : Loops} {fn : Func} (h1 : (fn.body.map fun c => (loopsIn c).length) = some 1) (h : ∀ f, (rid (lp fn 0)).bind L = some f → ∀ s k, f s k → EW P C B w0 (.loop (lp fn 0)) s k) : ∀ c, fn.body = some c → LoopsOK P C B w0 L (loopsIn c) := by
  intro c hc d hd f hf s k hk
  have h2 : lp fn 0 = (loopsIn c).getD 0 .skip := by simp [lp, hc]
  have : lp fn 0 = d := by
    rw [hc] at h1
    simp only [Option.map_some, Option.some.injEq] at h1
    obtain ⟨x, hx⟩ := List.length_eq_one_iff.1 h1
    rw [h2]
    rw [hx] at hd ⊢
    simp at hd
    simp [hd]
  subst this
  exact h f hf s k hk
end Go.Ev
