/- One operation, a run of operations and a region by the evaluator are sound. Holds for every program of the model. -/
import Derived.Test.YtdkbeajkedffeaaGreatEa
import Derived.Laws.BytesString
namespace Go.Ev
open Go.RowKit
variable {P : Program} {C : Ctx} {B : Nat} {w0 : World} {E : Env} {s : St} {a : Act} {w w' : World}
theorem callFunc_enter {f : FuncId} (hc : callable P f) (args : Array Value) (w : World) : (callFunc f args).run P w = .ok (.enter f args) w := by
  obtain ⟨fn, hf, hn, hb⟩ := hc
  have hn' : ¬ fn.name = "runtime.NumGoroutine" := by simpa using hn
  have hb' : ¬ fn.body = none := by intro e; simp [e] at hb
  simp [callFunc, hf, hn', hb']
theorem rd_rel (h : Rel C B w0 E s a w) (al : Nat → Bool) : ∀ k b, s.rd al k = some b → BlkR C E w k b := by
  intro k b hk
  unfold St.rd at hk
  cases hal : al k with
  | false => simp [hal] at hk
  | true =>
    simp only [hal, cond_true] at hk
    refine h.heap k b ?_
    cases h1 : s.heap[k]? with
    | none => simp [h1] at hk
    | some x =>
      cases x with
      | none => simp [h1] at hk
      | some y =>
        cases y with
        | none => simp [h1] at hk
        | some z => simp [h1] at hk; subst hk; rfl
theorem loadVar_spec {t : TypeId} {l : List SV} {off o0 b : Nat} {x : AV} (hp : partS P t l off = some x) (hcell : ∀ j c, l[j]? = some c → ∃ v, w.cell? ⟨b, o0 + j, none⟩ = some v ∧ SV.rel C E w c v) :
    ∃ u, (loadVar t ⟨b, o0 + off, none⟩).run P w = .ok u w ∧ AV.rel C E w x u := by
  unfold partS at hp
  split at hp
  · rename_i n ha hn
    split at hp
    · rename_i hle
      cases hp
      have hex : ∀ j, j < n → ∃ v, w.cell? ((⟨b, o0 + off, none⟩ : Addr).add j) = some v ∧ ∀ c, (cut l off n)[j]? = some c → SV.rel C E w c v := by
        intro j hj
        have hlj : off + j < l.length := by omega
        obtain ⟨v, hv, hr⟩ := hcell (off + j) l[off + j] (by simp [hlj])
        refine ⟨v, by rw [Addr.add_lit, Nat.add_assoc]; exact hv, fun c hc => ?_⟩
        simp only [cut, List.getElem?_take, List.getElem?_drop, if_pos hj] at hc
        rw [List.getElem?_eq_getElem hlj] at hc
        cases hc
        exact hr
      let f : Nat → Value := fun j => if hj : j < n then (hex j hj).choose else undef
      have hf : ∀ j, j < n → w.cell? ((⟨b, o0 + off, none⟩ : Addr).add j) = some (f j) := by
        intro j hj
        simp only [f, dif_pos hj]
        exact (hex j hj).choose_spec.1
      refine ⟨.agg ((List.range n).map f).toArray, ?_, ⟨_, rfl, ?_⟩⟩
      · simp only [loadVar, Sem.run_bind, aggT_spec ha, Result.andThen_ok, if_true, szT_spec hn, run_loadCells (P := P) w _ n f hf]
        rfl
      · refine ⟨by simp [cut]; omega, fun i c v hc hv => ?_⟩
        simp only [List.getElem?_map, Option.map_eq_some_iff] at hv
        obtain ⟨j, hj, rfl⟩ := hv
        have hjn : i < n ∧ j = i := by
          obtain ⟨h1, h2⟩ := List.getElem?_eq_some_iff.1 hj
          simp at h1 h2
          exact ⟨h1, h2.symm⟩
        obtain ⟨hi, rfl⟩ := hjn
        simp only [f, dif_pos hi]
        exact (hex j hi).choose_spec.2 c hc
    · cases hp
  · rename_i n ha hn
    split at hp
    · rename_i c hc
      cases hp
      obtain ⟨v, hv, hr⟩ := hcell off c hc
      exact ⟨v, by simp [loadVar, aggT_spec ha, hv], hr⟩
    · cases hp
  · cases hp
theorem lit_plain {c : SV} : ∀ (n : Nat) (l : List Value), c ∈ litCells n l → (∃ b, c = .bool b) ∨ ∃ k x, c = .int k x
  | 0, _, h => by cases h
  | n + 1, [], h => by
    simp only [litCells, List.mem_cons] at h
    rcases h with rfl | h
    · exact .inl ⟨_, rfl⟩
    · exact lit_plain n [] h
  | n + 1, v :: r, h => by
    cases v <;> simp only [litCells, List.mem_cons] at h <;> rcases h with rfl | h <;> first
      | exact .inl ⟨_, rfl⟩
      | exact .inr ⟨_, _, rfl⟩
      | exact lit_plain n r h
theorem VecIn.toG {G : Nat → Prop} {fr : Bool} {xs : VL} {v : Value} (h : VecIn G w xs v) : VecG G w fr xs v := by
  obtain ⟨hf, a, cap, rfl, hc, hn, hr⟩ := h
  refine ⟨a, cap, rfl, hc, hn, hr.imp id ?_⟩
  rintro ⟨b, off, h1, h2, h3, h4⟩
  refine ⟨b, off, h1, h2, h3, fun i hi => at_flag (fr := false) fun j c hj => ⟨_, h4 i hi j c hj, ?_⟩⟩
  have hm := List.mem_of_getElem? hj
  cases xs with
  | int k l => simp only [VL.at, List.mem_singleton] at hm; subst hm; rfl
  | bool l => simp only [VL.at, List.mem_singleton] at hm; subst hm; rfl
  | lit wd l =>
    simp only [VL.at] at hm
    rcases lit_plain _ _ hm with ⟨b, rfl⟩ | ⟨k, x, rfl⟩ <;> rfl
  | row ks l => cases hf
theorem exact_rel {xs : VL} {fr : Bool} {i : Nat} {c : SV} (hc : c ∈ xs.at fr i) {u : Value} (hu : CellIn (E.G fr) w c u) : SV.rel C E w c u := by
  have row : ∀ (ks : List Ct) (l : List Cv), c ∈ rowCells fr ks l → SV.rel C E w c u := by
    intro ks
    induction ks with
    | nil => intro l h; simp [rowCells] at h
    | cons k ks ih =>
      intro l h
      cases k with
      | ints k =>
        simp only [rowCells, List.mem_cons] at h
        rcases h with rfl | h
        · exact VecIn.toG hu
        · exact ih _ h
      | int k => simp only [rowCells, List.mem_cons] at h; rcases h with rfl | h; exact hu; exact ih _ h
      | bool => simp only [rowCells, List.mem_cons] at h; rcases h with rfl | h; exact hu; exact ih _ h
  cases xs with
  | int k l => simp only [VL.at, List.mem_singleton] at hc; subst hc; exact hu
  | bool l => simp only [VL.at, List.mem_singleton] at hc; subst hc; exact hu
  | lit wd l =>
    simp only [VL.at] at hc
    rcases lit_plain _ _ hc with ⟨b, rfl⟩ | ⟨k, x, rfl⟩ <;> exact hu
  | row ks l => exact row _ _ hc
theorem rep_get {α : Type} (z : List α) (hz : 0 < z.length) : ∀ k i, (rep z k)[i]? = if i < k * z.length then z[i % z.length]? else none
  | 0, i => by simp [rep]
  | k + 1, i => by
    simp only [rep, List.getElem?_append]
    rw [rep_get z hz k]
    by_cases h : i < z.length
    · have : i < (k + 1) * z.length := by rw [Nat.add_mul]; omega
      simp [h, this, Nat.mod_eq_of_lt h]
    · rw [if_neg h]
      have e : (i - z.length) % z.length = i % z.length := by
        conv => rhs; rw [show i = (i - z.length) + z.length by omega]
        simp
      rw [e, Nat.add_mul]
      by_cases h2 : i - z.length < k * z.length
      · rw [if_pos h2, if_pos (by omega)]
      · rw [if_neg h2, if_neg (by omega)]
theorem range_rep (z : Array Value) (hz : 0 < z.size) (len : Nat) : ((Array.range (len * z.size)).map (z[· % z.size]!)).toList = rep z.toList len := by
  apply List.ext_getElem?
  intro i
  rw [rep_get _ (by simpa using hz)]
  simp only [Array.toList_map, Array.toList_range, List.getElem?_map]
  by_cases h : i < len * z.size
  · have h3 : i % z.size < z.size := Nat.mod_lt _ hz
    have h4 : i < len * z.toList.length := by simpa using h
    rw [if_pos h4]
    simp [h, h3]
  · have h4 : ¬ i < len * z.toList.length := by simpa using h
    rw [if_neg h4]
    simp
    omega
theorem rep_rel {R : SV → Value → Prop} {z : List SV} {v : List Value} (h : AllR R z v) : ∀ k, AllR R (rep z k) (rep v k)
  | 0 => AllR.nil
  | k + 1 => h.app (rep_rel h k)
theorem rep_mem {α : Type} {z : List α} {x : α} : ∀ {k}, x ∈ rep z k → x ∈ z
  | 0, h => by cases h
  | k + 1, h => by
    simp only [rep, List.mem_append] at h
    rcases h with h | h
    · exact h
    · exact rep_mem h
theorem buildSliceS_spec {t : TypeId} {len : Nat} {ps : List (Nat × AV)} {qs : Array (Nat × Value)} {e l} (h : buildSliceS P t len ps = some (e, l)) (hp : AllR (PartR C E w) ps qs.toList) :
    ∃ cs : Array Value, (Instr.buildSlice t len qs).run P w = .ok (.slice (some ⟨w.heap.size, 0, none⟩) len len) (w.alloc (.cells cs e)) ∧ AllR (SV.rel C E w) l cs.toList ∧ ∀ v ∈ cs.toList, oneCell v = true := by
  unfold buildSliceS at h
  split at h
  · rename_i e' ht
    split at h
    · rename_i n z hn hz
      split at h
      · rename_i hcond
        obtain ⟨hn0, hle, hzl⟩ := hcond
        simp only [Option.map_eq_some_iff, Prod.mk.injEq] at h
        obtain ⟨l', hl, rfl, rfl⟩ := h
        obtain ⟨zv, hzv, hzr, hz1⟩ := zeroS_spec (C := C) (E := E) (w := w) hz (zeroOK _ _ hz) w
        have hzs : zv.cells.size = n := by have := hzr.1; simp at this; omega
        have hz0 : 0 < zv.cells.size := by omega
        obtain ⟨cs, hcs, hcr, hc1⟩ := fillS_spec (cs := (Array.range (len * zv.cells.size)).map (zv.cells[· % zv.cells.size]!)) hl hp (by rw [range_rep _ hz0]; exact rep_rel hzr len)
          (by rw [range_rep _ hz0]; exact fun v hv => hz1 v (rep_mem hv))
        refine ⟨cs, ?_, hcr, hc1⟩
        rw [hzs] at hcs
        have h0 : ¬ len * n > 2 ^ 24 := by omega
        simp only [Instr.buildSlice, Sem.run_bind, run_underlying ht, Result.andThen_ok, szT_spec hn, if_neg h0]
        by_cases hl0 : len * n = 0
        · have hlen : len = 0 := by rcases Nat.mul_eq_zero.1 hl0 with h | h; exact h; omega
          subst hlen
          simp only [Nat.zero_mul, if_true] at hcs ⊢
          simp only [Array.range_zero', List.map_toArray, List.map_nil] at hcs ⊢
          rw [hcs]
          simp [newRow]
        · rw [if_neg hl0]
          simp only [Sem.run_bind, hzv, Result.andThen_ok, Sem.run_pure, hzs, hcs]
          simp [newRow]
      · cases h
    · cases h
  · cases h
theorem VL.at_plain {xs : VL} (hf : xs.flat = true) {fr : Bool} {i : Nat} {c : SV} (hc : c ∈ xs.at fr i) : SV.plain c = true ∧ oneCell c.exact = true := by
  cases xs with
  | int k l => simp only [VL.at, List.mem_singleton] at hc; subst hc; exact ⟨rfl, rfl⟩
  | bool l => simp only [VL.at, List.mem_singleton] at hc; subst hc; exact ⟨rfl, rfl⟩
  | lit wd l =>
    simp only [VL.at] at hc
    rcases lit_plain _ _ hc with ⟨b, rfl⟩ | ⟨k, x, rfl⟩ <;> exact ⟨rfl, rfl⟩
  | row ks l => cases hf
theorem plain_cell {G : Nat → Prop} {c : SV} (hp : SV.plain c = true) : CellIn G w c c.exact := by
  cases c <;> simp only [SV.plain, Bool.false_eq_true] at hp <;> rfl
theorem cell_exact {G : Nat → Prop} {c : SV} {u : Value} (hp : SV.plain c = true) (h : CellIn G w c u) : u = c.exact := by
  cases c <;> simp only [SV.plain, Bool.false_eq_true] at hp <;> exact h
theorem RdX.at {G : Nat → Prop} {xs : VL} (hf : xs.flat = true) {b off i : Nat} {fr : Bool} (h : RdX w b off (xs.at false i)) : RdAt G w b off (xs.at fr i) :=
  at_flag (fr := false) fun j c hj => ⟨_, h j c hj, plain_cell (VL.at_plain hf (List.mem_of_getElem? hj)).1⟩
theorem RdAt.x {G : Nat → Prop} {xs : VL} (hf : xs.flat = true) {b off i : Nat} {fr : Bool} (h : RdAt G w b off (xs.at fr i)) : RdX w b off (xs.at false i) := fun j c hj => by
  obtain ⟨u, h1, h2⟩ := at_flag (fr' := false) h j c hj
  rw [h1, cell_exact (VL.at_plain hf (List.mem_of_getElem? hj)).1 h2]
theorem flat_get {α : Type} {n : Nat} {f : Nat → List α} (h : ∀ i, (f i).length = n) : ∀ (k i j : Nat), i < k → j < n → (((List.range k).map f).flatten)[i * n + j]? = (f i)[j]? := by
  intro k
  induction k with
  | zero => intro i j hi; omega
  | succ k ih =>
    intro i j hi hj
    rw [List.range_succ, List.map_append, List.flatten_append]
    have hlen : ((List.range k).map f).flatten.length = k * n := by
      clear ih hi
      induction k with
      | zero => simp
      | succ k ih => rw [List.range_succ, List.map_append, List.flatten_append, List.length_append, ih]; simp [h, Nat.add_mul]
    by_cases hik : i < k
    · have : i * n + j < k * n := by
        have : (i + 1) * n ≤ k * n := Nat.mul_le_mul_right _ hik
        rw [Nat.add_mul] at this; omega
      rw [List.getElem?_append_left (by rw [hlen]; exact this)]
      exact ih i j hik hj
    · have : i = k := by omega
      subst this
      rw [List.getElem?_append_right (by rw [hlen]; omega), hlen]
      simp
theorem VL.vals_get {xs : VL} {i j : Nat} (hi : i < xs.len) (hj : j < xs.wd) : xs.vals[i * xs.wd + j]? = ((xs.at false i)[j]?).map SV.exact := by
  unfold VL.vals
  rw [flat_get (n := xs.wd) (fun i => by simp [VL.at_length]) xs.len i j hi hj]
  simp
theorem VL.vals_len (xs : VL) : xs.vals.length = xs.len * xs.wd := by
  unfold VL.vals
  generalize xs.len = k
  induction k with
  | zero => simp
  | succ k ih => rw [List.range_succ, List.map_append, List.flatten_append, List.length_append, ih]; simp [VL.at_length, Nat.add_mul]
theorem VL.vals_one {xs : VL} (hf : xs.flat = true) : ∀ u ∈ xs.vals, oneCell u = true := by
  intro u hu
  unfold VL.vals at hu
  simp only [List.mem_flatten, List.mem_map] at hu
  obtain ⟨l, ⟨i, _, rfl⟩, hu⟩ := hu
  simp only [List.mem_map] at hu
  obtain ⟨c, hc, rfl⟩ := hu
  exact (VL.at_plain hf hc).2
theorem int_vals (k : IntKind) (l : List Int) : (VL.int k l).vals = l.map (Value.int k) := by
  have hlen : (VL.int k l).vals.length = l.length := by rw [VL.vals_len]; simp [VL.len, VL.wd]
  apply List.ext_getElem?
  intro j
  by_cases hj : j < l.length
  · have := VL.vals_get (xs := .int k l) (i := j) (j := 0) hj (by simp [VL.wd])
    simp only [VL.wd, Nat.mul_one, Nat.add_zero] at this
    rw [this]
    simp [VL.at, SV.exact, hj, List.getD]
  · rw [List.getElem?_eq_none (by omega), List.getElem?_eq_none (by simp; omega)]
theorem bool_vals (l : List Bool) : (VL.bool l).vals = l.map Value.bool := by
  have hlen : (VL.bool l).vals.length = l.length := by rw [VL.vals_len]; simp [VL.len, VL.wd]
  apply List.ext_getElem?
  intro j
  by_cases hj : j < l.length
  · have := VL.vals_get (xs := .bool l) (i := j) (j := 0) hj (by simp [VL.wd])
    simp only [VL.wd, Nat.mul_one, Nat.add_zero] at this
    rw [this]
    simp [VL.at, SV.exact, hj, List.getD]
  · rw [List.getElem?_eq_none (by omega), List.getElem?_eq_none (by simp; omega)]
theorem app_vals {xs ys zs : VL} (h : xs.app ys = some zs) : zs.vals = xs.vals ++ ys.vals ∧ zs.len = xs.len + ys.len ∧ zs.wd = xs.wd ∧ ys.wd = xs.wd ∧ zs.flat = true ∧ ys.flat = true := by
  unfold VL.app at h
  split at h
  · split at h
    · rename_i hk; subst hk; cases h; simp [int_vals, VL.len, VL.wd, VL.flat]
    · cases h
  · cases h; simp [bool_vals, VL.len, VL.wd, VL.flat]
  · cases h
theorem setAt_vals {xs ys : VL} {i : Nat} {c : SV} (h : xs.setAt i c = some ys) : ys.vals = xs.vals.set i c.exact ∧ ys.len = xs.len ∧ ys.wd = xs.wd ∧ xs.wd = 1 ∧ SV.plain c = true ∧ SV.okc c = true ∧ ys.flat = true := by
  unfold VL.setAt at h
  split at h
  · split at h
    · rename_i hk; subst hk; cases h; simp [int_vals, VL.len, VL.wd, SV.exact, List.map_set, SV.plain, SV.okc, VL.flat]
    · cases h
  · cases h; simp [bool_vals, VL.len, VL.wd, SV.exact, List.map_set, SV.plain, SV.okc, VL.flat]
  · cases h
theorem own_rd {lo : Nat} {e : TypeId} {xs : VL} {n cap : Nat} (h : w.ownsRow lo e xs.wd (.slice (some ⟨n, 0, none⟩) xs.len cap) xs.len xs.vals) {i : Nat} (hi : i < xs.len) : RdX w n (i * xs.wd) (xs.at false i) := by
  intro j c hj
  have hjl : j < xs.wd := by rw [← VL.at_length false xs i]; exact list_get_lt hj
  have hb : i * xs.wd + j < xs.len * xs.wd := by
    have : (i + 1) * xs.wd ≤ xs.len * xs.wd := Nat.mul_le_mul_right _ hi
    rw [Nat.add_mul] at this; omega
  rw [h.cellAt _ hb, VL.vals_get hi hjl, hj]
  rfl
def ListAt (w : World) (xs : VL) (v : Value) : Prop := VecG (fun _ => True) w false xs v
theorem own_form {lo : Nat} {e : TypeId} {xs : VL} {v : Value} (h : w.ownsRow lo e xs.wd v xs.len xs.vals) :
    (v = .slice none 0 0 ∧ xs.len = 0) ∨ ∃ n cap, v = .slice (some ⟨n, 0, none⟩) xs.len cap ∧ xs.len ≤ cap ∧ n < w.heap.size ∧ lo ≤ n := by
  rcases h.2 with h | ⟨g, cap, cur, hv, hl, hg, hn, _⟩
  · exact .inl h
  · exact .inr ⟨g, cap, hv, hn, heap_get_lt hg, hl⟩
theorem own_G {G : Nat → Prop} {fr : Bool} {lo : Nat} {e : TypeId} {xs : VL} {v : Value} (hf : xs.flat = true) (h : w.ownsRow lo e xs.wd v xs.len xs.vals) (hG : ∀ n, v.ownBlock = some n → G n) : VecG G w fr xs v := by
  rcases own_form h with ⟨rfl, h0⟩ | ⟨n, cap, rfl, hc, hn, _⟩
  · exact ⟨none, 0, by rw [h0], by omega, fun _ => rfl, .inl h0⟩
  · exact ⟨_, cap, rfl, hc, fun e => (by cases e), .inr ⟨n, 0, rfl, hG n rfl, hn, fun i hi => by rw [Nat.zero_add]; exact (own_rd h hi).at hf⟩⟩
theorem cut_len (xs : VL) (lo n : Nat) (h : lo + n ≤ xs.len) : (xs.cut lo n).len = n := by
  cases xs <;> simp [VL.cut, VL.len] at * <;> omega
theorem cut_wd (xs : VL) (lo n : Nat) : (xs.cut lo n).wd = xs.wd := by cases xs <;> rfl
theorem cut_at (fr : Bool) (xs : VL) (lo n i : Nat) (h : i < n) : (xs.cut lo n).at fr i = xs.at fr (lo + i) := by
  cases xs <;> simp [VL.cut, VL.at, List.getD, h]
theorem sub_G {G : Nat → Prop} {fr : Bool} {e : TypeId} {ys : VL} {u v : Value} {k wd lo n : Nat} (hf : ys.flat = true) (hu : E.σ k = some u) (ho : w.ownsRow 0 e ys.wd u ys.len ys.vals) (hwd : ys.wd = wd) (hs : SV.rel C E w (.sub k wd lo n) v) (hG : ∀ m, u.ownBlock = some m → G m) : VecG G w fr (ys.cut lo n) v := by
  obtain ⟨a, cap, b, l, c, h1, h2, rfl, h4, h5, h6⟩ := hs
  rw [hu] at h1; cases h1
  have hl : l = ys.len := by rcases own_form ho with ⟨h, h0⟩ | ⟨m, cap', h, _⟩ <;> cases h <;> simp [*]
  subst hl
  have hlen := cut_len ys lo n h2
  refine ⟨a, cap, by rw [hlen], by omega, h5, ?_⟩
  rcases Nat.eq_zero_or_pos n with hz | hpos
  · left; omega
  · right
    rcases h6 with h6 | ⟨m, rfl, rfl⟩
    · omega
    · rcases own_form ho with ⟨h, h0⟩ | ⟨m', cap', h, hc', hm, _⟩
      · cases h
      · cases h
        refine ⟨m, lo * wd, rfl, hG m rfl, hm, fun i hi => ?_⟩
        rw [hlen] at hi
        rw [cut_wd, cut_at fr ys lo n i hi]
        have := own_rd ho (i := lo + i) (by omega)
        rw [hwd] at this
        rw [hwd, ← Nat.add_mul]
        exact this.at hf
theorem asVL_G {G : Nat → Prop} {fr : Bool} {rd : Nat → Option Blk} (hrd : ∀ k b, rd k = some b → BlkR C E w k b) {s : SV} {xs : VL} {v : Value} (h : asVL rd s = some xs) (hs : SV.rel C E w s v)
    (hG : ∀ fr', (∀ xs, s = .vec fr' xs → ∀ n, E.G fr' n → G n)) (hO : ∀ k b n, rd k = some b → E.blk k = some n → G n) : VecG G w fr xs v := by
  unfold asVL at h
  split at h
  · rename_i fr' ys
    cases h
    exact (VecG.mono hs (fun b _ hb => hG fr' _ rfl b hb) (Nat.le_refl _) (fun _ _ _ _ h => h)).flag
  · split at h
    · rename_i k _ e ys hk
      cases h
      obtain ⟨u, hu, hβ, _, hf, ho⟩ := hrd _ _ hk
      have := hs.1
      rw [hu] at this; cases this
      exact own_G hf ho fun n hn => hO k _ n hk (by simp [Env.blk, hβ, hu, hn])
    · cases h
  · split at h
    · rename_i k wd lo n _ e ys hk
      split at h
      case isFalse => cases h
      rename_i hwd
      cases h
      obtain ⟨u, hu, hβ, _, hf, ho⟩ := hrd _ _ hk
      exact sub_G hf hu ho hwd hs fun n hn => hO k _ n hk (by simp [Env.blk, hβ, hu, hn])
    · cases h
  · cases h
theorem asVL_spec {rd : Nat → Option Blk} (hrd : ∀ k b, rd k = some b → BlkR C E w k b) {s : SV} {xs : VL} {v : Value} (h : asVL rd s = some xs) (hs : SV.rel C E w s v) : ListAt w xs v :=
  asVL_G hrd h hs (fun _ _ _ _ _ => trivial) (fun _ _ _ _ _ => trivial)
theorem ixS_spec {rd : Nat → Option Blk} (hrd : ∀ k b, rd k = some b → BlkR C E w k b) {t : TypeId} {x z : AV} {n : Int} {k : IntKind} {u : Value} (h : ixS P rd t x n = some z) (hb : ixB P rd t x n = true) (hu : AV.rel C E w x u) :
    ∃ p, (Instr.indexAt t u (.int k n)).run P w = .ok p w ∧ AV.rel C E w z p := by
  unfold ixS at h
  unfold ixB at hb
  split at h
  · rename_i e fr xs ht
    split at h
    · rename_i hsz
      cases h
      rw [ht] at hb
      simp only [Bool.and_eq_true, decide_eq_true_eq] at hb
      obtain ⟨a, cap, rfl, hc, _, hr⟩ := hu
      rcases hr with hr | ⟨b, off, rfl, hA, hlt, hrd'⟩
      · omega
      · have hb' : 0 ≤ n ∧ n < (xs.len : Int) := hb
        refine ⟨.pointer (some ⟨b, off + n.toNat * xs.wd, none⟩), ?_, ⟨b, off + n.toNat * xs.wd, rfl, hA, hlt, hrd' _ (by omega)⟩⟩
        simp [Instr.indexAt, run_underlying ht, asIntOf, hb', szT_spec hsz, Addr.add_lit]
    · cases h
  · rename_i e key off len cap ht
    split at h
    · rename_i sz hsz
      cases h
      rw [ht] at hb
      simp only [Bool.and_eq_true, decide_eq_true_eq] at hb
      have hb' : 0 ≤ n ∧ n < (len : Int) := hb
      obtain ⟨m, hm, rfl⟩ := hu
      refine ⟨.pointer (some ⟨m, off + n.toNat * sz, none⟩), ?_, ⟨m, hm, rfl⟩⟩
      simp [Instr.indexAt, run_underlying ht, asIntOf, hb', szT_spec hsz, Addr.add_lit]
    · cases h
  · rename_i len e key off ht
    split at h
    · rename_i sz hsz
      cases h
      rw [ht] at hb
      simp only [Bool.and_eq_true, decide_eq_true_eq] at hb
      have hb' : 0 ≤ n ∧ n < (len : Int) := hb
      obtain ⟨m, hm, rfl⟩ := hu
      refine ⟨.pointer (some ⟨m, off + n.toNat * sz, none⟩), ?_, ⟨m, hm, rfl⟩⟩
      simp [Instr.indexAt, run_underlying ht, asIntOf, hb', szT_spec hsz, Addr.add_lit, Instr.sureAddr]
    · cases h
  · rename_i e key ht
    split at h
    · rename_i _ e' xs hk
      split at h
      · rename_i hsz
        cases h
        rw [ht] at hb
        simp only [hk, Bool.and_eq_true, decide_eq_true_eq] at hb
        have hb' : 0 ≤ n ∧ n < (xs.len : Int) := hb
        obtain ⟨v, hv, _, _, _, ho⟩ := hrd _ _ hk
        have hu1 := hu.1
        rw [hv] at hu1; cases hu1
        rcases own_form ho with ⟨_, h0⟩ | ⟨m, cap, rfl, hc, _⟩
        · omega
        · refine ⟨.pointer (some ⟨m, n.toNat * xs.wd, none⟩), ?_, ⟨m, xs.len, cap, hv, by omega, rfl⟩⟩
          simp [Instr.indexAt, run_underlying ht, asIntOf, hb', szT_spec hsz, Addr.add_lit]
      · cases h
    · cases h
  · rename_i e key wd lo len ht
    split at h
    · rename_i hsz
      cases h
      rw [ht] at hb
      simp only [Bool.and_eq_true, decide_eq_true_eq] at hb
      have hb' : 0 ≤ n ∧ n < (len : Int) := hb
      obtain ⟨a, cap, b, l, c, h1, h2, rfl, h4, h5, h6⟩ := hu
      rcases h6 with h6 | ⟨m, rfl, rfl⟩
      · omega
      · refine ⟨.pointer (some ⟨m, (lo + n.toNat) * wd, none⟩), ?_, ⟨m, l, c, h1, by omega, rfl⟩⟩
        simp [Instr.indexAt, run_underlying ht, asIntOf, hb', szT_spec hsz, Addr.add_lit, Nat.add_mul]
    · cases h
  · cases h
theorem lenS_spec {rd : Nat → Option Blk} (hrd : ∀ k b, rd k = some b → BlkR C E w k b) {t : TypeId} {x z : AV} {u : Value} (h : lenS P rd t x = some z) (hu : AV.rel C E w x u) (ts : Array TypeId) (ht0 : ts[0]? = some t) (ty : TypeId) (us : Array Value) (hus : us[0]? = some u) :
    ∃ r, (Builtin.len_ ts ty us).run P w = .ok r w ∧ AV.rel C E w z r := by
  unfold lenS at h
  split at h
  · rename_i e fr xs ht
    cases h
    obtain ⟨a, cap, rfl, _⟩ := hu
    exact ⟨_, by simp only [Builtin.len_, ht0, hus]; simp [run_underlying ht]; rfl, rfl⟩
  · rename_i e k off len cap ht
    cases h
    obtain ⟨n, _, rfl⟩ := hu
    exact ⟨_, by simp only [Builtin.len_, ht0, hus]; simp [run_underlying ht]; rfl, rfl⟩
  · rename_i e n c ht
    cases h
    cases hu
    exact ⟨_, by simp only [Builtin.len_, ht0, hus]; simp [run_underlying ht]; rfl, rfl⟩
  · rename_i e key ht
    split at h
    · rename_i _ e' xs hk
      cases h
      obtain ⟨v, hv, _, _, _, ho⟩ := hrd _ _ hk
      have hu1 := hu.1
      rw [hv] at hu1; cases hu1
      rcases own_form ho with ⟨rfl, h0⟩ | ⟨m, cap, rfl, hc, _⟩
      · refine ⟨.int .i64 0, by simp only [Builtin.len_, ht0, hus]; simp [run_underlying ht, goInt], ?_⟩
        rw [h0]; rfl
      · exact ⟨_, by simp only [Builtin.len_, ht0, hus]; simp [run_underlying ht]; rfl, rfl⟩
    · cases h
  · rename_i e key wd lo n ht
    cases h
    obtain ⟨a, cap, b, l, c, h1, h2, rfl, _⟩ := hu
    exact ⟨_, by simp only [Builtin.len_, ht0, hus]; simp [run_underlying ht]; rfl, rfl⟩
  · rename_i l ht
    cases h
    cases hu
    exact ⟨goInt (ByteArray.mk l.toArray).size, by simp only [Builtin.len_, ht0, hus, Sem.run_bind, run_underlying ht, Result.andThen_ok]; rfl, rfl⟩
  · rename_i s ht
    cases h
    cases hu
    exact ⟨goInt s.size, by simp only [Builtin.len_, ht0, hus, Sem.run_bind, run_underlying ht, Result.andThen_ok]; rfl, rfl⟩
  · cases h
def bI (d : Int) (p : Option (IntKind × Int)) : Int := (p.map (·.2)).getD d
theorem slice_run {t e : TypeId} {sz : Nat} (ht : P.underlying t = some (.slice e)) (hsz : szT P e = some sz) {a : Option Addr} {len cap : Nat} {lo hi : Option (IntKind × Int)}
    (hc : len ≤ cap) (h0 : 0 ≤ bI 0 lo) (h1 : bI 0 lo ≤ bI (len : Int) hi) (h2 : bI (len : Int) hi ≤ (len : Int)) :
    (Instr.sliceAt t (.slice a len cap) (lo.map fun p => .int p.1 p.2) (hi.map fun p => .int p.1 p.2) none).run P w =
      .ok (.slice (if cap = (bI 0 lo).toNat then a else a.map (·.add ((bI 0 lo).toNat * sz))) ((bI (len : Int) hi).toNat - (bI 0 lo).toNat) (cap - (bI 0 lo).toNat)) w := by
  unfold bI at *
  cases lo with
  | none =>
    cases hi with
    | none => simp [Instr.sliceAt, Instr.slice, run_underlying ht, Instr.sliceBounds, szT_spec hsz]
    | some q =>
      simp at h1 h2
      have : 0 ≤ q.2 ∧ q.2 ≤ (cap : Int) := by omega
      simp [Instr.sliceAt, Instr.slice, run_underlying ht, Instr.sliceBounds, Instr.sliceBound, asIntOf, this, szT_spec hsz]
  | some p =>
    cases hi with
    | none =>
      simp at h0 h1
      have : 0 ≤ p.2 ∧ p.2 ≤ (len : Int) := by omega
      simp [Instr.sliceAt, Instr.slice, run_underlying ht, Instr.sliceBounds, Instr.sliceBound, asIntOf, this, szT_spec hsz]
    | some q =>
      simp at h0 h1 h2
      have : 0 ≤ q.2 ∧ q.2 ≤ (cap : Int) := by omega
      have h3 : 0 ≤ p.2 ∧ p.2 ≤ ((q.2.toNat : Nat) : Int) := by omega
      have h4 : (q.2.toNat : Int) = q.2 := by omega
      simp [Instr.sliceAt, Instr.slice, run_underlying ht, Instr.sliceBounds, Instr.sliceBound, asIntOf, this, h3, szT_spec hsz]
      omega
theorem boundS_spec (h : Rel C B w0 E s a w) {o : Option Operand} {n : Option Int} (hn : boundS s.ρ o = some n) : ∃ p : Option (IntKind × Int), o.map a.eval = p.map (fun p => Value.int p.1 p.2) ∧ p.map (·.2) = n := by
  unfold boundS at hn
  split at hn
  · cases hn; exact ⟨none, rfl, rfl⟩
  · split at hn
    · rename_i x k m hx
      cases hn
      exact ⟨some (k, m), by simp; exact h.eval hx, rfl⟩
    · cases hn
theorem cutS_spec {rd : Nat → Option Blk} (hrd : ∀ k b, rd k = some b → BlkR C E w k b) {t : TypeId} {x z : AV} {lo hi : Option (IntKind × Int)} {n : Nat} {u : Value} (h : cutS P rd t x (lo.map (·.2)) (hi.map (·.2)) = some z)
    (hn : cutLen P rd t x = some n) (hb : cutB n (lo.map (·.2)) (hi.map (·.2)) = true) (hu : AV.rel C E w x u) :
    ∃ p, (Instr.sliceAt t u (lo.map fun p => .int p.1 p.2) (hi.map fun p => .int p.1 p.2) none).run P w = .ok p w ∧ AV.rel C E w z p := by
  unfold cutB at hb
  simp only [Bool.and_eq_true, decide_eq_true_eq] at hb
  obtain ⟨h0, h1, h2⟩ := hb
  change 0 ≤ bI 0 lo at h0
  change bI 0 lo ≤ bI (n : Int) hi at h1
  change bI (n : Int) hi ≤ (n : Int) at h2
  unfold cutS at h
  unfold cutLen at hn
  split at h
  · rename_i e fr xs ht
    rw [ht] at hn
    cases hn
    split at h
    · rename_i hsz
      cases h
      obtain ⟨a, cap, rfl, hc, hnil, hr⟩ := hu
      have hlen := cut_len xs (bI 0 lo).toNat ((bI (xs.len : Int) hi).toNat - (bI 0 lo).toNat) (by omega)
      change ∃ p, _ ∧ AV.rel C E w (.one false [.vec fr (xs.cut (bI 0 lo).toNat ((bI (xs.len : Int) hi).toNat - (bI 0 lo).toNat))]) p
      refine ⟨_, slice_run ht hsz hc h0 h1 h2, ?_⟩
      refine ⟨_, _, by rw [hlen], by rw [hlen]; omega, ?_, ?_⟩
      · intro hnone
        split at hnone
        · omega
        · have : a = none := by cases a <;> simp at hnone ⊢
          have := hnil this; omega
      · rcases hr with hr | ⟨b, off, rfl, hA, hlt, hrd'⟩
        · left; rw [hlen]; omega
        · by_cases hz : (bI (xs.len : Int) hi).toNat - (bI 0 lo).toNat = 0
          · left; rw [hlen]; exact hz
          · right
            have hcl : ¬ cap = (bI 0 lo).toNat := by omega
            refine ⟨b, off + (bI 0 lo).toNat * xs.wd, by rw [if_neg hcl]; simp [Addr.add_lit], hA, hlt, fun i hi' => ?_⟩
            rw [hlen] at hi'
            rw [cut_wd, cut_at _ _ _ _ _ hi', Nat.add_assoc, ← Nat.add_mul]
            exact hrd' _ (by omega)
    · cases h
  · rename_i e k off len cap ht
    rw [ht] at hn
    simp only at hn
    split at hn
    · rename_i hlc
      cases hn
      split at h
      · rename_i sz hsz
        cases h
        obtain ⟨m, hm, rfl⟩ := hu
        change ∃ p, _ ∧ AV.rel C E w (.one false [.sl k (off + (bI 0 lo).toNat * sz) ((bI (n : Int) hi).toNat - (bI 0 lo).toNat) (cap - (bI 0 lo).toNat)]) p
        refine ⟨_, slice_run ht hsz (by omega) h0 h1 h2, m, hm, ?_⟩
        have hcl : ¬ cap = (bI 0 lo).toNat := by omega
        rw [if_neg hcl]
        simp [Addr.add_lit]
      · cases h
    · cases hn
  · rename_i e key ht
    rw [ht] at hn
    split at h
    · rename_i _ e' xs hk
      simp only [hk] at hn
      cases hn
      split at h
      · rename_i hsz
        cases h
        obtain ⟨v, hv, _, _, _, ho⟩ := hrd _ _ hk
        have hu1 := hu.1
        rw [hv] at hu1; cases hu1
        change ∃ p, _ ∧ AV.rel C E w (.one false [.sub key xs.wd (bI 0 lo).toNat ((bI (xs.len : Int) hi).toNat - (bI 0 lo).toNat)]) p
        rcases own_form ho with ⟨rfl, hz⟩ | ⟨m, cap, rfl, hc, _⟩
        · have hr := slice_run (P := P) (w := w) (a := none) (len := 0) (cap := 0) (lo := lo) (hi := hi) ht hsz (Nat.le_refl _) h0 (by rw [hz] at h1; exact h1) (by rw [hz] at h2; exact h2)
          refine ⟨_, hr, none, 0, none, 0, 0, hv, ?_, ?_, ?_, fun _ => rfl, ?_⟩
          · rw [hz] at h1 h2 ⊢; omega
          · rw [hz] at h1 h2 ⊢; simp
          · rw [hz] at h1 h2 ⊢; omega
          · left; rw [hz] at h1 h2 ⊢; omega
        · refine ⟨_, slice_run ht hsz hc h0 h1 h2, _, _, some ⟨m, 0, none⟩, xs.len, cap, hv, by omega, rfl, by omega, ?_, ?_⟩
          · intro hnone
            split at hnone
            · cases hnone
            · simp at hnone
          · by_cases hz : (bI (xs.len : Int) hi).toNat - (bI 0 lo).toNat = 0
            · left; exact hz
            · right
              have hcl : ¬ cap = (bI 0 lo).toNat := by omega
              exact ⟨m, rfl, by rw [if_neg hcl]; simp [Addr.add_lit]⟩
      · cases h
    · cases h
  · rename_i e key wd l0 len ht
    rw [ht] at hn
    cases hn
    split at h
    · rename_i hsz
      cases h
      obtain ⟨a, cap, b, l, c, g1, g2, rfl, g4, g5, g6⟩ := hu
      change ∃ p, _ ∧ AV.rel C E w (.one false [.sub key wd (l0 + (bI 0 lo).toNat) ((bI (n : Int) hi).toNat - (bI 0 lo).toNat)]) p
      refine ⟨_, slice_run ht hsz g4 h0 h1 h2, _, _, b, l, c, g1, by omega, rfl, by omega, ?_, ?_⟩
      · intro hnone
        split at hnone
        · omega
        · have : a = none := by cases a <;> simp at hnone ⊢
          have := g5 this; omega
      · by_cases hz : (bI (n : Int) hi).toNat - (bI 0 lo).toNat = 0
        · left; exact hz
        · right
          rcases g6 with g6 | ⟨m, rfl, rfl⟩
          · omega
          · have hcl : ¬ cap = (bI 0 lo).toNat := by omega
            exact ⟨m, rfl, by rw [if_neg hcl]; simp [Addr.add_lit, Nat.add_mul]⟩
    · cases h
  · cases h
theorem append_run (base : Nat) (t ty e : TypeId) (i : TypeInfo) (z : Value) (size bytes : Nat) (ht : P.underlying t = some (.slice e)) (hi : P.info? e = some i) (hz : i.zero = some z)
    (hsize : i.size = size) (hby : i.bytes = bytes) (hzs : z.cells.size = size) (hsz : 0 < size)
    (v : Value) (n : Nat) (xs : List Value) (hown : w.ownsRow base e size v n xs)
    (ao : Option Addr) (m c : Nat) (hnil : ao = none → c = 0 ∧ m = 0) (news : List Value) (hl : news.length = m * size) (hnews : ∀ a, ao = some a → ∀ j u, news[j]? = some u → w.cell? (a.add j) = some u) (h1 : ∀ u ∈ news, u.oneCell' = true)
    (hbytes : (n + m) * bytes ≤ 140737488355328) (h63 : n + m ≤ maxLen) (hbase : base ≤ w.heap.size) :
    ∃ v' w', (Builtin.append_ #[t, t] ty #[v, .slice ao m c]).run P w = .ok v' w' ∧ w'.ownsRow base e size v' (n + m) (xs ++ news) ∧ w.grownBy w' v.ownBlock ∧
      (∀ g, v'.ownBlock = some g → some g = v.ownBlock ∨ w.heap.size ≤ g) ∧ ∃ b n c, v' = .slice b n c := by
  cases ao with
  | none =>
    obtain ⟨rfl, rfl⟩ := hnil rfl
    have hn : news = [] := List.eq_nil_of_length_eq_zero (by simpa using hl)
    subst hn
    refine ⟨v, w, run_append_owned_none (P := P) w base t ty e i size ht hi v n xs hown, by simpa using hown, ⟨rfl, rfl, rfl, Nat.le_refl _, fun _ _ _ => rfl⟩, fun g hg => .inl hg.symm, ?_⟩
    rcases hown.2 with ⟨rfl, _⟩ | ⟨g, cap, cur, rfl, _⟩
    · exact ⟨_, _, _, rfl⟩
    · exact ⟨_, _, _, rfl⟩
  | some a =>
    obtain ⟨v', w', hr, h2, h3, h4⟩ := run_append_own (P := P) w base t ty e i z size bytes ht hi hz hsize hby hzs hsz v n xs hown a m c news hl (hnews a rfl) h1 h63 hbytes hbase
    refine ⟨v', w', hr, h2, h3, ?_⟩
    have hsmall : n + m ≤ 9223372036854775807 := by simp only [maxLen] at h63; omega
    subst hsize
    subst hby
    rcases hown.2 with ⟨rfl, rfl⟩ | ⟨g, cap, cur, rfl, hbg, hg, hnc, hcm, hcs, htake⟩
    · have hx : xs = [] := List.eq_nil_of_length_eq_zero (by simpa using hown.1)
      subst hx
      by_cases hm : m = 0
      · have : v' = .slice none 0 0 := h4.2 ⟨rfl, hm⟩
        subst this
        exact ⟨fun g hg => by simp [Value.ownBlock] at hg, _, _, _, rfl⟩
      · have hr' := run_append_nil (P := P) w t ty e i z ht hi hz a m c news hl (hnews a rfl) (by omega) (by omega) (by have hb := hbytes; simp only [Nat.zero_add] at hb; omega)
        rw [hr'] at hr
        cases hr
        exact ⟨fun g hg => by simp [Value.ownBlock] at hg; omega, _, _, _, rfl⟩
    · by_cases hroom : n + m ≤ cap
      · have hfit : n * i.size + news.length ≤ cur.size := by rw [hl, hcs, ← Nat.add_mul]; exact Nat.mul_le_mul_right _ hroom
        have hr' := run_append_room (P := P) w t ty e i ht hi g n cap cur hg a m c news hl (hnews a rfl) h1 hroom hfit
        rw [hr'] at hr
        cases hr
        exact ⟨fun g' hg' => by simp [Value.ownBlock] at hg' ⊢; omega, _, _, _, rfl⟩
      · have holds : ∀ j u, xs[j]? = some u → w.cell? ((⟨g, 0, none⟩ : Addr).add j) = some u := hown.cells (g := g) rfl
        have hr' := run_append_grow (P := P) w t ty e i z ht hi hz ⟨g, 0, none⟩ n cap xs hown.1 holds a m c news hl (hnews a rfl) (by omega) (by omega) (growslice_fits (by omega) hbytes)
        rw [hr'] at hr
        cases hr
        exact ⟨fun g' hg' => by simp [Value.ownBlock] at hg'; omega, _, _, _, rfl⟩
def nextFits (m bytes : Nat) : Prop := Builtin.nextslicecap m 0 * bytes ≤ 281474976710656
theorem nextFits_of {m bytes : Nat} (hm : 0 < m) (hb : m * bytes ≤ 140737488355328) : nextFits m bytes := growslice_fits hm hb
theorem append_emp {t ty e : TypeId} {i : TypeInfo} {z : Value} {size : Nat} {a0 ao : Option Addr} {m cap : Nat} {news : List Value} {zs : VL} (ht : P.underlying t = some (.slice e)) (hi : P.info? e = some i) (hz : i.zero = some z)
    (hsize : i.size = size) (hzs : z.cells.size = size) (hsz : 0 < size) (hnil : ao = none → cap = 0 ∧ m = 0) (hl : news.length = m * size) (hnews : ∀ a, ao = some a → ∀ j u, news[j]? = some u → w.cell? (a.add j) = some u) (h1 : ∀ u ∈ news, u.oneCell' = true)
    (hbytes : m * i.bytes ≤ 140737488355328) (h63 : m ≤ maxLen) (hf : zs.flat = true) (hlen : zs.len = m) (hwd : zs.wd = size) (hvals : zs.vals = news) :
    ∃ v' w', (Builtin.append_ #[t, t] ty #[.slice a0 0 0, .slice ao m cap]).run P w = .ok v' w' ∧ Below w.heap.size w w' ∧ ∀ G : Nat → Prop, (∀ n, w.heap.size ≤ n → G n) → VecG G w' true zs v' := by
  rcases Nat.eq_zero_or_pos m with hm | hm
  · subst hm
    have hn : news = [] := List.eq_nil_of_length_eq_zero (by simpa using hl)
    subst hn
    refine ⟨.slice a0 0 0, w, ?_, Below.refl _ _, fun G hG => ⟨a0, 0, by rw [hlen], by omega, fun _ => rfl, .inl hlen⟩⟩
    cases a0 <;> cases ao <;> simp [Builtin.append_, run_underlying ht, sizeOf, typeInfo, hi, Builtin.lenOf, Builtin.firstCells, loadCells, loadCellsFrom, storeCells]
  · cases ao with
    | none => have := (hnil rfl).2; omega
    | some a =>
      have key : ∃ v' w', (Builtin.append_ #[t, t] ty #[.slice a0 0 0, .slice (some a) m cap]).run P w = .ok v' w' ∧ w'.ownsRow w.heap.size e size v' m news ∧ w.grownBy w' none := by
        have hsame : (Builtin.append_ #[t, t] ty #[.slice a0 0 0, .slice (some a) m cap]).run P w = (Builtin.append_ #[t, t] ty #[.slice none 0 0, .slice (some a) m cap]).run P w := by
          cases a0 with
          | none => rfl
          | some b =>
            have h0 : nextFits m i.bytes := nextFits_of hm hbytes
            rw [run_append_grow (P := P) w t ty e i z ht hi hz b 0 0 [] (by simp) (by simp) a m cap news (by rw [hsize]; exact hl) (hnews a rfl) (by omega) (by simp only [maxLen] at h63; omega) (by simpa [nextFits] using h0),
              run_append_nil (P := P) w t ty e i z ht hi hz a m cap news (by rw [hsize]; exact hl) (hnews a rfl) (by omega) (by simp only [maxLen] at h63; omega) (by omega)]
            simp
        rw [hsame]
        obtain ⟨v', w', hr, ho, hg, _⟩ := run_append_own (P := P) w w.heap.size t ty e i z size i.bytes ht hi hz hsize rfl hzs hsz (.slice none 0 0) 0 [] (World.ownsRow_nil w _ _ _) a m cap news hl (hnews a rfl) h1 (by omega) (by simpa using hbytes) (Nat.le_refl _)
        exact ⟨v', w', hr, by simpa using ho, hg⟩
      obtain ⟨v', w', hr, ho, hg⟩ := key
      refine ⟨v', w', hr, ⟨hg.os, hg.tape, hg.output, hg.size, fun k hk => hg.block k hk (by simp)⟩, fun G hG => ?_⟩
      rw [← hlen, ← hwd, ← hvals] at ho
      exact own_G hf ho fun n hn => hG n (ho.lt n hn).1
theorem exact_of_plain {c : SV} {v : Value} (hp : SV.plain c = true) (h : SV.rel C E w c v) : v = c.exact := by
  cases c <;> simp only [SV.plain, Bool.false_eq_true] at hp <;> exact h
theorem ints?_spec {k : IntKind} : ∀ {l : List SV} {ns : List Int}, ints? k l = some ns → l = ns.map (SV.int k)
  | [], ns, h => by cases h; rfl
  | .int k' n :: r, ns, h => by
    simp only [ints?] at h
    split at h
    · rename_i hk; subst hk
      simp only [Option.map_eq_some_iff] at h
      obtain ⟨m, hm, rfl⟩ := h
      rw [ints?_spec hm]; rfl
    · cases h
theorem bools?_spec : ∀ {l : List SV} {ns : List Bool}, bools? l = some ns → l = ns.map SV.bool
  | [], ns, h => by cases h; rfl
  | .bool b :: r, ns, h => by
    simp only [bools?, Option.map_eq_some_iff] at h
    obtain ⟨m, hm, rfl⟩ := h
    rw [bools?_spec hm]; rfl
theorem cellsVL_spec {e : TypeId} {l : List SV} {xs : VL} (h : cellsVL P e l = some xs) : xs.vals = l.map SV.exact ∧ xs.len = l.length ∧ xs.wd = 1 ∧ l.all SV.plain = true := by
  unfold cellsVL at h
  split at h
  · simp only [Option.map_eq_some_iff] at h
    obtain ⟨ns, hns, rfl⟩ := h
    rw [ints?_spec hns]
    simp [int_vals, VL.len, VL.wd, SV.exact, SV.plain]
  · simp only [Option.map_eq_some_iff] at h
    obtain ⟨ns, hns, rfl⟩ := h
    rw [bools?_spec hns]
    simp [bool_vals, VL.len, VL.wd, SV.exact, SV.plain]
  · cases h
theorem exacts_of_plain {l : List SV} {vs : List Value} (hp : l.all SV.plain = true) (h : AllR (SV.rel C E w) l vs) : vs = l.map SV.exact := by
  apply List.ext_getElem?
  intro i
  cases hl : l[i]? with
  | none =>
    have h1 : l.length ≤ i := by simpa using hl
    rw [List.getElem?_eq_none (by rw [← h.1]; exact h1)]
    simp [hl]
  | some c =>
    obtain ⟨u, hu, hr⟩ := h.get hl
    rw [hu, exact_of_plain (List.all_eq_true.1 hp c (List.mem_of_getElem? hl)) hr]
    simp [hl]
theorem src_spec {rd : Nat → Option Blk} (hrd : ∀ k b, rd k = some b → BlkR C E w k b) {e : TypeId} {x : AV} {xs : VL} {v : Value} (hfl : xs.flat = true) (h : srcVL P rd e x = some xs) (hx : AV.rel C E w x v) :
    ∃ a cap, v = .slice a xs.len cap ∧ (a = none → cap = 0 ∧ xs.len = 0) ∧ ∀ ad, a = some ad → ∀ j u, xs.vals[j]? = some u → w.cell? (ad.add j) = some u := by
  have of_list : ListAt w xs v → ∃ a cap, v = .slice a xs.len cap ∧ (a = none → cap = 0 ∧ xs.len = 0) ∧ ∀ ad, a = some ad → ∀ j u, xs.vals[j]? = some u → w.cell? (ad.add j) = some u := by
    rintro ⟨a, cap, rfl, hc, hn, hr⟩
    refine ⟨a, cap, rfl, fun ha => ⟨hn ha, by have := hn ha; omega⟩, ?_⟩
    rintro ad rfl j u hj
    have hjl := list_get_lt hj
    rw [VL.vals_len] at hjl
    rcases hr with hr | ⟨b, off, hb, _, _, hrd'⟩
    · rw [hr] at hjl; omega
    · cases hb
      have hwd : 0 < xs.wd := by rcases Nat.eq_zero_or_pos xs.wd with h0 | h0; · rw [h0] at hjl; omega
                                 · exact h0
      have hdm : j = j / xs.wd * xs.wd + j % xs.wd := by rw [Nat.mul_comm]; exact (Nat.div_add_mod j xs.wd).symm
      have hi : j / xs.wd < xs.len := by rw [Nat.div_lt_iff_lt_mul hwd]; exact hjl
      have hm := Nat.mod_lt j hwd
      rw [hdm, VL.vals_get hi hm] at hj
      simp only [Option.map_eq_some_iff] at hj
      obtain ⟨c, hc, rfl⟩ := hj
      have := (hrd' _ hi).x hfl _ _ hc
      rw [Addr.add_lit]
      conv => lhs; rw [hdm]
      rw [← Nat.add_assoc]
      exact this
  unfold srcVL at h
  split at h
  · rename_i k off len cap
    split at h
    · rename_i _ e' l hk
      split at h
      · rename_i hle
        obtain ⟨hv, hlen, hwd, hpl⟩ := cellsVL_spec h
        obtain ⟨n, hn, _, vs, hvs, hvr, _⟩ := hrd _ _ hk
        obtain ⟨m, hm, rfl⟩ := hx
        rw [hn] at hm; cases hm
        have hcl : (cut l off len).length = len := by simp [cut]; omega
        refine ⟨_, cap, by rw [hlen, hcl], fun e => (by cases e), ?_⟩
        rintro ad hh j u hj
        cases hh
        have hcut := exacts_of_plain hpl ((hvr.drop off).take len)
        rw [hv, ← hcut, List.getElem?_take, List.getElem?_drop] at hj
        split at hj
        · rw [Addr.add_lit]
          simpa [World.cell?, hvs] using hj
        · cases hj
      · cases h
    · cases h
  · split at h
    · cases h; cases hx
      exact ⟨none, 0, rfl, fun _ => ⟨rfl, rfl⟩, fun ad h => by cases h⟩
    · cases h; cases hx
      exact ⟨none, 0, rfl, fun _ => ⟨rfl, rfl⟩, fun ad h => by cases h⟩
    · cases h
  · obtain ⟨a, rfl⟩ := hx
    split at h
    · cases h
      cases a with
      | none => exact ⟨none, 0, rfl, fun _ => ⟨rfl, rfl⟩, fun ad h => by cases h⟩
      | some a => exact ⟨some a, 0, rfl, fun e => (by cases e), fun ad _ j u hj => by simp [int_vals] at hj⟩
    · cases h
      cases a with
      | none => exact ⟨none, 0, rfl, fun _ => ⟨rfl, rfl⟩, fun ad h => by cases h⟩
      | some a => exact ⟨some a, 0, rfl, fun e => (by cases e), fun ad _ j u hj => by simp [bool_vals] at hj⟩
    · cases h
  · exact of_list (asVL_spec hrd h hx)
  · cases h
theorem infoT {e : TypeId} {n : Nat} (h : szT P e = some n) : ∃ i, P.info? e = some i ∧ i.size = n := by
  simp only [szT, Option.map_eq_some_iff] at h
  exact h
theorem zeroInfo {e : TypeId} {l : List SV} {i : TypeInfo} (hi : P.info? e = some i) (h : zeroS P e = some l) : ∃ z, i.zero = some z ∧ z.cells.size = l.length ∧ AllR (SV.rel C E w) l z.cells.toList := by
  obtain ⟨v, hv, hr, _⟩ := zeroS_spec (P := P) (C := C) (E := E) (w := w) h (zeroOK _ _ h) w
  unfold zeroS at h
  split at h
  · rename_i z hz
    simp only [Option.bind_eq_some_iff] at hz
    obtain ⟨i', hi', hz⟩ := hz
    rw [hi] at hi'; cases hi'
    have : v = z := by simpa [zeroValue, typeInfo, hi, hz] using hv.symm
    subst this
    exact ⟨v, hz, by have := hr.1; simp at this; omega, hr⟩
  · cases h
theorem rd_heap {al : Nat → Bool} {k : Nat} {b : Blk} (h : s.rd al k = some b) : s.heap[k]? = some (some (some b)) := by
  unfold St.rd at h
  cases hal : al k with
  | false => simp [hal] at h
  | true =>
    simp only [hal, cond_true] at h
    cases h1 : s.heap[k]? with
    | none => simp [h1] at h
    | some x =>
      cases x with
      | none => simp [h1] at h
      | some y =>
        cases y with
        | none => simp [h1] at h
        | some z => simp [h1] at h; subst h; rfl
theorem nought_spec (h : Rel C B w0 E s a w) {o : Option Operand} (hn : isNought (boundS s.ρ o) = true) : ∃ k, o.map a.eval = some (.int k 0) := by
  unfold isNought at hn
  split at hn
  · rename_i hb
    obtain ⟨p, hp, hq⟩ := boundS_spec h hb
    cases p with
    | none => cases hq
    | some p =>
      obtain ⟨k, n⟩ := p
      simp only [Option.map_some, Option.some.injEq] at hq
      subst hq
      exact ⟨k, hp⟩
  · cases hn
theorem src_slice {rd : Nat → Option Blk} (hrd : ∀ k b, rd k = some b → BlkR C E w k b) {e : TypeId} {x : AV} {xs : VL} {v : Value} (h : srcVL P rd e x = some xs) (hx : AV.rel C E w x v) : ∃ ao len cap, v = .slice ao len cap := by
  unfold srcVL at h
  split at h
  · obtain ⟨n, _, rfl⟩ := hx; exact ⟨_, _, _, rfl⟩
  · cases hx; exact ⟨_, _, _, rfl⟩
  · obtain ⟨a, rfl⟩ := hx; exact ⟨_, _, _, rfl⟩
  · obtain ⟨a, cap, rfl, _⟩ := asVL_spec hrd h hx
    exact ⟨_, _, _, rfl⟩
  · cases h
theorem run_bytesToString {ad : Addr} {cap : Nat} (l : List Int) (hc : ∀ (j : Nat) u, (l.map (Value.int .u8))[j]? = some u → w.cell? (ad.add j) = some u) :
    (Conv.bytesToString (.slice (some ad) l.length cap)).run P w = .ok (.string ⟨(l.map fun (n : Int) => UInt8.ofNat n.toNat).toArray⟩) w := by
  have hld := run_loadCells (P := P) w ad l.length (fun j => Value.int .u8 (l.getD j 0)) (fun j hj => by
    have := hc j (.int .u8 (l.getD j 0)) (by simp [hj])
    exact this)
  have he : ((List.range l.length).map fun j => Value.int .u8 (l.getD j 0)) = l.map (Value.int .u8) := by
    apply List.ext_getElem
    · simp
    · intro i h1 h2
      simp at h1
      simp [h1]
  rw [Go.run_bytesToString (P := P) w ad l.length cap l (by rw [hld, he])]
  have hfold : ∀ (l : List Int) (s : ByteArray), (l.foldl (fun r n => r.push (UInt8.ofNat n.toNat)) s).data.toList = s.data.toList ++ l.map fun (n : Int) => UInt8.ofNat n.toNat := by
    intro l
    induction l with
    | nil => intro s; simp
    | cons n l ih => intro s; simp [ih]
  congr 2
  apply Go.WideShapes.bytes_inj
  rw [hfold]
  simp
theorem effR_sound (h : Rel C B w0 E s a w) {o : Oper} {al : Nat → Bool} {v : AV} (hv : effR P C o s.ρ (s.rd al) = some v) (has : asr P C o s.ρ (s.rd al) = true) (hcall : ∀ x args ts, o.op ≠ .call ⟨.value x, args, ts⟩) :
    ∃ u, (execOp a.eval o).run P w = .ok (.value u) w ∧ AV.rel C E w v u := by
  obtain ⟨dst, op, type, pos, after, guard⟩ := o
  have hrd := rd_rel h al
  unfold effR at hv
  simp only at hv
  split at hv
  · rename_i t x
    split at hv
    · rename_i k off hx
      split at hv
      · rename_i _ e l hk
        obtain ⟨n, hn, _, vs, hvs, hvr, _⟩ := hrd _ _ hk
        obtain ⟨m, hm, hx'⟩ := h.eval hx
        rw [hn] at hm; cases hm
        obtain ⟨u, hu, hur⟩ := loadVar_spec (P := P) (C := C) (E := E) (w := w) (b := n) (o0 := 0) hv (fun j c hj => by
          obtain ⟨v, hv', hr⟩ := hvr.get hj
          exact ⟨v, by simpa [World.cell?, hvs] using hv', hr⟩)
        simp only [Nat.zero_add] at hu
        exact ⟨u, by simp only [execOp, Instr.loadAt, Instr.sureAddr, hx', Sem.run_bind, Sem.run_pure, Result.andThen_ok, hu], hur⟩
      · cases hv
    · rename_i fr xs i off hx
      obtain ⟨b, ob, hx', hb, hl, hr⟩ := h.eval hx
      obtain ⟨u, hu, hur⟩ := loadVar_spec (P := P) (C := C) (E := E) (w := w) (b := b) (o0 := ob) hv (fun j c hj => by
        obtain ⟨u, h1, h2⟩ := hr j c hj
        exact ⟨u, h1, exact_rel (List.mem_of_getElem? hj) h2⟩)
      exact ⟨u, by simp only [execOp, Instr.loadAt, Instr.sureAddr, hx', Sem.run_bind, Sem.run_pure, Result.andThen_ok, hu], hur⟩
    · rename_i xs hx
      obtain ⟨b, ob, u, hx', hb, hl, hu', hr⟩ := h.eval hx
      obtain ⟨u, hu, hur⟩ := loadVar_spec (P := P) (C := C) (E := E) (w := w) (b := b) (o0 := ob) hv (fun j c hj => by
        rcases j with _ | j
        · cases hj; exact ⟨u, hu', hr⟩
        · simp at hj)
      simp only [Nat.add_zero] at hu
      exact ⟨u, by simp only [execOp, Instr.loadAt, Instr.sureAddr, hx', Sem.run_bind, Sem.run_pure, Result.andThen_ok, hu], hur⟩
    · rename_i k wd i off hx
      split at hv
      · rename_i _ e xs hk
        split at hv
        · rename_i hwd
          subst hwd
          obtain ⟨z, hz, _, _, hfl, ho⟩ := hrd _ _ hk
          obtain ⟨n, l, c, h1, h2, hx'⟩ := h.eval hx
          rw [hz] at h1; cases h1
          rcases own_form ho with ⟨h3, _⟩ | ⟨m, cap, h3, _, _, _⟩
          · cases h3
          · cases h3
            have hr := own_rd ho h2
            obtain ⟨u, hu, hur⟩ := loadVar_spec (P := P) (C := C) (E := E) (w := w) (b := n) (o0 := i * xs.wd) hv (fun j c hj => ⟨_, hr j c hj, exact_rel (List.mem_of_getElem? hj) (plain_cell (VL.at_plain hfl (List.mem_of_getElem? hj)).1)⟩)
            exact ⟨u, by simp only [execOp, Instr.loadAt, Instr.sureAddr, hx', Sem.run_bind, Sem.run_pure, Result.andThen_ok, hu], hur⟩
        · cases hv
      · cases hv
    · cases hv
  · rename_i t x i
    split at hv
    · rename_i y k n hx hi
      have hi' : a.eval i = .int k n := h.eval hi
      have hb : ixB P (s.rd al) t y n = true := by simpa [asr, hx, hi] using has
      obtain ⟨p, hp, hpr⟩ := ixS_spec (k := k) hrd hv hb (h.eval hx)
      exact ⟨p, by simp [execOp, hi', hp], hpr⟩
    · cases hv
  · rename_i t x lo hi mx
    split at hv
    · split at hv
      · rename_i y l hh hx hlo hhi
        obtain ⟨p, hp, hpl⟩ := boundS_spec h hlo
        obtain ⟨q, hq, hql⟩ := boundS_spec h hhi
        subst hpl; subst hql
        have hb : ∃ n, cutLen P (s.rd al) t y = some n ∧ cutB n (p.map (·.2)) (q.map (·.2)) = true := by
          simp only [asr, hx, hlo, hhi] at has
          split at has
          · rename_i n hn; exact ⟨n, hn, has⟩
          · cases has
        obtain ⟨n, hn, hb⟩ := hb
        obtain ⟨r, hr, hrr⟩ := cutS_spec hrd hv hn hb (h.eval hx)
        exact ⟨r, by simp [execOp, hp, hq, hr], hrr⟩
      · cases hv
    · rename_i m
      split at hv
      · rename_i y hx
        cases hi0 : isNought (boundS s.ρ hi) with
        | false => rw [hi0] at hv; cases hv
        | true =>
          cases hm0 : isNought (boundS s.ρ (some m)) with
          | false => rw [hi0, hm0] at hv; cases hv
          | true =>
            rw [hi0, hm0] at hv
            simp only [Bool.and_self, cond_true] at hv
            obtain ⟨p, hp⟩ := nought_spec h hi0
            obtain ⟨q, hq⟩ := nought_spec h hm0
            unfold empS at hv
            split at hv
            · rename_i e ht
              split at hv
              · rename_i ys sz hsrc hsz
                cases hv
                have hsl : ∃ ao len cap, a.eval x = .slice ao len cap := src_slice hrd hsrc (h.eval hx)
                obtain ⟨ao, len, cap, hxe⟩ := hsl
                refine ⟨.slice ao 0 0, ?_, ⟨ao, rfl⟩⟩
                simp only [Option.map_some, Option.some.injEq] at hq
                simp [execOp, hp, hq, Instr.sliceAt, Instr.slice, run_underlying ht, hxe, Instr.sliceBounds, Instr.sliceBound, asIntOf, szT_spec hsz]
              · cases hv
            · cases hv
      · cases hv
  · rename_i sr d x
    split at hv
    · rename_i e s0 hu1 hu2 hx
      split at hv
      · rename_i l he hsrc
        cases hv
        obtain ⟨ao, cap, hxe, hnil, hcell⟩ := src_spec hrd rfl hsrc (h.eval hx)
        refine ⟨.string ⟨(l.map fun (n : Int) => UInt8.ofNat n.toNat).toArray⟩, ?_, rfl⟩
        have hconv : (Conv.bytesToString (.slice ao l.length cap)).run P w = .ok (.string ⟨(l.map fun (n : Int) => UInt8.ofNat n.toNat).toArray⟩) w := by
          cases ao with
          | none =>
            have := (hnil rfl).2
            simp only [VL.len, List.length_eq_zero_iff] at this
            subst this
            rfl
          | some ad => exact run_bytesToString l fun j u hj => hcell ad rfl j u (by rw [int_vals]; exact hj)
        have hxe' : a.eval x = .slice ao l.length cap := hxe
        simp only [execOp, convert, Sem.run_bind, run_underlying hu1, run_underlying hu2, run_underlying he, hxe', Result.andThen_ok]
        rw [hconv]
        rfl
      · cases hv
    · cases hv
  · rename_i args ts
    split at hv
    · rename_i t x ht hx
      simp only [Option.bind_eq_some_iff] at hv
      obtain ⟨p, hp, he⟩ := hv
      have hx' : (args.map a.eval)[0]? = some (a.eval x) := by simp [hx]
      obtain ⟨z, hz, hzr⟩ := lenS_spec (P := P) hrd he (h.eval hp) ts ht type _ hx'
      exact ⟨z, by simp [execOp, resolve, invoke, builtin, hz], hzr⟩
    · cases hv
  · exact absurd rfl (hcall _ _ _)
  · cases hv
theorem rep_zero (k : IntKind) (n : Nat) : (VL.int k (List.replicate n 0)).vals = List.replicate n (Value.int k 0) := by
  rw [int_vals, List.map_replicate]
theorem rep_false (n : Nat) : (VL.bool (List.replicate n false)).vals = List.replicate n (Value.bool false) := by
  rw [bool_vals, List.map_replicate]
theorem made_list (z : Array Value) (v : Value) (hz : z.toList = [v]) (n : Nat) : (madeCells z n).toList = List.replicate n v := by
  have : z = #[v] := by apply Array.ext'; simpa using hz
  subst this
  exact toList_madeCells_one v n
theorem make_own (_h : Rel C B w0 E s a w) {t e : TypeId} {i : TypeInfo} {z : Value} (ht : P.underlying t = some (.slice e)) (hi : P.info? e = some i) (hz : i.zero = some z) {zv : Value} (hzv : z.cells.toList = [zv]) (hsz : i.size = 1)
    (hby : i.bytes ≠ 0) {kl kc : IntKind} {n m : Int} (h0 : 0 ≤ n) (h1 : n ≤ m) (h2 : (i.bytes : Int) * m ≤ 281474976710656) {xs : VL} (hl : xs.len = n.toNat) (hw : xs.wd = 1) (hv : xs.vals = List.replicate n.toNat zv) :
    ∃ w', (Instr.makeSlice t (.int kl n) (.int kc m)).run P w = .ok (.slice (some ⟨w.heap.size, 0, none⟩) n.toNat m.toNat) w' ∧
      w'.ownsRow 0 e xs.wd (.slice (some ⟨w.heap.size, 0, none⟩) n.toNat m.toNat) xs.len xs.vals ∧ w.grownBy w' none := by
  have hm : m ≤ 281474976710656 := by
    have hb1 : (1 : Int) ≤ i.bytes := by omega
    have : m * 1 ≤ m * (i.bytes : Int) := Int.mul_le_mul_of_nonneg_left hb1 (by omega)
    rw [Int.mul_comm m (i.bytes : Int)] at this
    omega
  have hr := run_make (P := P) w t e i z ht hi hz kl kc n m h0 h1 h2 (by omega)
  refine ⟨_, hr, ⟨by rw [hv, hl, hw]; simp, .inr ⟨w.heap.size, m.toNat, _, by rw [hl], ?_, heap_alloc_new w _, by omega, by simp only [maxLen]; omega, by rw [size_madeCells, hsz, hw], ?_⟩⟩, World.grownBy_alloc w _ none⟩
  · exact Nat.zero_le _
  · rw [made_list _ _ hzv, hv, hl, hw, hsz]
    simp
    omega
theorem kd_call {x : Operand} {args ts} (hk : kd P C (.call ⟨.value x, args, ts⟩) = .r) : wsumOf C x = none := by
  cases x <;> simp only [kd] at hk <;> try rfl
  rename_i f
  split at hk
  · cases hk
  · rename_i h; exact h
theorem dOp_sound (hC : CtxOK P C) {ops : Array Oper} {al : Nat → Bool} {nk i : Nat} {s' : St} {Q : Exit → Act → World → Prop} {K : Act → World → Prop}
    (h : Rel C B w0 E s a w) (hd : dOp P C ops al nk i s = some s') (hK : ∀ E' a' w', Rel C B w0 E' s' a' w' → K a' w') : wpOp P ops Q i K a w := by
  unfold dOp at hd
  unfold wpOp
  split at hd
  · cases hd
  · rename_i o ho
    rw [ho]
    simp only
    split at hd
    · cases hd
    · rename_i hg
      cases hd
      rw [h.guard hg]
      exact hK _ _ _ (h.put (undef_rel C E w) _)
    · rename_i hg
      rw [h.guard hg, if_pos rfl]
      refine .inl ?_
      cases has : asr P C o s.ρ (s.rdk P C o al) with
      | false => rw [has] at hd; cases hd
      | true =>
        rw [has] at hd
        simp only [cond_true] at hd
        split at hd
        · -- p
          split at hd
          · rename_i v hv
            cases hd
            obtain ⟨u, hu, hur⟩ := effP_sound h hv has
            unfold Oper.wp
            rw [hu]
            exact hK _ _ _ (h.put hur _)
          · cases hd
        · -- r
          rename_i hkd
          have hrdk : s.rdk P C o al = s.rd al := by unfold St.rdk; rw [hkd]
          rw [hrdk] at has
          have hFn : ∀ n, w.heap.size ≤ n → E.F n := fun n hn => h.ok.F n (Nat.le_trans h.base hn)
          have hAn : ∀ n, E.A n → n < w.heap.size := fun n hn => (h.lo n hn).2
          split at hd
          · rename_i v hv
            cases hd
            by_cases hcall : ∃ x args ts, o.op = .call ⟨.value x, args, ts⟩
            · obtain ⟨x, args, ts, hop⟩ := hcall
              obtain ⟨dst, op, type, pos, after, guard⟩ := o
              simp only at hop
              subst hop
              have hws : wsumOf C x = none := kd_call hkd
              unfold effR at hv
              simp only at hv
              split at hv
              · rename_i f caps l hx hl
                split at hv
                · rename_i sm hsm
                  have hpre : sm.pre (l ++ caps.map fun k => .one false [.ptr k 0]) (s.rd al) = true := by simpa [asr, hws, hx, hl, hsm] using has
                  obtain ⟨ns, hns, hx'⟩ := h.eval hx
                  have hargs := argsS_rel h hl
                  have hcaps : AllR (AV.rel C E w) (caps.map fun k => AV.one false [.ptr k 0]) (ns.map fun n => Value.pointer (some ⟨n, 0, none⟩)) := by
                    clear hv hx hx' hpre
                    induction caps generalizing ns with
                    | nil => simp at hns; subst hns; exact AllR.nil
                    | cons c caps ih =>
                      cases ns with
                      | nil => simp at hns
                      | cons n ns =>
                        simp only [List.map_cons, List.cons.injEq] at hns
                        exact AllR.cons ⟨n, hns.1, rfl⟩ (ih ns hns.2)
                  rcases hC.sum f sm hsm with ⟨hcal, hok⟩ | hext
                  case inr =>
                    obtain ⟨u, hu, hur⟩ := hext C E w _ ((args.map a.eval) ++ (ns.map fun n => Value.pointer (some ⟨n, 0, none⟩)).toArray) (s.rd al) v hpre hv (by simpa using hargs.app hcaps) (rd_rel h al)
                    unfold Oper.wp
                    have hrun : (execOp a.eval ⟨dst, .call ⟨.value x, args, ts⟩, type, pos, after, guard⟩).run P w = .ok (.value u) w := by
                      simp only [execOp, resolve, hx', Deferred.ofValue, Sem.run_bind, Sem.run_pure, Result.andThen_ok, invoke]
                      simpa using hu
                    rw [hrun]
                    exact hK _ _ _ (h.put hur _)
                  have hcall := hok E w _ ((args.map a.eval) ++ (ns.map fun n => Value.pointer (some ⟨n, 0, none⟩)).toArray) (s.rd al) v hpre hv (by simpa using hargs.app hcaps) (rd_rel h al) hFn hAn
                  unfold Oper.wp
                  have hrun : (execOp a.eval ⟨dst, .call ⟨.value x, args, ts⟩, type, pos, after, guard⟩).run P w = .ok (.enter f ((args.map a.eval) ++ (ns.map fun n => Value.pointer (some ⟨n, 0, none⟩)).toArray)) w := by
                    simp only [execOp, resolve, hx', Deferred.ofValue, Sem.run_bind, Sem.run_pure, Result.andThen_ok, invoke]
                    rw [callFunc_enter hcal]
                    simp
                  rw [hrun]
                  simp only [Oper.upon]
                  refine Calls.mono (by simpa using hcall) fun e w' he => ?_
                  obtain ⟨u, rfl, hu, hb⟩ := he
                  exact hK _ _ _ ((h.world hb).put hu _)
                · cases hv
              · rename_i f xss l hx hl
                split at hv
                · rename_i sm hsm
                  have hpre : sm.pre (l ++ xss.map fun xs => .one false [.pvc xs]) (s.rd al) = true := by simpa [asr, hws, hx, hl, hsm] using has
                  obtain ⟨ps, hx', hps⟩ := h.eval hx
                  have hargs := argsS_rel h hl
                  have hcaps : AllR (AV.rel C E w) (xss.map fun xs => AV.one false [.pvc xs]) ps := by
                    refine ⟨by simpa using hps.1, fun i x v hx hv => ?_⟩
                    simp only [List.getElem?_map, Option.map_eq_some_iff] at hx
                    obtain ⟨xs, hxs, rfl⟩ := hx
                    exact hps.2 i xs v hxs hv
                  rcases hC.sum f sm hsm with ⟨hcal, hok⟩ | hext
                  case inr =>
                    obtain ⟨u, hu, hur⟩ := hext C E w _ ((args.map a.eval) ++ ps.toArray) (s.rd al) v hpre hv (by simpa using hargs.app hcaps) (rd_rel h al)
                    unfold Oper.wp
                    have hrun : (execOp a.eval ⟨dst, .call ⟨.value x, args, ts⟩, type, pos, after, guard⟩).run P w = .ok (.value u) w := by
                      simp only [execOp, resolve, hx', Deferred.ofValue, Sem.run_bind, Sem.run_pure, Result.andThen_ok, invoke]
                      simpa using hu
                    rw [hrun]
                    exact hK _ _ _ (h.put hur _)
                  have hcall := hok E w _ ((args.map a.eval) ++ ps.toArray) (s.rd al) v hpre hv (by simpa using hargs.app hcaps) (rd_rel h al) hFn hAn
                  unfold Oper.wp
                  have hrun : (execOp a.eval ⟨dst, .call ⟨.value x, args, ts⟩, type, pos, after, guard⟩).run P w = .ok (.enter f ((args.map a.eval) ++ ps.toArray)) w := by
                    simp only [execOp, resolve, hx', Deferred.ofValue, Sem.run_bind, Sem.run_pure, Result.andThen_ok, invoke]
                    rw [callFunc_enter hcal]
                    simp
                  rw [hrun]
                  simp only [Oper.upon]
                  refine Calls.mono (by simpa using hcall) fun e w' he => ?_
                  obtain ⟨u, rfl, hu, hb⟩ := he
                  exact hK _ _ _ ((h.world hb).put hu _)
                · cases hv
              · rename_i i l hx hl
                split at hv
                · rename_i sm hsm
                  obtain ⟨f, first, caps, hfv, hcal, hok⟩ := hC.fsum i sm hsm
                  have hpre : sm.pre l (s.rd al) = true := by simpa [asr, hws, hx, hl, hsm] using has
                  have hx' : a.eval x = .func (.func f) first caps := (h.eval hx).trans hfv
                  have hargs := argsS_rel h hl
                  have hcall := hok E w _ (args.map a.eval) (s.rd al) v hpre hv (by simpa using hargs) (rd_rel h al) hFn hAn
                  unfold Oper.wp
                  have hrun : (execOp a.eval ⟨dst, .call ⟨.value x, args, ts⟩, type, pos, after, guard⟩).run P w = .ok (.enter f (first ++ (args.map a.eval) ++ caps)) w := by
                    simp only [execOp, resolve, hx', Deferred.ofValue, Sem.run_bind, Sem.run_pure, Result.andThen_ok, invoke]
                    rw [callFunc_enter hcal]
                  rw [hrun]
                  simp only [Oper.upon]
                  refine Calls.mono hcall fun e w' he => ?_
                  obtain ⟨u, rfl, hu, hb⟩ := he
                  exact hK _ _ _ ((h.world hb).put hu _)
                · cases hv
              · cases hv
            · obtain ⟨u, hu, hur⟩ := effR_sound h hv has (fun x args ts e => hcall ⟨x, args, ts, e⟩)
              unfold Oper.wp
              rw [hu]
              exact hK _ _ _ (h.put hur _)
          · cases hd
        · -- a
          split at hd
          · rename_i v b hv hfree
            cases hd
            obtain ⟨dst, op, type, pos, after, guard⟩ := o
            unfold effA at hv
            simp only at hv
            split at hv
            · rename_i t x _
              split at hv
              · rename_i cs hcs
                split at hv
                · rename_i hok
                  cases hv
                  simp only [Option.bind_eq_some_iff] at hcs
                  obtain ⟨y, hy, hyc⟩ := hcs
                  obtain ⟨hr, h1⟩ := cells_rel hyc hok (h.eval hy)
                  unfold Oper.wp
                  simp only [execOp, Instr.box, newVar, newRow, Sem.run_bind, run_newObj, Sem.run_pure, Result.andThen_ok, World.alloc_eq]
                  exact hK _ _ _ (h.alloc hfree hr h1 (x := .one false [.ptr (nk + i) 0]) (u := .pointer (some ⟨w.heap.size, 0, none⟩)) dst ⟨w.heap.size, upd_same, rfl⟩)
                · cases hv
              · cases hv
            · rename_i t _
              split at hv
              · rename_i cs hcs
                split at hv
                · rename_i hok
                  cases hv
                  obtain ⟨z, hz, hr, h1⟩ := zeroS_spec (C := C) (E := E) (w := w) hcs hok w
                  unfold Oper.wp
                  simp only [execOp, Instr.alloc, newVar, newRow, Sem.run_bind, hz, run_newObj, Sem.run_pure, Result.andThen_ok, World.alloc_eq]
                  exact hK _ _ _ (h.alloc hfree hr h1 (x := .one false [.ptr (nk + i) 0]) (u := .pointer (some ⟨w.heap.size, 0, none⟩)) dst ⟨w.heap.size, upd_same, rfl⟩)
                · cases hv
              · cases hv
            · rename_i t len parts _
              split at hv
              · rename_i e l hl
                cases hv
                simp only [Option.bind_eq_some_iff] at hl
                obtain ⟨ps, hps, hl⟩ := hl
                obtain ⟨cs, hcs, hr, h1⟩ := buildSliceS_spec (P := P) (qs := parts.map fun (i, x) => (i, a.eval x)) hl (by simpa using partsS_rel h hps)
                unfold Oper.wp
                simp only [execOp, Sem.run_bind, hcs, Sem.run_pure, Result.andThen_ok]
                exact hK _ _ _ (h.alloc hfree hr h1 (x := .one false [.sl (nk + i) 0 len len]) (u := .slice (some ⟨w.heap.size, 0, none⟩) len len) dst ⟨w.heap.size, upd_same, rfl⟩)
              · cases hv
            · rename_i t l c _
              split at hv
              · rename_i e k1 n k2 m ht hl hc
                split at hv
                · cases hv
                · rename_i hby
                  have hl' : a.eval l = .int k1 n := h.eval hl
                  have hc' : a.eval c = .int k2 m := h.eval hc
                  have hbd : 0 ≤ n ∧ n ≤ m ∧ ((((P.info? e).map (·.bytes)).getD 0 : Nat) : Int) * m ≤ 281474976710656 := by simpa [asr, ht, hl, hc] using has
                  obtain ⟨h0, h1, h2⟩ := hbd
                  have fin : ∀ (xs : VL) (zv : Value), xs.len = n.toNat → xs.wd = 1 → xs.vals = List.replicate n.toNat zv → xs.flat = true → (∃ sv : SV, zeroS P e = some [sv] ∧ SV.plain sv = true ∧ sv.exact = zv) → szT P e = some 1 →
                      (∀ E' a' w', Rel C B w0 E' { s.put dst (.one false [.own (nk + i)]) with heap := s.heap.set (nk + i) (some (some (.grow e xs))) } a' w' → K a' w') →
                      Oper.wp P ⟨dst, .makeSlice t l c, type, pos, after, guard⟩ a w K Q := by
                    intro xs zv e1 e2 e3 e4 hzv hsz hK'
                    obtain ⟨sv, hzs, hpl, hex⟩ := hzv
                    obtain ⟨inf, hinf, hsz'⟩ := infoT hsz
                    obtain ⟨z, hz, hzl, hzr⟩ := zeroInfo (C := C) (E := E) (w := w) hinf hzs
                    have hzc : z.cells.toList = [zv] := by
                      have := exacts_of_plain (l := [sv]) (by simp [hpl]) hzr
                      rw [this]; simp [hex]
                    rw [hinf] at hby h2
                    simp only [Option.map_some, Option.getD_some] at hby h2
                    obtain ⟨w', hr, ho, hgr⟩ := make_own h ht hinf hz hzc hsz' hby (kl := k1) (kc := k2) h0 h1 h2 e1 e2 e3
                    obtain ⟨E', hE'⟩ := h.own hfree ⟨_, _, _, rfl⟩ e4 ho hgr (fun g hg => by cases hg) (fun g hg => .inr (by simp [Value.ownBlock] at hg; omega)) dst
                    unfold Oper.wp
                    simp only [execOp, hl', hc', Sem.run_bind, hr, Sem.run_pure, Result.andThen_ok]
                    exact hK' _ _ _ hE'
                  split at hv
                  · rename_i k k' hu hz hs1
                    split at hv
                    · rename_i hkk
                      subst hkk
                      cases hv
                      exact fin _ (.int k' 0) (by simp [VL.len]) rfl (rep_zero _ _) rfl ⟨_, hz, rfl, rfl⟩ hs1 hK
                    · cases hv
                  · rename_i hu hz hs1
                    cases hv
                    exact fin _ (.bool false) (by simp [VL.len]) rfl (rep_false _) rfl ⟨_, hz, rfl, rfl⟩ hs1 hK
                  · cases hv
              · cases hv
            · cases hv
          · cases hd
        · -- w
          rename_i hkd
          have hrdk : s.rdk P C o al = s.rd al := by unfold St.rdk; rw [hkd]
          rw [hrdk] at has
          have hrd := rd_rel h al
          split at hd
          · rename_i v b hv hfree
            cases hd
            obtain ⟨dst, op, type, pos, after, guard⟩ := o
            unfold effW at hv
            simp only at hv
            split at hv
            · rename_i t x y
              split at hv
              · rename_i k off cs n hx hcs hsz
                split at hv
                · rename_i _ e l hk0
                  split at hv
                  · rename_i hcond
                    obtain ⟨hlen, hle, hok⟩ := hcond
                    cases hv
                    simp only [Option.bind_eq_some_iff] at hcs
                    obtain ⟨z, hz, hzc⟩ := hcs
                    obtain ⟨hr, h1⟩ := cells_rel hzc hok (h.eval hz)
                    have hk := rd_heap hk0
                    obtain ⟨m, hm, hA, vs, hvs, hvr, hv1⟩ := h.heap k _ hk
                    obtain ⟨m', hm', hx'⟩ := h.eval hx
                    rw [hm] at hm'; cases hm'
                    have hcl : (a.eval y).cells.size = n := by have := hr.1; simp at this; omega
                    have hvl : vs.size = l.length := by have := hvr.1; simp at this; omega
                    have hst := run_storeCells_at (P := P) m off e (a.eval y).cells.toList 0 vs w hvs (by simp; omega) h1
                    unfold Oper.wp
                    simp only [execOp, Instr.storeAt, Instr.sureAddr, hx', storeVar, Sem.run_bind, Sem.run_pure, Result.andThen_ok, szT_spec hsz, hcl, ne_eq, not_true, if_false]
                    simp only [Nat.add_zero] at hst
                    rw [hst]
                    refine hK _ _ _ (h.store hk hm hA hvs ?_ ?_ dst)
                    · have e1 : (a.eval y).cells.toList.length = cs.length := by simp; omega
                      rw [e1]
                      simpa [splice] using ((hvr.take off).app hr).app (hvr.drop (off + cs.length))
                    · intro v hv
                      simp only [List.mem_append] at hv
                      rcases hv with (hv | hv) | hv
                      · exact hv1 v (List.mem_of_mem_take hv)
                      · exact h1 v hv
                      · exact hv1 v (List.mem_of_mem_drop hv)
                  · cases hv
                · cases hv
              · rename_i k i' c hx hcs hsz
                split at hv
                · rename_i _ e xs hk0
                  simp only [Option.map_eq_some_iff] at hv
                  obtain ⟨ys, hys, hv⟩ := hv
                  cases hv
                  obtain ⟨hyv, hyl, hyw, hxw, hpl, hoc, hyf⟩ := setAt_vals hys
                  simp only [Option.bind_eq_some_iff] at hcs
                  obtain ⟨z, hz, hzc⟩ := hcs
                  have hokc : ([c]).all SV.okc = true := by simp [hoc]
                  obtain ⟨hr, h1⟩ := cells_rel hzc hokc (h.eval hz)
                  have hk := rd_heap hk0
                  obtain ⟨g, hg, hgβ, hgA, hgf, ho⟩ := h.heap k _ hk
                  obtain ⟨n, l, cc, g1, g2, hx'⟩ := h.eval hx
                  rw [hg] at g1; cases g1
                  have hcells : (a.eval y).cells.toList = [c.exact] := by
                    have := exacts_of_plain (l := [c]) (by simp [hpl]) hr
                    simpa using this
                  have hcsz : (a.eval y).cells.size = 1 := by
                    have : (a.eval y).cells.toList.length = 1 := by rw [hcells]; rfl
                    simpa using this
                  rcases own_form ho with ⟨h3, _⟩ | ⟨m, cap, h3, hcap, hm, _⟩
                  · cases h3
                  · cases h3
                    have hstored := ho.stored (j := i') (u := c.exact)
                    have hce : oneCell c.exact = true := h1 _ (by rw [hcells]; simp)
                    have hcell := ho.cellAt i' (by rw [hxw]; omega)
                    have hin : ∃ u0, xs.vals[i']? = some u0 := by
                      have := VL.vals_len xs
                      have hlt : i' < xs.vals.length := by rw [this, hxw]; omega
                      exact ⟨_, List.getElem?_eq_getElem hlt⟩
                    obtain ⟨u0, hu0⟩ := hin
                    rw [hu0] at hcell
                    have hfro := ho.frozenAt i'
                    unfold Oper.wp
                    have hst : (store (⟨n, i', none⟩ : Addr) c.exact).run P w = .ok () (w.setCell ⟨n, i', none⟩ c.exact) := by
                      rw [run_store P w _ _ _ hce, hcell]; simp [hfro]
                    simp only [execOp, Instr.storeAt, Instr.sureAddr, hx', storeVar, Sem.run_bind, Sem.run_pure, Result.andThen_ok, szT_spec hsz, hcsz, ne_eq, not_true, if_false, hcells, storeCells, Addr.add_zero', Nat.mul_one, Nat.add_zero, hst]
                    refine hK _ _ _ (h.storeGrow hk hg hgβ (g := n) rfl (hgA n rfl) hyf ?_ hstored.2 dst)
                    have := hstored.1
                    rw [hyw, hyl, hyv]
                    exact this
                · cases hv
              · cases hv
            · rename_i args ts
              split at hv
              case isFalse => cases hv
              rename_i hshape
              obtain ⟨hts, has2, h01⟩ := hshape
              split at hv
              · rename_i t x y ht hx0 hy0
                split at hv
                · rename_i e u v' hu hux hvy
                  split at hv
                  · rename_i xs ys z sz hsx hsy hzz hsz
                    split at hv
                    case isFalse => cases hv
                    rename_i hcond
                    obtain ⟨hzsz, hxsz, hby⟩ := hcond
                    obtain ⟨inf, hinf, hsz'⟩ := infoT hsz
                    simp only [Option.map_eq_some_iff] at hzz
                    obtain ⟨zl, hzl, hzlen⟩ := hzz
                    obtain ⟨zv, hzv, hzc, _⟩ := zeroInfo (C := C) (E := E) (w := w) hinf hzl
                    have hbytes : (xs.len + ys.len) * inf.bytes ≤ 140737488355328 := by
                      have := has
                      simp only [asr, ht, hx0, hy0, hu, hux, hvy, hsx, hsy, hinf, Option.map_some, Option.getD_some, decide_eq_true_eq] at this
                      exact this
                    rw [hinf] at hby
                    simp only [Option.map_some, Option.getD_some] at hby
                    have hmax : xs.len + ys.len ≤ maxLen := by
                      have : (xs.len + ys.len) * 1 ≤ (xs.len + ys.len) * inf.bytes := Nat.mul_le_mul_left _ (by omega)
                      simp only [maxLen]; omega
                    have hargs : args = #[x, y] := by
                      apply Array.ext'
                      apply List.ext_getElem?
                      intro j
                      rcases j with _ | _ | j
                      · simpa using hx0
                      · simpa using hy0
                      · rw [List.getElem?_eq_none (by simp; omega)]; rfl
                    have htss : ts = #[t, t] := by
                      apply Array.ext'
                      apply List.ext_getElem?
                      intro j
                      rcases j with _ | _ | j
                      · simpa using ht
                      · rw [ht] at h01; simpa using h01.symm
                      · rw [List.getElem?_eq_none (by simp; omega)]; rfl
                    subst hargs; subst htss
                    have fin : ∀ (zs : VL) (vv : Value) (s1 : St), xs.app ys = some zs → a.eval x = vv → Rel C B w0 E s1 a w → s1.heap[nk + i]? = some none → w.ownsRow 0 e sz vv xs.len xs.vals →
                        (∀ g, vv.ownBlock = some g → E.A g ∧ ∀ k' b', s1.heap[k']? = some (some (some b')) → E.blk k' ≠ some g) →
                        (∀ E' a' w', Rel C B w0 E' { s1.put dst (.one false [.own (nk + i)]) with heap := s1.heap.set (nk + i) (some (some (.grow e zs))) } a' w' → K a' w') →
                        Oper.wp P ⟨dst, .call ⟨.builtin .append, #[x, y], #[t, t]⟩, type, pos, after, guard⟩ a w K Q := by
                      intro zs vv s1 hzs hvv' hr1 hf1 hown hrow hK'
                      obtain ⟨hzvals, hzlen', hzwd, hywd, hzf, hyf⟩ := app_vals hzs
                      obtain ⟨ao, cap, hvv, hnil, hnews⟩ := src_spec hrd hyf hsy (h.eval hvy)
                      obtain ⟨v2, w2, hrun, ho2, hgr2, hblk2, hsh⟩ := append_run (P := P) 0 t type e inf zv sz inf.bytes hu hinf hzv hsz' rfl (by omega) (by omega) vv xs.len xs.vals hown ao ys.len cap hnil ys.vals
                        (by rw [VL.vals_len, hywd, hxsz]) hnews (fun u hu => VL.vals_one hyf u hu) hbytes hmax (Nat.zero_le _)
                      obtain ⟨E', hE'⟩ := hr1.own hf1 (ys := zs) hsh hzf (by rw [hzwd, hxsz, hzlen', hzvals]; exact ho2) hgr2 hrow hblk2 dst
                      unfold Oper.wp
                      simp only [execOp, resolve, invoke, builtin, Sem.run_bind, Sem.run_pure, Result.andThen_ok, List.map_toArray, List.map_cons, List.map_nil, hvv', hvv, hrun]
                      exact hK' _ _ _ hE'
                    split at hv
                    · rename_i k zs hzs
                      split at hv
                      case h_2 => cases hv
                      rename_i _ e' xs' hk0
                      split at hv
                      case isFalse => cases hv
                      rename_i hee
                      subst hee
                      cases hv
                      have hxs' : xs' = xs := by
                        simp only [srcVL, asVL, hk0] at hsx
                        cases hsx; rfl
                      subst hxs'
                      have hk := rd_heap hk0
                      obtain ⟨g, hg, hgβ, hgA, hgf, ho⟩ := h.heap k _ hk
                      have hux' := (h.eval hux).1
                      rw [hg] at hux'; cases hux'
                      have hne : k ≠ nk + i := by rintro rfl; rw [hk] at hfree; cases hfree
                      have hkill := h.kill k (fun x hx => by rw [hk] at hx; cases hx; simp)
                      refine fin zs _ _ hzs rfl hkill (by simp only [List.getElem?_set_ne hne]; exact hfree) (by rw [← hxsz]; exact ho) ?_ ?_
                      · intro g hgb
                        refine ⟨hgA g hgb, fun k' b' hk' hb => ?_⟩
                        simp only [List.getElem?_set] at hk'
                        split at hk'
                        · split at hk' <;> cases hk'
                        · rename_i hkk
                          exact hkk (h.inj k k' _ _ g hk hk' (by simp [Env.blk, hgβ, hg, hgb]) hb)
                      · intro E' a' w' hr'
                        refine hK E' a' w' ?_
                        cases dst <;> simpa [chg, St.put] using hr'
                    · rename_i k len cap zs hzs
                      split at hv
                      case h_2 => cases hv
                      rename_i _ e' l hk0
                      split at hv
                      case isFalse => cases hv
                      rename_i hc
                      obtain ⟨hlc, hll, hee, hcap⟩ := hc
                      subst hee
                      cases hv
                      have hk := rd_heap hk0
                      obtain ⟨n, hn, hA, vs, hvs, hvr, _⟩ := h.heap k _ hk
                      obtain ⟨n', hn', hux'⟩ := h.eval hux
                      rw [hn] at hn'; cases hn'
                      have hne : k ≠ nk + i := by rintro rfl; rw [hk] at hfree; cases hfree
                      have hkill := h.kill k (fun x hx => by rw [hk] at hx; cases hx; simp)
                      have hsx' : cellsVL P e' (cut l 0 len) = some xs := by
                        simp only [srcVL, hk0] at hsx
                        split at hsx
                        · exact hsx
                        · cases hsx
                      obtain ⟨hxv, hxl, hxw, hxp⟩ := cellsVL_spec hsx'
                      have hsz1 : sz = 1 := by omega
                      have hlen : len = l.length := by rw [hll, hsz1]; omega
                      have hcut : cut l 0 len = l := by simp [cut, hlen]
                      rw [hcut] at hxv hxl hxp
                      have hvals := exacts_of_plain hxp hvr
                      refine fin zs _ _ hzs rfl hkill (by simp only [List.getElem?_set_ne hne]; exact hfree) ?_ ?_ ?_
                      · rw [hux']
                        refine ⟨by rw [hxv, hxl, hsz1]; simp, .inr ⟨n, cap, vs, by rw [hxl, ← hlen], Nat.zero_le _, hvs, by omega, by simp only [maxLen]; omega, ?_, ?_⟩⟩
                        · have := hvr.1; simp at this; rw [hsz1]; omega
                        · rw [hvals, hxv, hxl, hsz1, Nat.mul_one, List.take_of_length_le (by simp)]
                      · intro g hgb
                        rw [hux'] at hgb
                        simp only [Value.ownBlock, Option.some.injEq] at hgb
                        subst hgb
                        refine ⟨hA, fun k' b' hk' hb => ?_⟩
                        simp only [List.getElem?_set] at hk'
                        split at hk'
                        · split at hk' <;> cases hk'
                        · rename_i hkk
                          exact hkk (h.inj k k' _ _ n hk hk' (by simp [Env.blk, hn]) hb)
                      · intro E' a' w' hr'
                        refine hK E' a' w' ?_
                        cases dst <;> simpa [chg, St.put] using hr'
                    · rename_i zs hzs
                      cases hv
                      have hux' : a.eval x = .slice none 0 0 := h.eval hux
                      have hx0 : xs.len = 0 ∧ xs.vals = [] := by
                        simp only [srcVL] at hsx
                        split at hsx
                        · cases hsx; simp [VL.len, int_vals]
                        · cases hsx; simp [VL.len, bool_vals]
                        · cases hsx
                      refine fin zs _ _ hzs hux' h hfree (by rw [hx0.1, hx0.2]; exact World.ownsRow_nil w _ _ _) (fun g hg => by simp [Value.ownBlock] at hg) ?_
                      intro E' a' w' hr'
                      refine hK E' a' w' ?_
                      cases dst <;> simpa [chg, St.put] using hr'
                    · rename_i zs hzs
                      cases hzf : zs.flat with
                      | false => rw [hzf] at hv; cases hv
                      | true =>
                      rw [hzf] at hv
                      cases hv
                      obtain ⟨hzvals, hzlen', hzwd, hywd, _, hyf⟩ := app_vals hzs
                      obtain ⟨ao, cap, hvv, hnil, hnews⟩ := src_spec hrd hyf hsy (h.eval hvy)
                      obtain ⟨a0, hux'⟩ := h.eval hux
                      have hx0 : xs.len = 0 ∧ xs.vals = [] := by
                        simp only [srcVL] at hsx
                        split at hsx
                        · cases hsx; simp [VL.len, int_vals]
                        · cases hsx; simp [VL.len, bool_vals]
                        · cases hsx
                      rw [hx0.1] at hzlen' hbytes hmax
                      rw [hx0.2] at hzvals
                      simp only [Nat.zero_add, List.nil_append] at hzlen' hzvals hbytes hmax
                      obtain ⟨v2, w2, hrun, hb2, hvec⟩ := append_emp (P := P) (w := w) (zs := zs) (t := t) (ty := type) (e := e) (a0 := a0) (ao := ao) (m := ys.len) (cap := cap) (news := ys.vals) hu hinf hzv hsz' (by omega) (by omega) hnil (by rw [VL.vals_len, hywd, hxsz]) hnews (fun u hu => VL.vals_one hyf u hu) hbytes hmax hzf hzlen' (by omega) hzvals
                      unfold Oper.wp
                      simp only [execOp, resolve, invoke, builtin, Sem.run_bind, Sem.run_pure, Result.andThen_ok, List.map_toArray, List.map_cons, List.map_nil, hux', hvv, hrun]
                      have hr2 := h.world hb2
                      have hv2 : AV.rel C E w2 (.one false [.vec true zs]) v2 := hvec (E.G true) fun n hn => ⟨fun hA => by have := (h.lo n hA).2; omega, fun _ => h.ok.F n (Nat.le_trans h.base hn)⟩
                      refine hK E _ _ ?_
                      have := hr2.put hv2 dst
                      cases dst <;> simpa [chg, St.put] using this
                    · cases hv
                  · cases hv
                · cases hv
              · cases hv
            · rename_i f args ts
              split at hv
              · rename_i sm l hsm hl
                split at hv
                · rename_i v' ch hfn
                  cases hall : ch.all (fun p => Nat.beq p.1 (nk + i) || (s.rd al p.1).isSome) with
                  | false => rw [hall] at hv; cases hv
                  | true =>
                  rw [hall] at hv
                  cases hv
                  have hpre : sm.pre l (s.rd al) = true := by simpa [asr, wsumOf, hsm, hl] using has
                  obtain ⟨hcal, hok⟩ := hC.wsum f sm hsm
                  have hargs := argsS_rel h hl
                  have hcall := hok B w0 E s a w al l (args.map a.eval) v b (nk + i) hpre hfn hfree hall h (by simpa using hargs)
                  unfold Oper.wp
                  have hrun : (execOp a.eval ⟨dst, .call ⟨.value (.func f), args, ts⟩, type, pos, after, guard⟩).run P w = .ok (.enter f (args.map a.eval)) w := by
                    simp only [execOp, resolve, Act.eval, Deferred.ofValue, Sem.run_bind, Sem.run_pure, Result.andThen_ok, invoke]
                    rw [callFunc_enter hcal]
                    simp
                  rw [hrun]
                  simp only [Oper.upon]
                  refine Calls.mono hcall fun e w' he => ?_
                  obtain ⟨u, E', rfl, hr', hu⟩ := he
                  refine hK E' _ _ ?_
                  have := hr'.put hu dst
                  cases dst <;> simpa [St.put] using this
                · cases hv
              · cases hv
            · cases hv
          · cases hd
theorem dRun_sound (hC : CtxOK P C) {ops : Array Oper} {al : Nat → Nat → Bool} {nk : Nat} {Q : Exit → Act → World → Prop} : ∀ {is : List Nat} {E s a w s'},
    Rel C B w0 E s a w → dRun P C ops al nk is s = some s' → (∀ E' a' w', Rel C B w0 E' s' a' w' → Q .normal a' w') → wpOps P ops Q is a w
  | [], E, s, a, w, s', h, hd, hK => by cases hd; exact hK _ _ _ h
  | i :: is, E, s, a, w, s', h, hd, hK => by
    rw [wpOps_cons]
    simp only [dRun] at hd
    split at hd
    · rename_i s1 h1
      exact dOp_sound hC h h1 fun E' a' w' hr => dRun_sound hC hr hd hK
    · cases hd
end Go.Ev
namespace Go.Ev
open Go.RowKit
variable {P : Program} {C : Ctx} {B : Nat} {w0 : World}
theorem argsS_congr {ρ ρ' : Operand → Option AV} : ∀ {l : List Operand}, (∀ x ∈ l, ρ x = ρ' x) → argsS ρ l = argsS ρ' l
  | [], _ => rfl
  | x :: r, h => by
    have ih := argsS_congr (l := r) fun y hy => h y (by simp [hy])
    simp only [argsS, h x (by simp), ih]
theorem partsS_congr {ρ ρ' : Operand → Option AV} : ∀ {l : List (Nat × Operand)}, (∀ x ∈ l, ρ x.2 = ρ' x.2) → partsS ρ l = partsS ρ' l
  | [], _ => rfl
  | (i, x) :: r, h => by
    have ih := partsS_congr (l := r) fun y hy => h y (by simp [hy])
    simp only [partsS, h (i, x) (by simp), ih]
theorem effP_congr {ρ ρ' : Operand → Option AV} {o : Oper} (h : ∀ x ∈ o.op.operands, ρ x = ρ' x) : effP P o ρ = effP P o ρ' := by
  obtain ⟨dst, op, type, pos, after, guard⟩ := o
  cases op <;> simp only [Op.operands] at h <;> simp only [effP]
  case move x => exact h x (by simp)
  case assign x => exact h x (by simp)
  case pick c a b => simp only [h c (by simp), h a (by simp), h b (by simp)]
  case build t parts => rw [partsS_congr (ρ := ρ) (ρ' := ρ')]; intro x hx; exact h x.2 (by simp; exact ⟨x.1, by simpa using hx⟩)
  case nilCheck x => simp only [h x (by simp)]
  case binOp op t x y t' => simp only [h x (by simp), h y (by simp)]
  case unOp op t x => simp only [h x (by simp)]
  case convert s d x => simp only [h x (by simp)]
  case fieldAddr t x f => simp only [h x (by simp)]
  case field t x f => simp only [h x (by simp)]
  case extract x i => simp only [h x (by simp)]
  case index t x i => simp only [h x (by simp), h i (by simp)]
  case makeFunc fn first captured =>
    cases fn <;> simp only
    rw [argsS_congr (ρ := ρ) (ρ' := ρ')]
    intro x hx
    exact h x (by simp; exact .inr (by simpa using hx))
  case call c =>
    obtain ⟨callee, args, ts⟩ := c
    cases callee with
    | value f => rfl
    | invoke r m => rfl
    | builtin b =>
      have ha : argsS ρ args.toList = argsS ρ' args.toList := argsS_congr fun x hx => h x (by simp [Call.operands]; simpa using hx)
      cases b <;> simp only [ha]
theorem boundS_congr {ρ ρ' : Operand → Option AV} {o : Option Operand} (h : ∀ x, o = some x → ρ x = ρ' x) : boundS ρ o = boundS ρ' o := by
  cases o with
  | none => rfl
  | some x => simp only [boundS, h x rfl]
theorem asr_congr {ρ ρ' : Operand → Option AV} {rd : Nat → Option Blk} {o : Oper} (h : ∀ x ∈ o.op.operands, ρ x = ρ' x) : asr P C o ρ rd = asr P C o ρ' rd := by
  obtain ⟨dst, op, type, pos, after, guard⟩ := o
  cases op <;> simp only [Op.operands] at h <;> simp only [asr]
  case binOp op t x y t' => cases op <;> simp only [h x (by simp), h y (by simp)]
  case index t x i => simp only [h x (by simp), h i (by simp)]
  case indexAddr t x i => simp only [h x (by simp), h i (by simp)]
  case slice t x lo hi mx =>
    simp only [h x (by simp), boundS_congr (ρ := ρ) (ρ' := ρ') (o := lo) (fun y hy => h y (by subst hy; simp)), boundS_congr (ρ := ρ) (ρ' := ρ') (o := hi) (fun y hy => h y (by subst hy; simp))]
  case makeSlice t l c => simp only [h l (by simp), h c (by simp)]
  case call c =>
    obtain ⟨callee, args, ts⟩ := c
    cases callee with
    | value f =>
      have ha : argsS ρ args.toList = argsS ρ' args.toList := argsS_congr fun x hx => h x (by simp [Call.operands]; exact .inr (by simpa using hx))
      simp only [ha, h f (by simp [Call.operands])]
    | invoke r m => rfl
    | builtin b =>
      cases b <;> simp only
      cases ts[0]? with
      | none => rfl
      | some t =>
        cases h0 : args[0]? with
        | none => rfl
        | some x =>
          cases h1 : args[1]? with
          | none => rfl
          | some y => simp only [h x (by simp [Call.operands]; exact Array.mem_of_getElem? h0), h y (by simp [Call.operands]; exact Array.mem_of_getElem? h1)]
theorem effR_congr {ρ ρ' : Operand → Option AV} {rd : Nat → Option Blk} {o : Oper} (h : ∀ x ∈ o.op.operands, ρ x = ρ' x) : effR P C o ρ rd = effR P C o ρ' rd := by
  obtain ⟨dst, op, type, pos, after, guard⟩ := o
  cases op <;> simp only [Op.operands] at h <;> simp only [effR]
  case load t x => simp only [h x (by simp)]
  case indexAddr t x i => simp only [h x (by simp), h i (by simp)]
  case slice t x lo hi mx =>
    cases mx with
    | none => simp only [h x (by simp), boundS_congr (ρ := ρ) (ρ' := ρ') (o := lo) (fun y hy => h y (by subst hy; simp)), boundS_congr (ρ := ρ) (ρ' := ρ') (o := hi) (fun y hy => h y (by subst hy; simp))]
    | some m => simp only [h x (by simp), boundS_congr (ρ := ρ) (ρ' := ρ') (o := hi) (fun y hy => h y (by subst hy; simp)), boundS_congr (ρ := ρ) (ρ' := ρ') (o := some m) (fun y hy => h y (by cases hy; simp))]
  case convert sr d x => simp only [h x (by simp)]
  case call c =>
    obtain ⟨callee, args, ts⟩ := c
    cases callee with
    | value f =>
      have ha : argsS ρ args.toList = argsS ρ' args.toList := argsS_congr fun x hx => h x (by simp [Call.operands]; exact .inr (by simpa using hx))
      simp only [ha, h f (by simp [Call.operands])]
    | invoke r m => rfl
    | builtin b =>
      cases b <;> simp only
      cases ht : ts[0]? with
      | none => rfl
      | some t =>
        cases hx : args[0]? with
        | none => rfl
        | some x => simp only [h x (by simp [Call.operands]; exact Array.mem_of_getElem? hx)]
theorem effA_congr {ρ ρ' : Operand → Option AV} {key : Nat} {o : Oper} (h : ∀ x ∈ o.op.operands, ρ x = ρ' x) : effA P o ρ key = effA P o ρ' key := by
  obtain ⟨dst, op, type, pos, after, guard⟩ := o
  cases op <;> simp only [Op.operands] at h <;> simp only [effA]
  case box t x => simp only [h x (by simp)]
  case buildSlice t len parts => rw [partsS_congr (ρ := ρ) (ρ' := ρ')]; intro x hx; exact h x.2 (by simp; exact ⟨x.1, by simpa using hx⟩)
  case makeSlice t l c => simp only [h l (by simp), h c (by simp)]
theorem effW_congr {ρ ρ' : Operand → Option AV} {rd : Nat → Option Blk} {key : Nat} {o : Oper} (h : ∀ x ∈ o.op.operands, ρ x = ρ' x) : effW P C o ρ rd key = effW P C o ρ' rd key := by
  obtain ⟨dst, op, type, pos, after, guard⟩ := o
  cases op <;> simp only [Op.operands] at h <;> simp only [effW]
  case store t a x => simp only [h a (by simp), h x (by simp)]
  case call c =>
    obtain ⟨callee, args, ts⟩ := c
    cases callee with
    | value f =>
      cases f <;> simp only
      rw [argsS_congr (ρ := ρ) (ρ' := ρ') fun x hx => h x (by simp [Call.operands]; exact .inr (by simpa using hx))]
    | invoke r m => rfl
    | builtin b =>
      cases b <;> simp only
      split
      · cases ts[0]? with
        | none => rfl
        | some t =>
          cases h0 : args[0]? with
          | none => rfl
          | some x =>
            cases h1 : args[1]? with
            | none => rfl
            | some y => simp only [h x (by simp [Call.operands]; exact Array.mem_of_getElem? h0), h y (by simp [Call.operands]; exact Array.mem_of_getElem? h1)]
      · rfl
def dEff (P : Program) (C : Ctx) (ops : Array Oper) (al : Nat → Bool) (nk i : Nat) (s : St) (o : Oper) : Option (AV × List (Nat × Option Blk)) :=
  match s.guard ops o with
  | none => none
  | some false => some (undefA, [])
  | some true =>
    bif asr P C o s.ρ (s.rdk P C o al) then
      match kd P C o.op with
      | .p => (effP P o s.ρ).map fun v => (v, [])
      | .r => (effR P C o s.ρ (s.rd al)).map fun v => (v, [])
      | .a => match effA P o s.ρ (nk + i), s.heap[nk + i]? with
        | some e, some none => some e
        | _, _ => none
      | .w => match effW P C o s.ρ (s.rd al) (nk + i), s.heap[nk + i]? with
        | some e, some none => some e
        | _, _ => none
    else none
def appl (o : Oper) (e : AV × List (Nat × Option Blk)) (s : St) : St :=
  { s.put o.dst e.1 with heap := chg e.2 s.heap }
theorem put_eta (s : St) (d : Option Nat) (v : AV) : { s.put d v with heap := s.heap } = s.put d v := by cases d <;> rfl
theorem dOp_eq (ops : Array Oper) (al : Nat → Bool) (nk i : Nat) (s : St) : dOp P C ops al nk i s = match ops[i]? with
    | none => none
    | some o => (dEff P C ops al nk i s o).map fun e => appl o e s := by
  unfold dOp dEff appl
  cases ops[i]? with
  | none => rfl
  | some o =>
    simp only
    cases hg : s.guard ops o with
    | none => rfl
    | some t =>
      cases t with
      | false => simp [chg, put_eta]
      | true =>
        simp only
        cases asr P C o s.ρ (s.rdk P C o al) with
        | false => rfl
        | true =>
          simp only [cond_true]
          cases kd P C o.op with
          | p => simp only; cases effP P o s.ρ <;> simp [chg, put_eta]
          | r => simp only; cases effR P C o s.ρ (s.rd al) <;> simp [chg, put_eta]
          | a =>
            simp only
            rcases effA P o s.ρ (nk + i) with _ | ⟨v, b⟩ <;> rcases s.heap[nk + i]? with _ | (_ | z) <;> rfl
          | w =>
            simp only
            rcases effW P C o s.ρ (s.rd al) (nk + i) with _ | ⟨v, b⟩ <;> rcases s.heap[nk + i]? with _ | (_ | z) <;> rfl
theorem dEff_congr {ops : Array Oper} {al : Nat → Bool} {nk i : Nat} {s s' : St} {o : Oper} (hρ : ∀ x ∈ o.op.operands, s.ρ x = s'.ρ x) (hg : s.guard ops o = s'.guard ops o)
    (hr : kd P C o.op = .r ∨ kd P C o.op = .w → s.rd al = s'.rd al) (hk : s.heap[nk + i]? = s'.heap[nk + i]?) : dEff P C ops al nk i s o = dEff P C ops al nk i s' o := by
  have hrdk : s.rdk P C o al = s'.rdk P C o al := by
    unfold St.rdk
    cases hkd : kd P C o.op with
    | p => rfl
    | r => exact hr (.inl hkd)
    | a => rfl
    | w => exact hr (.inr hkd)
  unfold dEff
  rw [hg, hrdk, asr_congr hρ, effP_congr hρ, effA_congr hρ]
  cases hkd : kd P C o.op with
  | p => rfl
  | r => simp only; rw [effR_congr hρ, hr (.inl hkd)]
  | a => simp only; rw [hk]
  | w => simp only; rw [effW_congr hρ, hr (.inr hkd), hk]
theorem effA_key {o : Oper} {ρ : Operand → Option AV} {key : Nat} {e : AV × List (Nat × Option Blk)} (h : effA P o ρ key = some e) : ∀ p ∈ e.2, p.1 = key := by
  unfold effA at h
  split at h
  · split at h
    · split at h
      · cases h; simp
      · cases h
    · cases h
  · split at h
    · split at h
      · cases h; simp
      · cases h
    · cases h
  · split at h
    · cases h; simp
    · cases h
  · split at h
    · split at h
      · cases h
      · split at h
        · split at h
          · cases h; simp
          · cases h
        · cases h; simp
        · cases h
    · cases h
  · cases h
theorem rd_al {al : Nat → Bool} {s : St} {k : Nat} {b : Blk} (h : s.rd al k = some b) : al k = true := by
  unfold St.rd at h
  cases hal : al k with
  | false => simp [hal] at h
  | true => rfl
theorem effW_key {o : Oper} {ρ : Operand → Option AV} {s : St} {al : Nat → Bool} {key : Nat} {e : AV × List (Nat × Option Blk)} (h : effW P C o ρ (s.rd al) key = some e) : ∀ p ∈ e.2, p.1 = key ∨ al p.1 = true := by
  unfold effW at h
  split at h
  · split at h
    · split at h
      · rename_i hk
        split at h
        · cases h; intro p hp; simp at hp; subst hp; exact .inr (rd_al hk)
        · cases h
      · cases h
    · split at h
      · rename_i hk
        simp only [Option.map_eq_some_iff] at h
        obtain ⟨ys, _, h⟩ := h
        cases h; intro p hp; simp at hp; subst hp; exact .inr (rd_al hk)
      · cases h
    · cases h
  · split at h
    · split at h
      · split at h
        · split at h
          · split at h
            · split at h
              · split at h
                · rename_i hk
                  split at h
                  · cases h; intro p hp; simp at hp; rcases hp with rfl | rfl
                    · exact .inr (rd_al hk)
                    · exact .inl rfl
                  · cases h
                · cases h
              · split at h
                · rename_i hk
                  split at h
                  · cases h; intro p hp; simp at hp; rcases hp with rfl | rfl
                    · exact .inr (rd_al hk)
                    · exact .inl rfl
                  · cases h
                · cases h
              · cases h; intro p hp; simp at hp; subst hp; exact .inl rfl
              · rename_i zs _ _ _
                cases hzf : zs.flat with
                | false => rw [hzf] at h; cases h
                | true => rw [hzf] at h; cases h; intro p hp; cases hp
              · cases h
            · cases h
          · cases h
        · cases h
      · cases h
    · cases h
  · split at h
    · split at h
      · rename_i v ch hfn
        cases hall : ch.all (fun p => Nat.beq p.1 key || (s.rd al p.1).isSome) with
        | false => rw [hall] at h; cases h
        | true =>
          rw [hall] at h
          cases h
          intro p hp
          have := List.all_eq_true.1 hall p hp
          rcases Bool.or_eq_true_iff.1 this with h | h
          · exact .inl (Nat.eq_of_beq_eq_true h)
          obtain ⟨b, hb⟩ := Option.isSome_iff_exists.1 h
          exact .inr (rd_al hb)
      · cases h
    · cases h
  · cases h
theorem dEff_key {ops : Array Oper} {al : Nat → Bool} {nk i : Nat} {s : St} {o : Oper} {e : AV × List (Nat × Option Blk)} (h : dEff P C ops al nk i s o = some e) :
    ∀ p ∈ e.2, p.1 = nk + i ∨ (kd P C o.op = .w ∧ al p.1 = true) := by
  unfold dEff at h
  split at h
  · cases h
  · cases h; simp
  · cases ha : asr P C o s.ρ (s.rdk P C o al) with
    | false => rw [ha] at h; cases h
    | true =>
      rw [ha] at h
      simp only [cond_true] at h
      split at h
      · simp only [Option.map_eq_some_iff] at h; obtain ⟨_, _, h⟩ := h; cases h; simp
      · simp only [Option.map_eq_some_iff] at h; obtain ⟨_, _, h⟩ := h; cases h; simp
      · split at h
        · rename_i he _; cases h; exact fun p hp => .inl (effA_key he p hp)
        · cases h
      · rename_i hkd
        split at h
        · rename_i he _; cases h; exact fun p hp => (effW_key he p hp).imp id fun h => ⟨hkd, h⟩
        · cases h
theorem chg_get : ∀ {l : List (Nat × Option Blk)} {h : List (Option (Option Blk))} {k : Nat}, (∀ p ∈ l, p.1 ≠ k) → (chg l h)[k]? = h[k]?
  | [], h, k, _ => rfl
  | (k', b) :: r, h, k, hp => by
    simp only [chg]
    rw [chg_get (l := r) fun p hm => hp p (by simp [hm])]
    exact List.getElem?_set_ne (hp (k', b) (by simp))
theorem chg_set : ∀ {l : List (Nat × Option Blk)} {h : List (Option (Option Blk))} {k : Nat} {b}, (∀ p ∈ l, p.1 ≠ k) → chg l (h.set k b) = (chg l h).set k b
  | [], h, k, b, _ => rfl
  | (k', b') :: r, h, k, b, hp => by
    simp only [chg]
    rw [← chg_set (l := r) fun p hm => hp p (by simp [hm])]
    rw [List.set_comm _ _ (Ne.symm (hp (k', b') (by simp)))]
theorem chg_comm : ∀ {l m : List (Nat × Option Blk)} {h : List (Option (Option Blk))}, (∀ p ∈ l, ∀ q ∈ m, p.1 ≠ q.1) → chg m (chg l h) = chg l (chg m h)
  | [], m, h, _ => rfl
  | (k, b) :: r, m, h, hp => by
    simp only [chg]
    rw [chg_comm (l := r) fun p hm => hp p (by simp [hm])]
    rw [chg_set fun q hq => (hp (k, b) (by simp) q hq).symm]
def compat : Kd → Kd → Bool
  | .w, .r => false
  | .r, .w => false
  | .w, .w => false
  | _, _ => true
theorem appl_keeps {ops : Array Oper} {al al' : Nat → Bool} {nk i j : Nat} {s : St} {x y : Oper} {e : AV × List (Nat × Option Blk)} (he : dEff P C ops al nk i s x = some e)
    (hap : ∀ d, x.dst = some d → d ∉ y.looksAt ops) (hc : compat (kd P C x.op) (kd P C y.op) = true ∨ ∀ k, al k = true → al' k = false) (hij : i ≠ j) (hal : al' (nk + i) = false) (halj : al (nk + j) = false) :
    dEff P C ops al' nk j (appl x e s) y = dEff P C ops al' nk j s y := by
  have hslot : ∀ t, t ∈ y.looksAt ops → (appl x e s).slots[t]? = s.slots[t]? := by
    intro t ht
    unfold appl St.put
    cases hd : x.dst with
    | none => rfl
    | some d =>
      have hne : d ≠ t := fun hh => hap d hd (hh ▸ ht)
      simp [List.getElem?_set_ne hne]
  refine dEff_congr ?_ ?_ ?_ ?_
  · intro z hz
    cases z with
    | tmp t => exact hslot t (by unfold Oper.looksAt; simp; exact .inl ⟨.tmp t, by simpa using hz, rfl⟩)
    | const v => rfl
    | global g => rfl
    | func f => rfl
  · unfold St.guard
    cases hg : y.guard with
    | none => rfl
    | some jw =>
      obtain ⟨g, want⟩ := jw
      simp only
      cases hd : (ops[g]?).bind (·.dst) with
      | none => rfl
      | some d =>
        simp only [Option.bind_some]
        rw [hslot d (by unfold Oper.looksAt; simp only [hg, hd]; simp)]
  · intro hk
    funext k
    unfold St.rd
    cases halk : al' k with
    | false => rfl
    | true =>
      simp only [cond_true, appl]
      rw [chg_get]
      intro p hp
      rcases dEff_key he p hp with h1 | ⟨h1, h2⟩
      · rintro rfl; rw [h1, hal] at halk; cases halk
      · rcases hc with hc | hc
        · rw [h1] at hc
          rcases hk with hk | hk <;> rw [hk] at hc <;> cases hc
        · rintro rfl; rw [hc _ h2] at halk; cases halk
  · simp only [appl]
    rw [chg_get]
    intro p hp
    rcases dEff_key he p hp with h1 | ⟨_, h2⟩
    · omega
    · rintro h3; rw [h3, halj] at h2; cases h2
theorem appl_comm {ops : Array Oper} {al al' : Nat → Bool} {nk i j : Nat} {s s' s'' : St} {x y : Oper} {e f : AV × List (Nat × Option Blk)} (he : dEff P C ops al nk i s' x = some e) (hf : dEff P C ops al' nk j s'' y = some f)
    (hd : ∀ d, x.dst = some d → y.dst ≠ some d) (hc : compat (kd P C x.op) (kd P C y.op) = true ∨ ∀ k, al k = true → al' k = false) (hij : i ≠ j) (hal : al' (nk + i) = false) (halj : al (nk + j) = false) :
    appl y f (appl x e s) = appl x e (appl y f s) := by
  have hslots : ((appl x e s).put y.dst f.1).slots = ((appl y f s).put x.dst e.1).slots := by
    unfold appl St.put
    cases hx : x.dst with
    | none => cases y.dst <;> rfl
    | some d =>
      cases hy : y.dst with
      | none => rfl
      | some d' =>
        have hne : d ≠ d' := fun hh => hd d hx (hh ▸ hy)
        simp [List.set_comm _ _ hne]
  have hheap : (appl y f (appl x e s)).heap = (appl x e (appl y f s)).heap := by
    simp only [appl]
    refine chg_comm fun p hp q hq => ?_
    rcases dEff_key he p hp with h1 | ⟨h1, h2⟩ <;> rcases dEff_key hf q hq with h3 | ⟨h3, h4⟩
    · omega
    · intro e; rw [← e, h1, hal] at h4; cases h4
    · intro e; rw [e, h3, halj] at h2; cases h2
    · rcases hc with hc | hc
      · rw [h1, h3] at hc; cases hc
      · intro e; rw [← e, hc _ h2] at h4; cases h4
  have h1 : (appl y f (appl x e s)).slots = ((appl x e s).put y.dst f.1).slots := rfl
  have h2 : (appl x e (appl y f s)).slots = ((appl y f s).put x.dst e.1).slots := rfl
  have : ∀ p q : St, p.slots = q.slots → p.heap = q.heap → p = q := by
    rintro ⟨a1, a2⟩ ⟨b1, b2⟩ h1 h2; simp only at h1 h2; subst h1; subst h2; rfl
  exact this _ _ (by rw [h1, h2, hslots]) hheap
theorem compat_symm (x y : Kd) : compat x y = compat y x := by cases x <;> cases y <;> rfl
theorem dOp_swap {ops : Array Oper} {al al' : Nat → Bool} {nk i j : Nat} {s s1 s2 : St} {x y : Oper} (hx : ops[i]? = some x) (hy : ops[j]? = some y) (hap : x.apart ops y = true) (hc : compat (kd P C x.op) (kd P C y.op) = true ∨ ∀ k, al k = true → al' k = false) (hij : i ≠ j)
    (hal : al' (nk + i) = false) (halj : al (nk + j) = false) (h1 : dOp P C ops al nk i s = some s1) (h2 : dOp P C ops al' nk j s1 = some s2) :
    ∃ s1', dOp P C ops al' nk j s = some s1' ∧ dOp P C ops al nk i s1' = some s2 := by
  have hc' : compat (kd P C y.op) (kd P C x.op) = true ∨ ∀ k, al' k = true → al k = false := by
    refine hc.imp (fun h => by rw [compat_symm]; exact h) fun h k hk => ?_
    cases ha : al k with
    | false => rfl
    | true => rw [h k ha] at hk; cases hk
  obtain ⟨ha1, ha2, ha3⟩ := Oper.apart_spec hap
  rw [dOp_eq, hx] at h1
  simp only [Option.map_eq_some_iff] at h1
  obtain ⟨e, he, rfl⟩ := h1
  rw [dOp_eq, hy] at h2
  simp only [Option.map_eq_some_iff] at h2
  obtain ⟨f, hf, rfl⟩ := h2
  rw [appl_keeps he ha1 hc hij hal halj] at hf
  refine ⟨appl y f s, by rw [dOp_eq, hy]; simp [hf], ?_⟩
  rw [dOp_eq, hx]
  simp only [Option.map_eq_some_iff]
  refine ⟨e, ?_, ?_⟩
  · rw [appl_keeps hf ha3 hc' (Ne.symm hij) halj hal]
    exact he
  · exact (appl_comm he hf ha2 hc hij hal halj).symm
end Go.Ev
namespace Go.Ev
open Go.RowKit
variable {P : Program} {C : Ctx} {B : Nat} {w0 : World}
def depsOf (ops : List Oper) (acc : List Nat) : List Nat :=
  match ops with
  | [] => acc
  | o :: os => depsOf os (acc ++ [o.after.toList.foldl (fun m e => bif Region.binds .any e then m ||| (1 <<< e.on) ||| acc.getD e.on 0 else m) 0])
def closure (ops : Array Oper) : List Nat := depsOf ops.toList []
def clo (ops : Array Oper) (i : Nat) : Nat := (closure ops).getD i 0
def maskOf (cl : Nat → Nat) : List Edge → Nat
  | [] => 0
  | e :: es => bif Region.binds .any e then (1 <<< e.on) ||| cl e.on ||| maskOf cl es else maskOf cl es
def alw (cl : Nat → Nat) (nk i k : Nat) : Bool := decide (k < nk) || (cl i).testBit (k - nk)
def mkOf (p : Nat) : Nat → List Oper → Option (Nat × Oper)
  | _, [] => none
  | j, o :: r => match o.dst with
    | some d => cond (Nat.beq d p) (some (j, o)) (mkOf p (j + 1) r)
    | none => mkOf p (j + 1) r
def rootOf (ops : List Oper) (s : St) (nk : Nat) : Nat → Nat → Option Nat
  | 0, _ => none
  | f + 1, p => match mkOf p 0 ops with
    | some (j, o) => match o.op with
      | .alloc _ => some (nk + j)
      | .fieldAddr _ (.tmp q) _ => rootOf ops s nk f q
      | _ => none
    | none => match s.slots[p]? with
      | some (.one false [.ptr k _]) => some k
      | _ => none
def locOf (ops : List Oper) (s : St) (nk : Nat) (o : Oper) : Option Nat := match o.op with
  | .store _ (.tmp p) _ => rootOf ops s nk 4 p
  | .load _ (.tmp p) => rootOf ops s nk 4 p
  | _ => none
def locs (ops : Array Oper) (s : St) (nk : Nat) : List (Option Nat) := ops.toList.map (locOf ops.toList s nk)
def loc (lc : List (Option Nat)) (i : Nat) : Option Nat := lc.getD i none
def alo (lc : List (Option Nat)) (cl : Nat → Nat) (nk i k : Nat) : Bool := match loc lc i with
  | some j => Nat.beq k j && alw cl nk i j
  | none => alw cl nk i k
theorem alo_le {lc : List (Option Nat)} {cl : Nat → Nat} {nk i k : Nat} (h : alo lc cl nk i k = true) : alw cl nk i k = true := by
  unfold alo at h
  split at h
  · rename_i j _
    simp only [Bool.and_eq_true] at h
    have := Nat.eq_of_beq_eq_true h.1
    subst this
    exact h.2
  · exact h
theorem alo_no {lc : List (Option Nat)} {cl : Nat → Nat} {nk i j : Nat} (h : (cl i).testBit j = false) : alo lc cl nk i (nk + j) = false := by
  cases ha : alo lc cl nk i (nk + j) with
  | false => rfl
  | true =>
    have := alo_le ha
    simp [alw, h] at this
    omega
def disj (lc : List (Option Nat)) (cl : Nat → Nat) (nk i j : Nat) : Bool := match loc lc i, loc lc j with
  | some a, some b => !Nat.beq a b
  | some a, none => !alw cl nk j a
  | none, some b => !alw cl nk i b
  | none, none => false
theorem disj_spec {lc : List (Option Nat)} {cl : Nat → Nat} {nk i j : Nat} (h : disj lc cl nk i j = true) (k : Nat) (hk : alo lc cl nk i k = true) : alo lc cl nk j k = false := by
  unfold disj at h
  unfold alo at hk ⊢
  split at h
  · rename_i a b h1 h2
    rw [h1] at hk; rw [h2]
    simp only [Bool.and_eq_true] at hk
    have := Nat.eq_of_beq_eq_true hk.1
    subst this
    simp only [Bool.not_eq_true'] at h
    simp [h]
  · rename_i a h1 h2
    rw [h1] at hk; rw [h2]
    simp only [Bool.and_eq_true] at hk
    have := Nat.eq_of_beq_eq_true hk.1
    subst this
    simpa using h
  · rename_i b h1 h2
    rw [h1] at hk; rw [h2]
    cases hb : Nat.beq k b with
    | false => simp [hb]
    | true =>
      have := Nat.eq_of_beq_eq_true hb
      subst this
      simp only at hk
      rw [hk] at h
      cases h
  · cases h
def regOK (P : Program) (C : Ctx) (ops : Array Oper) (cl : List Nat) (lc : List (Option Nat)) (nk : Nat) : Bool :=
  (List.range ops.size).all fun i => match ops[i]? with
    | none => false
    | some o => ((cl.getD i 0) == maskOf (fun k => cl.getD k 0) o.after.toList) && (o.after.toList.all fun e => !Region.binds .any e || decide (e.on < i)) &&
        (List.range i).all fun j => (cl.getD i 0).testBit j || match ops[j]? with
          | none => false
          | some x => x.apart ops o && (compat (kd P C x.op) (kd P C o.op) || disj lc (fun k => cl.getD k 0) nk j i)
structure RegOK (P : Program) (C : Ctx) (ops : Array Oper) (cl : Nat → Nat) (lc : List (Option Nat)) (nk : Nat) : Prop where
  lt : ∀ i o, ops[i]? = some o → ∀ e ∈ o.after.toList, Region.binds .any e = true → e.on < i
  gen : ∀ i o, ops[i]? = some o → cl i = maskOf cl o.after.toList
  ind : ∀ i j x y, ops[i]? = some x → ops[j]? = some y → j < i → (cl i).testBit j = false → y.apart ops x = true ∧ (compat (kd P C y.op) (kd P C x.op) = true ∨ disj lc cl nk j i = true)
theorem maskOf_bit {cl : Nat → Nat} {j : Nat} : ∀ {es : List Edge}, (maskOf cl es).testBit j = true → ∃ e ∈ es, Region.binds .any e = true ∧ (j = e.on ∨ (cl e.on).testBit j = true)
  | [], h => by simp [maskOf] at h
  | e :: es, h => by
    simp only [maskOf] at h
    cases hb : Region.binds .any e with
    | false =>
      rw [hb] at h
      obtain ⟨e', he', h'⟩ := maskOf_bit h
      exact ⟨e', by simp [he'], h'⟩
    | true =>
      rw [hb] at h
      simp only [cond_true, Nat.testBit_or, Bool.or_eq_true] at h
      rcases h with (h | h) | h
      · refine ⟨e, by simp, hb, .inl ?_⟩
        rw [Nat.one_shiftLeft, Nat.testBit_two_pow] at h
        simpa using (of_decide_eq_true h).symm
      · exact ⟨e, by simp, hb, .inr h⟩
      · obtain ⟨e', he', h'⟩ := maskOf_bit h
        exact ⟨e', by simp [he'], h'⟩
theorem regOK_spec {ops : Array Oper} {cl : List Nat} {lc : List (Option Nat)} {nk : Nat} (h : regOK P C ops cl lc nk = true) : RegOK P C ops (fun i => cl.getD i 0) lc nk := by
  have key : ∀ i o, ops[i]? = some o → cl.getD i 0 = maskOf (fun k => cl.getD k 0) o.after.toList ∧ (∀ e ∈ o.after.toList, Region.binds .any e = true → e.on < i) ∧
      ∀ j, j < i → (cl.getD i 0).testBit j = false → ∀ y, ops[j]? = some y → y.apart ops o = true ∧ (compat (kd P C y.op) (kd P C o.op) = true ∨ disj lc (fun k => cl.getD k 0) nk j i = true) := by
    intro i o ho
    have hi : i < ops.size := by
      rcases Nat.lt_or_ge i ops.size with h' | h'
      · exact h'
      · simp [Array.getElem?_eq_none h'] at ho
    have h1 := List.all_eq_true.1 h i (List.mem_range.2 hi)
    rw [ho] at h1
    simp only [Bool.and_eq_true, beq_iff_eq] at h1
    refine ⟨h1.1.1, fun e he hb => ?_, fun j hj hbit y hy => ?_⟩
    · have := List.all_eq_true.1 h1.1.2 e he
      simpa [hb] using this
    · have := List.all_eq_true.1 h1.2 j (List.mem_range.2 hj)
      rw [hy] at this
      simp only [hbit, Bool.false_or, Bool.and_eq_true, Bool.or_eq_true] at this
      exact this
  exact ⟨fun i o ho => (key i o ho).2.1, fun i o ho => (key i o ho).1, fun i j x y hx hy hji hbit => (key i x hx).2.2 j hji hbit y hy⟩
theorem RegOK.bit_lt {ops : Array Oper} {cl : Nat → Nat} {lc : List (Option Nat)} {nk : Nat} (hR : RegOK P C ops cl lc nk) : ∀ (n i : Nat), i ≤ n → i < ops.size → ∀ j, (cl i).testBit j = true → j < i
  | n, i, hin, hi, j, hj => by
    have ho : ops[i]? = some ops[i] := by simp [hi]
    rw [hR.gen i _ ho] at hj
    obtain ⟨e, he, hb, h⟩ := maskOf_bit hj
    have hlt := hR.lt i _ ho e he hb
    rcases h with rfl | h
    · exact hlt
    · cases n with
      | zero => omega
      | succ n =>
        have := hR.bit_lt n e.on (by omega) (by omega) j h
        omega
theorem front {ops : Array Oper} {cl : Nat → Nat} {lc : List (Option Nat)} {nk : Nat} (hR : RegOK P C ops cl lc nk) {i : Nat} {x : Oper} (hx : ops[i]? = some x) :
    ∀ {pre : List Nat} {post : List Nat} {s F : St}, (∀ j ∈ pre, j < i ∧ (cl i).testBit j = false) → (∀ j ∈ pre, (cl j).testBit i = false) → dRun P C ops (alo lc cl nk) nk (pre ++ i :: post) s = some F →
    ∃ s1, dOp P C ops (alo lc cl nk i) nk i s = some s1 ∧ dRun P C ops (alo lc cl nk) nk (pre ++ post) s1 = some F
  | [], post, s, F, _, _, h => by
    simp only [List.nil_append, dRun] at h ⊢
    split at h
    · rename_i s1 h1; exact ⟨s1, h1, h⟩
    · cases h
  | j :: pre, post, s, F, hp, hq, h => by
    simp only [List.cons_append, dRun] at h
    split at h
    · rename_i s1 h1
      obtain ⟨s2, h2, h3⟩ := front hR hx (fun k hk => hp k (by simp [hk])) (fun k hk => hq k (by simp [hk])) h
      obtain ⟨hji, hbit⟩ := hp j (by simp)
      have hbit' := hq j (by simp)
      have hyj : ∃ y, ops[j]? = some y := by
        unfold dOp at h1
        cases hy : ops[j]? with
        | none => rw [hy] at h1; cases h1
        | some y => exact ⟨y, rfl⟩
      obtain ⟨y, hy⟩ := hyj
      have hind := hR.ind i j x y hx hy hji hbit
      obtain ⟨s1', h4, h5⟩ := dOp_swap hy hx hind.1 (hind.2.imp id fun h => disj_spec h) (by omega) (alo_no hbit) (alo_no hbit') h1 h2
      refine ⟨s1', h4, ?_⟩
      simp only [List.cons_append, dRun, h5]
      exact h3
    · cases h
def left (n : Nat) (listed : Array Bool) : List Nat := (List.range n).filter fun i => !listed.getD i true
theorem wpAny_of_run (hC : CtxOK P C) {ops : Array Oper} {cl : Nat → Nat} {lc : List (Option Nat)} {nk : Nat} (hR : RegOK P C ops cl lc nk) {Q : Exit → Act → World → Prop} : ∀ (fuel : Nat) (listed : Array Bool) (E : Env) (s : St) (a : Act) (w : World) (F : St),
    listed.size = ops.size → (left ops.size listed).length ≤ fuel → (∀ i, i < ops.size → listed.getD i true = true → ∀ j, (cl i).testBit j = true → listed.getD j true = true) →
    Rel C B w0 E s a w → dRun P C ops (alo lc cl nk) nk (left ops.size listed) s = some F → (∀ E' a' w', Rel C B w0 E' F a' w' → Q .normal a' w') → wpAny P .any ops Q fuel listed a w := by
  have hready : ∀ (listed : Array Bool), listed.size = ops.size → Region.ready .any ops listed = [] → left ops.size listed = [] := by
    intro listed hsz hr
    cases hl : left ops.size listed with
    | nil => rfl
    | cons i rest =>
      exfalso
      have hi : i ∈ left ops.size listed := by rw [hl]; simp
      simp only [left, List.mem_filter, List.mem_range, Bool.not_eq_true'] at hi
      -- all before i are listed
      have hbefore : ∀ j, j < i → listed.getD j true = true := by
        intro j hj
        cases hb : listed.getD j true with
        | true => rfl
        | false =>
          have hjm : j ∈ left ops.size listed := by simp only [left, List.mem_filter, List.mem_range, Bool.not_eq_true']; exact ⟨by omega, hb⟩
          have hsorted : (left ops.size listed).Pairwise (· < ·) := List.Pairwise.filter _ List.pairwise_lt_range
          rw [hl] at hsorted hjm
          rcases List.mem_cons.1 hjm with rfl | h
          · omega
          · have := (List.pairwise_cons.1 hsorted).1 j h; omega
      have hmem : i ∈ Region.ready .any ops listed := by
        unfold Region.ready
        simp only [List.mem_filter, List.mem_range, Bool.and_eq_true, Bool.not_eq_true']
        refine ⟨hi.1, hi.2, ?_⟩
        have ho : ops[i]? = some ops[i] := by simp [hi.1]
        rw [ho]
        simp only [Option.map_some, Option.getD_some]
        rw [Array.all_eq_true']
        intro e he
        cases hb : Region.binds .any e with
        | false => rfl
        | true =>
          have hlt := hR.lt i _ ho e (by simpa using he) hb
          have := hbefore e.on hlt
          have hs : e.on < listed.size := by omega
          simp only [Bool.not_true, Bool.false_or]
          simp [Array.getD, hs] at this ⊢
          exact this
      rw [hr] at hmem
      cases hmem
  intro fuel
  induction fuel with
  | zero =>
    intro listed E s a w F hsz hfuel hdown h hrun hQ
    have hl : left ops.size listed = [] := List.length_eq_zero_iff.1 (by omega)
    rw [hl] at hrun
    cases hrun
    refine ⟨?_, hQ _ _ _ h⟩
    unfold Region.ready
    rw [List.filter_eq_nil_iff]
    intro i hi hcond
    simp only [Bool.and_eq_true] at hcond
    have : i ∈ left ops.size listed := by simp only [left, List.mem_filter]; exact ⟨hi, hcond.1⟩
    rw [hl] at this
    cases this
  | succ fuel ih =>
    intro listed E s a w F hsz hfuel hdown h hrun hQ
    refine ⟨fun hr => ?_, fun i hi => ?_⟩
    · rw [hready listed hsz hr] at hrun
      cases hrun
      exact hQ _ _ _ h
    · unfold Region.ready at hi
      simp only [List.mem_filter, List.mem_range, Bool.and_eq_true, Bool.not_eq_true'] at hi
      obtain ⟨hin, hnl, hdeps⟩ := hi
      have ho : ops[i]? = some ops[i] := by simp [hin]
      rw [ho] at hdeps
      simp only [Option.map_some, Option.getD_some] at hdeps
      have hdeps' : ∀ e ∈ ops[i].after.toList, Region.binds .any e = true → listed.getD e.on false = true := by
        intro e he hb
        have := (Array.all_eq_true'.1 hdeps) e (by simpa using he)
        simpa [hb] using this
      have hgd : ∀ j, listed.getD j false = true → listed.getD j true = true := by
        intro j hj
        by_cases hs : j < listed.size <;> simp [Array.getD, hs] at hj ⊢
        exact hj
      have hclo : ∀ j, (cl i).testBit j = true → listed.getD j true = true := by
        intro j hj
        rw [hR.gen i _ ho] at hj
        obtain ⟨e, he, hb, h'⟩ := maskOf_bit hj
        have hl := hgd _ (hdeps' e he hb)
        rcases h' with rfl | h'
        · exact hl
        · have hlt := hR.lt i _ ho e he hb
          exact hdown e.on (by omega) hl j h'
      have him : i ∈ left ops.size listed := by simp only [left, List.mem_filter, List.mem_range, Bool.not_eq_true']; exact ⟨hin, hnl⟩
      obtain ⟨pre, post, hpp⟩ := List.append_of_mem him
      have hsorted : (left ops.size listed).Pairwise (· < ·) := List.Pairwise.filter _ List.pairwise_lt_range
      rw [hpp] at hsorted
      have hpre : ∀ j ∈ pre, j < i := fun j hj => (List.pairwise_append.1 hsorted).2.2 j hj i (by simp)
      have hpost : ∀ j ∈ post, i < j := fun j hj => (List.pairwise_cons.1 (List.pairwise_append.1 hsorted).2.1).1 j hj
      have hunl : ∀ j ∈ pre, listed.getD j true = false := by
        intro j hj
        have : j ∈ left ops.size listed := by rw [hpp]; simp [hj]
        simp only [left, List.mem_filter, Bool.not_eq_true'] at this
        exact this.2
      rw [hpp] at hrun
      obtain ⟨s1, h1, h2⟩ := front hR ho (fun j hj => ⟨hpre j hj, by
          cases hb : (cl i).testBit j with
          | false => rfl
          | true => have := hclo j hb; rw [hunl j hj] at this; cases this⟩)
        (fun j hj => by
          cases hb : (cl j).testBit i with
          | false => rfl
          | true => have := hR.bit_lt j j (Nat.le_refl _) (by have := hpre j hj; omega) i hb; have := hpre j hj; omega) hrun
      have hget : ∀ k, (listed.setIfInBounds i true).getD k true = if k = i then true else listed.getD k true := by
        intro k
        by_cases hk : k = i
        · subst hk
          have : k < listed.size := by omega
          simp [Array.getD, this]
        · rw [if_neg hk]
          by_cases hs : k < listed.size
          · simp [Array.getD, hs, Ne.symm hk]
          · simp [Array.getD, hs]
      have hleft : left ops.size (listed.setIfInBounds i true) = pre ++ post := by
        have e1 : left ops.size (listed.setIfInBounds i true) = (left ops.size listed).filter (fun k => k != i) := by
          simp only [left, List.filter_filter]
          refine List.filter_congr fun k _ => ?_
          rw [hget k]
          by_cases hk : k = i
          · simp [hk]
          · simp [hk]
        rw [e1, hpp, List.filter_append, List.filter_cons]
        simp only [bne_self_eq_false, Bool.false_eq_true, if_false]
        rw [List.filter_eq_self.2, List.filter_eq_self.2]
        · intro k hk; have := hpost k hk; simp; omega
        · intro k hk; have := hpre k hk; simp; omega
      refine dOp_sound hC h h1 fun E' a' w' h' => ih _ E' s1 a' w' F (by simpa using hsz) ?_ ?_ h' (by rw [hleft]; exact h2) hQ
      · rw [hleft]
        have : (left ops.size listed).length = (pre ++ i :: post).length := by rw [hpp]
        simp at this ⊢
        omega
      · intro k hk hkl j hj
        rw [hget] at hkl ⊢
        by_cases hji : j = i
        · rw [if_pos hji]
        · rw [if_neg hji]
          by_cases hki : k = i
          · subst hki; exact hclo j hj
          · rw [if_neg hki] at hkl
            exact hdown k hk hkl j hj
theorem region_draw (hm : P.follows .mixedOrders = true) (hC : CtxOK P C) {ops : Array Oper} {cl : List Nat} {lc : List (Option Nat)} {nk : Nat} (hR : regOK P C ops cl lc nk = true) {id : Nat} {Q : Exit → Act → World → Prop} {E : Env} {s : St} {a : Act} {w : World} {F : St}
    (h : Rel C B w0 E s a w) (hrun : dRun P C ops (alo lc (fun i => cl.getD i 0) nk) nk (List.range ops.size) s = some F) (hQ : ∀ β' a' w', Rel C B w0 β' F a' w' → Q .normal a' w') : (Code.region id ops true).wp P Q a w := by
  have hl : left ops.size (Array.replicate ops.size false) = List.range ops.size := by
    unfold left
    rw [List.filter_eq_self]
    intro i hi
    have := List.mem_range.1 hi
    simp [Array.getD, this]
  refine wp_region_any hm (wpAny_of_run hC (regOK_spec hR) ops.size _ E s a _ F (by simp) (by rw [hl]; simp) ?_ h.drew (by rw [hl]; exact hrun) hQ)
  intro i hi h0
  simp [Array.getD, hi] at h0
end Go.Ev
