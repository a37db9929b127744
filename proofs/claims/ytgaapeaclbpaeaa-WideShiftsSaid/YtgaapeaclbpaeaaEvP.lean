/- Arguments of a row, cell by cell. Holds for every program of the model. -/
import Derived.Test.YtgaapeaclbpaeaaEvN
import Derived.Test.YtgaapeaclbpaeaaTyW
namespace Go.Ev
open Go.RowKit Go.ChangeShapes Go.WideShapes
variable {P : Program}

/-! ### A row's arguments, cell by cell -/
abbrev AnyB : Nat → Prop := fun _ => True
def OpensR (P : Program) (t : TypeId) {α : Type} (enc : α → List SV) (ok : α → Prop) : Prop :=
  ∀ (H : Type) (henc : TypeId × Value → H) (W : World) (n : Nat) (cs : List Value) (x : DataW H × List MemPlace), DataW.trod henc P W 0 (fun _ => true) true n t cs = some x → ∃ y, ok y ∧ AllR (CellIn AnyB W) (enc y) cs
theorem opensR_int {t : TypeId} {k : IntKind} (ht : P.underlying t = some (.int k)) : OpensR P t (fun n => [.int k n]) (okInt k) := by
  intro H henc W n cs x h
  obtain ⟨b, rfl, _, hw⟩ := DataW.trod_int ht h
  exact ⟨b, hw, AllR.cons rfl AllR.nil⟩
theorem opensR_bool {t : TypeId} (ht : P.underlying t = some .bool) : OpensR P t (fun b => [.bool b]) fun _ => True := by
  intro H henc W n cs x h
  obtain ⟨b, rfl, _⟩ := DataW.trod_bool ht h
  exact ⟨b, trivial, AllR.cons rfl AllR.nil⟩
theorem add_none {b off i : Nat} : (⟨b, off, none⟩ : Addr).add i = ⟨b, off + i, none⟩ := by
  unfold Addr.add; split
  · rename_i h; subst h; rfl
  · rfl
theorem opensR_ints {t e : TypeId} {k : IntKind} (ht : P.underlying t = some (.slice e)) (he : P.underlying e = some (.int k)) (hc : P.cellsOf e = 1) : OpensR P t (fun l => [.vec false (.int k l)]) (okInts k) := by
  intro H henc W n cs x h
  rcases open_ints ht he hc h with ⟨rfl, _⟩ | ⟨a, len, cap, zs, rfl, _, hlc, hcm, hzl, _, hcell, hwf⟩
  · exact ⟨[], ⟨Nat.zero_le _, fun n h => by cases h⟩, AllR.cons (VecG.in (fr := false) rfl (nil_G rfl)) AllR.nil⟩
  · simp only [if_true] at hzl
    have hlen : (zs.take len).length = len := by simp; omega
    refine ⟨zs.take len, ⟨by omega, fun n h => hwf n (List.mem_of_mem_take h)⟩, AllR.cons ⟨rfl, some a, cap, by simp [VL.len, hlen], by simp [VL.len]; omega, fun h => by (cases h), ?_⟩ AllR.nil⟩
    by_cases h0 : len = 0
    · left; simp [VL.len, h0]
    · right
      have c0 := hcell 0 (by omega)
      have hsp : a.spot = none := by simpa [Addr.add] using World.cell?_spot c0
      obtain ⟨b, off, spot⟩ := a
      simp only at hsp
      subst hsp
      refine ⟨b, off, rfl, trivial, ?_, fun i hi j c hj => ?_⟩
      · simp only [World.cell?, Addr.add] at c0
        split at c0
        · rename_i h; exact heap_get_lt h
        · cases c0
      · have hi' : i < len := by simpa [VL.len, hlen] using hi
        have hci := hcell i (by omega)
        simp only [VL.at] at hj
        rcases j with _ | j
        · simp only [List.getElem?_cons_zero, Option.some.injEq] at hj
          subst hj
          rw [add_none] at hci
          simp only [VL.wd, Nat.mul_one, Nat.add_zero, SV.exact]
          rw [hci]
          simp [List.getD, hi']
        · simp at hj
theorem opensR_struct2 {t : TypeId} {f0 f1 : Field} {α β : Type} {c0 : α → List SV} {c1 : β → List SV} {ok0 : α → Prop} {ok1 : β → Prop} (ht : P.underlying t = some (.struct #[f0, f1]))
    (h0 : OpensR P f0.type c0 ok0) (h1 : OpensR P f1.type c1 ok1) (ho : f0.offset = 0 ∧ f1.offset = P.cellsOf f0.type ∧ P.cellsOf t = P.cellsOf f0.type + P.cellsOf f1.type) :
    OpensR P t (fun x : α × β => c0 x.1 ++ c1 x.2) fun x => ok0 x.1 ∧ ok1 x.2 := by
  intro H henc W n cs x h
  obtain ⟨y0, y1, m, _, hl, e0, e1⟩ := trod_struct2 ht h
  obtain ⟨x0, k0, hc0⟩ := h0 _ _ _ _ _ _ e0
  obtain ⟨x1, k1, hc1⟩ := h1 _ _ _ _ _ _ e1
  refine ⟨(x0, x1), ⟨k0, k1⟩, ?_⟩
  have := hc0.app hc1
  rw [ho.1, ho.2.1, List.drop_zero] at this
  rw [ho.2.2] at hl
  have e : (cs.drop (P.cellsOf f0.type)).take (P.cellsOf f1.type) = cs.drop (P.cellsOf f0.type) := List.take_of_length_le (by simp; omega)
  rw [e, List.take_append_drop] at this
  exact this
theorem opensR_struct3 {t : TypeId} {f0 f1 f2 : Field} {α β γ : Type} {c0 : α → List SV} {c1 : β → List SV} {c2 : γ → List SV} {ok0 : α → Prop} {ok1 : β → Prop} {ok2 : γ → Prop} (ht : P.underlying t = some (.struct #[f0, f1, f2]))
    (h0 : OpensR P f0.type c0 ok0) (h1 : OpensR P f1.type c1 ok1) (h2 : OpensR P f2.type c2 ok2)
    (ho : f0.offset = 0 ∧ f1.offset = P.cellsOf f0.type ∧ f2.offset = P.cellsOf f0.type + P.cellsOf f1.type ∧ P.cellsOf t = P.cellsOf f0.type + P.cellsOf f1.type + P.cellsOf f2.type) :
    OpensR P t (fun x : α × β × γ => c0 x.1 ++ (c1 x.2.1 ++ c2 x.2.2)) fun x => ok0 x.1 ∧ ok1 x.2.1 ∧ ok2 x.2.2 := by
  intro H henc W n cs x h
  obtain ⟨y0, y1, y2, m, _, hl, e0, e1, e2⟩ := Go.Deep.trod_struct3 ht h
  obtain ⟨x0, k0, hc0⟩ := h0 _ _ _ _ _ _ e0
  obtain ⟨x1, k1, hc1⟩ := h1 _ _ _ _ _ _ e1
  obtain ⟨x2, k2, hc2⟩ := h2 _ _ _ _ _ _ e2
  refine ⟨(x0, x1, x2), ⟨k0, k1, k2⟩, ?_⟩
  have := hc0.app (hc1.app hc2)
  rw [ho.1, ho.2.1, ho.2.2.1, List.drop_zero] at this
  rw [ho.2.2.2] at hl
  have e : (cs.drop (P.cellsOf f0.type + P.cellsOf f1.type)).take (P.cellsOf f2.type) = cs.drop (P.cellsOf f0.type + P.cellsOf f1.type) := List.take_of_length_le (by simp; omega)
  rw [e, ← List.drop_drop, List.take_append_drop, List.take_append_drop] at this
  exact this
theorem cell_rel {C : Ctx} {E : Env} {w : World} {c : SV} {v : Value} (hc : SV.plain c = true ∨ ∃ fr xs, c = .vec fr xs) (hE : ∀ n, AnyB n → E.G false n) (h : CellIn AnyB w c v) : SV.rel C E w c.weak v := by
  rcases hc with hp | ⟨fr, xs, rfl⟩
  · have := cell_exact hp h
    subst this
    cases c <;> simp only [SV.plain, Bool.false_eq_true] at hp <;> rfl
  · exact (VecG.mono (VecIn.toG (fr := false) h) (fun b _ _ => hE b trivial) (Nat.le_refl _) (fun _ _ _ _ h => h)).flag
/-- a struct of such cells, by value -/
theorem opens_cells {t : TypeId} {fs : Array Field} (ht : P.underlying t = some (.struct fs)) {α β : Type} {enc : α → List SV} {ok : α → Prop} (h : OpensR P t enc ok) {c : Cod β} {ok' : β → Prop} (to : α → β)
    (hc : ∀ x, c.enc false (to x) = .one true (enc x)) (hw : ∀ x, ∀ s ∈ enc x, (SV.plain s = true ∨ ∃ fr xs, s = .vec fr xs) ∧ s.weak = s) (hk : ∀ x, ok x → ok' (to x)) : Opens P t c ok' := by
  intro H henc W base v d ps hv hd
  obtain ⟨cs, rfl, _⟩ := okWide_struct ht hv
  obtain ⟨n, hn⟩ := hd
  obtain ⟨x, hx, hcs⟩ := h _ _ _ _ _ _ hn
  refine ⟨to x, hk x hx, fun C E hE => ?_⟩
  rw [hc]
  refine ⟨cs, rfl, ?_⟩
  have hcs' : AllR (CellIn AnyB W) (enc x) cs.toList := by simpa [Value.cells] using hcs
  refine hcs'.mono fun s u hs hu => ?_
  have := cell_rel (C := C) (hw x s hs).1 hE hu
  rwa [(hw x s hs).2] at this
/-- a list of such rows -/
theorem opens_rows {t e : TypeId} (ht : P.underlying t = some (.slice e)) {α : Type} {enc : α → List SV} {ok : α → Prop} (h : OpensR P e enc ok) {ks : List Ct} (toCv : α → List Cv) (hrow : ∀ y, rowCells false ks (toCv y) = enc y) (hn : P.cellsOf e = ks.length) (h0 : 0 < ks.length) :
    Opens P t (cRow ks) fun l => l.length ≤ maxLen ∧ ∀ r ∈ l, ∃ y, ok y ∧ r = toCv y := by
  intro H henc W base v d ps hv hd
  obtain ⟨a0, len0, cap0, rfl⟩ := Go.WideShapes.okWide_slice ht hv
  obtain ⟨n, hn'⟩ := hd
  rcases DataW.trod_slice ht hn' with ⟨hcs, _⟩ | ⟨a, len, cap, elems, rest, m, _, hcs, _, _, hlc, hcm, hlen, hel, _, _⟩
  · have : Value.slice a0 len0 cap0 = .slice none 0 0 := by simpa [Value.cells] using hcs
    rw [this]
    exact ⟨[], ⟨Nat.zero_le _, fun n h => by cases h⟩, list_in (nil_list rfl)⟩
  · have hs : Value.slice a0 len0 cap0 = .slice (some a) len cap := by simpa [Value.cells] using hcs
    rw [hs]
    have each : ∀ i, i < len → ∃ y, ok y ∧ ∀ j c, (enc y)[j]? = some c → ∃ u, W.cell? ((a.add (i * ks.length)).add j) = some u ∧ CellIn AnyB W c u := by
      intro i hi
      have hb := hel i hi
      rw [List.getElem?_eq_getElem (by omega), hn, Option.bind_eq_some_iff] at hb
      obtain ⟨cs, hc, hy⟩ := hb
      obtain ⟨y, hy1, hy2⟩ := h _ _ _ _ _ _ hy
      refine ⟨y, hy1, fun j c hj => ?_⟩
      obtain ⟨u, hu, hr⟩ := hy2.get hj
      have hl : (enc y).length = ks.length := by rw [← hrow, rowCells_length]
      have hjl := list_get_lt hj
      have := (World.cells?_some hc).2.2 j (by omega)
      exact ⟨u, by rw [this]; exact hu, hr⟩
    let f : Nat → List Cv := fun i => if hi : i < len then toCv (each i hi).choose else []
    have hf : ∀ i, i < len → ∃ y, ok y ∧ f i = toCv y ∧ ∀ j c, (enc y)[j]? = some c → ∃ u, W.cell? ((a.add (i * ks.length)).add j) = some u ∧ CellIn AnyB W c u := by
      intro i hi
      exact ⟨(each i hi).choose, (each i hi).choose_spec.1, by simp only [f, dif_pos hi], (each i hi).choose_spec.2⟩
    refine ⟨(List.range len).map f, ⟨by simp; omega, fun r hr => ?_⟩, ?_⟩
    · obtain ⟨i, hi, rfl⟩ := List.mem_map.1 hr
      obtain ⟨y, h1, h2, _⟩ := hf i (List.mem_range.1 hi)
      exact ⟨y, h1, h2⟩
    · refine list_in (xs := .row ks ((List.range len).map f)) ⟨some a, cap, by simp [VL.len], by simp [VL.len]; omega, fun h => by (cases h), ?_⟩
      by_cases hz : len = 0
      · left; simp [VL.len, hz]
      · right
        obtain ⟨y, _, _, hy⟩ := hf 0 (by omega)
        have hl : (enc y).length = ks.length := by rw [← hrow, rowCells_length]
        obtain ⟨u, hu, _⟩ := hy 0 ((enc y)[0]'(by omega)) (List.getElem?_eq_getElem (by omega))
        have hsp : a.spot = none := by simpa [Addr.add] using World.cell?_spot hu
        obtain ⟨b, off, spot⟩ := a
        simp only at hsp
        subst hsp
        rw [add_none, add_none] at hu
        refine ⟨b, off, rfl, trivial, cell_lt hu, fun i hi j c hj => ?_⟩
        have hi' : i < len := by simpa [VL.len] using hi
        obtain ⟨y, h1, h2, h3⟩ := hf i hi'
        have hat : (VL.row ks ((List.range len).map f)).at false i = enc y := by
          simp only [VL.at]
          rw [← hrow, ← h2]
          simp [List.getD, hi']
        rw [hat] at hj
        obtain ⟨u, g1, g2⟩ := h3 j c hj
        rw [add_none, add_none] at g1
        exact ⟨u, g1, g2⟩
end Go.Ev
