/- Lists of integers as arguments of a row. Holds for every program of the model. -/
import Derived.Test.YtgaapeaclbpaeaaEvK
import Derived.ChangeSlices
namespace Go.Ev
open Go.RowKit Go.ChangeShapes Go.WideShapes
variable {P : Program}
/-! ### Lists as a row's arguments -/
def okInts (k : IntKind) (l : List Int) : Prop := l.length ≤ maxLen ∧ ∀ n ∈ l, (Lit.int k n).wf = true
theorem opens_ints {t e : TypeId} {k : IntKind} (ht : P.underlying t = some (.slice e)) (he : P.underlying e = some (.int k)) (hc : P.cellsOf e = 1) : Opens P t (cInts k) (okInts k) := by
  intro H enc W base v d ps hv hd
  obtain ⟨a0, len0, cap0, rfl⟩ := Go.WideShapes.okWide_slice ht hv
  obtain ⟨n, hn⟩ := hd
  rcases open_ints ht he hc hn with ⟨h1, _⟩ | ⟨a, len, cap, zs, h1, _, hlc, hcm, hzl, _, hcell, hwf⟩
  · have : Value.slice a0 len0 cap0 = .slice none 0 0 := by simpa [Value.cells] using h1
    rw [this]
    exact ⟨[], ⟨Nat.zero_le _, fun n h => by cases h⟩, list_in (nil_list rfl)⟩
  · have hs : Value.slice a0 len0 cap0 = .slice (some a) len cap := by simpa [Value.cells] using h1
    rw [hs]
    simp only [if_true] at hzl
    have hlen : (zs.take len).length = len := by simp; omega
    refine ⟨zs.take len, ⟨by omega, fun n h => hwf n (List.mem_of_mem_take h)⟩, list_in ⟨some a, cap, by simp [VL.len, hlen], by simp [VL.len]; omega, fun h => by (cases h), ?_⟩⟩
    by_cases h0 : len = 0
    · left; simp [VL.len, h0]
    · right
      have c0 := hcell 0 (by omega)
      have hsp : a.spot = none := by simpa [Addr.add] using World.cell?_spot c0
      obtain ⟨b, off, spot⟩ := a
      simp only at hsp
      subst hsp
      refine ⟨b, off, rfl, trivial, ?_, fun i hi => RdX.at rfl fun j c hj => ?_⟩
      · simp only [World.cell?, Addr.add] at c0
        split at c0
        · rename_i h; exact heap_get_lt h
        · cases c0
      · have hi' : i < len := by simpa [VL.len, hlen] using hi
        have hci := hcell i (by omega)
        simp only [VL.at] at hj
        rcases j with _ | j
        · simp only [List.getElem?_cons_zero, Option.some.injEq] at hj
          subst hj
          have e : (⟨b, off, none⟩ : Addr).add i = ⟨b, off + i, none⟩ := by
            unfold Addr.add; split
            · rename_i h; subst h; rfl
            · rfl
          rw [e] at hci
          simp only [VL.wd, Nat.mul_one, Nat.add_zero, SV.exact]
          rw [hci]
          simp [List.getD, hi']
        · simp at hj
end Go.Ev
