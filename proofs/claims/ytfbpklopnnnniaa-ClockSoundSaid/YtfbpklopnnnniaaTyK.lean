/- The program's struct types as arguments of a row. -/
import Derived.Test.YtfbpklopnnnniaaTy
import Derived.Test.YtfbpklopnnnniaaEvK
namespace Go.Ev
open Go.Fb
def okI3 (s : I3) : Prop := okInt .i64 s.lo ∧ okInt .i64 s.hi
def okCK (s : CK) : Prop := okI3 s.d ∧ okI3 s.p
theorem opens_I3 {P : Program} {t : TypeId} {f0 f1 f2 : Field} (ht : P.underlying t = some (.struct #[f0, f1, f2])) (h0 : P.underlying f0.type = some .bool) (h1 : P.underlying f1.type = some (.int .i64)) (h2 : P.underlying f2.type = some (.int .i64))
    (ho : f0.offset = 0 ∧ f1.offset = P.cellsOf f0.type ∧ f2.offset = P.cellsOf f0.type + P.cellsOf f1.type ∧ P.cellsOf t = P.cellsOf f0.type + P.cellsOf f1.type + P.cellsOf f2.type) : Opens P t cI3 okI3 :=
  opens_struct ht (opensC_struct3 ht (opensC_bool h0) (opensC_int h1) (opensC_int h2) ho) (fun x => ⟨x.1, x.2.1, x.2.2⟩) (fun _ => rfl) fun _ h => ⟨h.2.1, h.2.2⟩
theorem opens_CK {P : Program} {t u : TypeId} {f0 f1 f2 : Field} {g0 g1 : Field} (hg0 : g0.type = u) (hg1 : g1.type = u) (ht : P.underlying t = some (.struct #[g0, g1])) (hu : P.underlying u = some (.struct #[f0, f1, f2]))
    (h0 : P.underlying f0.type = some .bool) (h1 : P.underlying f1.type = some (.int .i64)) (h2 : P.underlying f2.type = some (.int .i64))
    (ho : f0.offset = 0 ∧ f1.offset = P.cellsOf f0.type ∧ f2.offset = P.cellsOf f0.type + P.cellsOf f1.type ∧ P.cellsOf u = P.cellsOf f0.type + P.cellsOf f1.type + P.cellsOf f2.type)
    (hp : g0.offset = 0 ∧ g1.offset = P.cellsOf g0.type ∧ P.cellsOf t = P.cellsOf g0.type + P.cellsOf g1.type) : Opens P t cCK okCK := by
  have hI := opensC_struct3 hu (opensC_bool h0) (opensC_int h1) (opensC_int h2) ho
  refine opens_struct ht (opensC_struct2 ht (hg0 ▸ hI) (hg1 ▸ hI) hp) (fun x => ⟨⟨x.1.1, x.1.2.1, x.1.2.2⟩, ⟨x.2.1, x.2.2.1, x.2.2.2⟩⟩) (fun _ => rfl) fun _ h => ⟨⟨h.1.2.1, h.1.2.2⟩, ⟨h.2.2.1, h.2.2.2⟩⟩
end Go.Ev
