/- Contracts and laws of functions of the program, on the way to the claim. Conditions: as each theorem states. -/
import Derived.Test.YtgaapeaclbpaeaaTyW
import Derived.Test.YtgaapeaclbpaeaaEvN
namespace Go.Ev
open Go.Fb
open Go.RowKit Go.ChangeShapes Go.WideShapes
def okU2 (s : U2) : Prop := okInt .u64 s.hi ∧ okInt .u64 s.lo
def okU3 (s : U3) : Prop := okInt .u64 s.hi ∧ okInt .u64 s.mid ∧ okInt .u64 s.lo
theorem opens_U2 {P : Program} {t : TypeId} {f0 f1 : Field} (ht : P.underlying t = some (.struct #[f0, f1])) (h0 : P.underlying f0.type = some (.int .u64)) (h1 : P.underlying f1.type = some (.int .u64))
    (ho : f0.offset = 0 ∧ f1.offset = P.cellsOf f0.type ∧ P.cellsOf t = P.cellsOf f0.type + P.cellsOf f1.type) : Opens P t cU2 okU2 :=
  opens_struct ht (opensC_struct2 ht (opensC_int h0) (opensC_int h1) ho) (fun x => ⟨x.1, x.2⟩) (fun _ => rfl) fun _ h => ⟨h.1, h.2⟩
theorem opens_U3 {P : Program} {t : TypeId} {f0 f1 f2 : Field} (ht : P.underlying t = some (.struct #[f0, f1, f2])) (h0 : P.underlying f0.type = some (.int .u64)) (h1 : P.underlying f1.type = some (.int .u64)) (h2 : P.underlying f2.type = some (.int .u64))
    (ho : f0.offset = 0 ∧ f1.offset = P.cellsOf f0.type ∧ f2.offset = P.cellsOf f0.type + P.cellsOf f1.type ∧ P.cellsOf t = P.cellsOf f0.type + P.cellsOf f1.type + P.cellsOf f2.type) : Opens P t cU3 okU3 :=
  opens_struct ht (opensC_struct3 ht (opensC_int h0) (opensC_int h1) (opensC_int h2) ho) (fun x => ⟨x.1, x.2.1, x.2.2⟩) (fun _ => rfl) fun _ h => ⟨h.1, h.2.1, h.2.2⟩
end Go.Ev
