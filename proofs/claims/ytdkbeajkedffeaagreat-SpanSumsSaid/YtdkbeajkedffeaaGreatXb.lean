/- Layer 2: contracts of the functions, part one. Conditions: as each theorem states. -/
import Derived.Test.YtdkbeajkedffeaaGreatEd
import Derived.Test.YtdkbeajkedffeaaGreatXa
import Derived.Test.YtdkbeajkedffeaaGreatNd
import Derived.RangeFuncNested
import Derived.RangeFuncBound
import Derived.RangeFuncCalls
import Derived.RangeFuncLeaves
import Derived.Shelf.Abstract
import Derived.Shelf.RegionOpen
import Derived.WalkKit
import Derived.OwnWalkIn
import Derived.TacticsInMore
import Derived.LoopNIn
import Derived.LoopIn
namespace Go.Proofs.YtdkbeajkedffeaaGreat
open Go.Ev Go.Fb
end Go.Proofs.YtdkbeajkedffeaaGreat
namespace Go.Proofs.YtdkbeajkedffeaaGreat
open Go.RowKit Go.Shelf Go.Ev Go.Fb
attribute [local go_sem] Oper.semAt_some
/-- these blocks are as they were -/
def Kp2 (G : Nat → Prop) (W W' : World) : Prop := ∀ k, G k → W'.heap[k]? = W.heap[k]?
theorem Kp2.refl (G : Nat → Prop) (W : World) : Kp2 G W W := fun _ _ => rfl
theorem Kp2.trans {G : Nat → Prop} {A B C : World} (h : Kp2 G A B) (k : Kp2 G B C) : Kp2 G A C := fun n hn => (k n hn).trans (h n hn)
theorem Kp2.cell {G : Nat → Prop} {A B : World} (h : Kp2 G A B) {p : Addr} (hp : G p.block) : B.cell? p = A.cell? p := World.cell?_of_block (w := A) (h p.block hp)
theorem Kp2.put {G : Nat → Prop} {w : World} (hG : ∀ k, G k → k < w.heap.size) (W : World) (l : Nat) (o o' : Obj) (hl : w.heap.size ≤ l) (_ : W.heap[l]? = some o) (_ : o.isCells = false) (_ : o.isWalk = false) : Kp2 G W (W.putObj l o') :=
  fun k hk => World.putObj_heap_other (fun e => by have := hG k hk; omega)
end Go.Proofs.YtdkbeajkedffeaaGreat
namespace Go.Proofs.YtdkbeajkedffeaaGreat
open Go.RowKit Go.Ev Go.Fb
end Go.Proofs.YtdkbeajkedffeaaGreat
namespace Go.Proofs.YtdkbeajkedffeaaGreat
open Go.RowKit Go.Ev Go.Fb
def topA : AV := .one false [.top]
end Go.Proofs.YtdkbeajkedffeaaGreat
