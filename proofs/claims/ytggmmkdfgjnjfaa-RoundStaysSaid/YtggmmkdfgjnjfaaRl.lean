/- Layer 3: what the laws compute, as definitions. Conditions: none. -/
import Derived.Test.YtggmmkdfgjnjfaaRd
namespace Go.Fb
open Go.Ev
def l3_of_T (r2_Bits : (List Int) → (List Bool)) (r2_Bits_s : (List Int) → Bool) (r3_Low : Bool → (List Bool) → (List Bool) → RQ) (r3_Low_s : Bool → (List Bool) → (List Bool) → Bool) (a : RR) : Tr (RQ) :=
  Tr.ast (r2_Bits_s a.num)
    (Tr.ast (r2_Bits_s a.den)
      (Tr.ast (r3_Low_s a.neg (r2_Bits a.num) (r2_Bits a.den)) (Tr.leaf (r3_Low a.neg (r2_Bits a.num) (r2_Bits a.den)))))
def l3_of_t (a : RR) : Tr (RQ) := l3_of_T r2_Bits r2_Bits_s r3_Low r3_Low_s a
def l3_of (a : RR) : RQ := (l3_of_t a).val
def l3_of_s (a : RR) : Bool := (l3_of_t a).safe
end Go.Fb
