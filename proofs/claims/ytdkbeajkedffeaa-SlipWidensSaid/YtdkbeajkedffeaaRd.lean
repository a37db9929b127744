/- Layer 3: what the functions compute, as definitions. Conditions: none. -/
import Derived.Test.YtdkbeajkedffeaaNd
namespace Go.Fb
open Go.Ev
def q_low0_T (n_Len : (List Int) → Int) (n_Len_s : (List Int) → Bool) (n_New : Int → (List Int)) (n_New_s : Int → Bool) (n_Gcd : (List Int) → (List Int) → (List Int)) (n_Gcd_s : (List Int) → (List Int) → Bool) (n_Div : (List Int) → (List Int) → (List Int) × (List Int) × Int) (n_Div_s : (List Int) → (List Int) → Bool) (neg : Bool) (num : List Int) (den : List Int) : Tr (RR) := Tr.ast (n_Len_s num) (Tr.br (n_Len num == 0) (Tr.ast (n_New_s 1) (Tr.leaf (RR.mk false [] (n_New 1)))) (Tr.ast (n_Len_s den) (Tr.br (n_Len den == 0) (Tr.ast (n_New_s 1) (Tr.leaf (RR.mk false [] (n_New 1)))) (Tr.ast (n_Gcd_s num den) (Tr.ast (n_Div_s num (n_Gcd num den)) (Tr.ast (n_Div_s den (n_Gcd num den)) (Tr.leaf (RR.mk neg (n_Div num (n_Gcd num den)).fst (n_Div den (n_Gcd num den)).fst))))))))
def q_low0_t (neg : Bool) (num : List Int) (den : List Int) : Tr (RR) := q_low0_T n_Len n_Len_s n_New n_New_s n_Gcd n_Gcd_s n_Div n_Div_s neg num den
def q_low0 (neg : Bool) (num : List Int) (den : List Int) : RR := (q_low0_t neg num den).val
def q_low0_s (neg : Bool) (num : List Int) (den : List Int) : Bool := (q_low0_t neg num den).safe
def q_low_T (q_low0 : Bool → (List Int) → (List Int) → RR) (q_low0_s : Bool → (List Int) → (List Int) → Bool) (a : RR) : Tr (RR) := Tr.ast (q_low0_s a.neg a.num a.den) (Tr.leaf (q_low0 a.neg a.num a.den))
def q_low_t (a : RR) : Tr (RR) := q_low_T q_low0 q_low0_s a
def q_low (a : RR) : RR := (q_low_t a).val
def q_low_s (a : RR) : Bool := (q_low_t a).safe
def q_Dyad_T (n_New : Int → (List Int)) (n_New_s : Int → Bool) (n_Shl : (List Int) → Int → (List Int) × Int) (n_Shl_s : (List Int) → Int → Bool) (q_low0 : Bool → (List Int) → (List Int) → RR) (q_low0_s : Bool → (List Int) → (List Int) → Bool) (neg : Bool) (m : Int) (e : Int) : Tr (RR × Int) := Tr.br (decide (e < -8192)) (Tr.leaf (RR.mk false [] [], 31)) (Tr.br (decide (e > 8192)) (Tr.leaf (RR.mk false [] [], 31)) (Tr.ast (n_New_s m) (Tr.ast (n_Shl_s (n_New m) e) (Tr.ast (n_New_s 1) (Tr.ast (n_Shl_s (n_New 1) (IntKind.i64.wrap (0 - e))) (Tr.ast (q_low0_s neg (n_Shl (n_New m) e).fst (n_Shl (n_New 1) (IntKind.i64.wrap (0 - e))).fst) (Tr.leaf (q_low0 neg (n_Shl (n_New m) e).fst (n_Shl (n_New 1) (IntKind.i64.wrap (0 - e))).fst, 0))))))))
def q_Dyad_t (neg : Bool) (m : Int) (e : Int) : Tr (RR × Int) := q_Dyad_T n_New n_New_s n_Shl n_Shl_s q_low0 q_low0_s neg m e
def q_Dyad (neg : Bool) (m : Int) (e : Int) : RR × Int := (q_Dyad_t neg m e).val
def q_Dyad_s (neg : Bool) (m : Int) (e : Int) : Bool := (q_Dyad_t neg m e).safe
def q_Cmp_T (q_low : RR → RR) (q_low_s : RR → Bool) (n_Mul : (List Int) → (List Int) → (List Int)) (n_Mul_s : (List Int) → (List Int) → Bool) (n_Cmp : (List Int) → (List Int) → Int) (n_Cmp_s : (List Int) → (List Int) → Bool) (a : RR) (b : RR) : Tr (Int) := Tr.ast (q_low_s a) (Tr.ast (q_low_s b) (Tr.br (!(q_low a).neg == (q_low b).neg) (Tr.br (q_low a).neg (Tr.leaf (-1)) (Tr.leaf 1)) (Tr.ast (n_Mul_s (q_low a).num (q_low b).den) (Tr.ast (n_Mul_s (q_low b).num (q_low a).den) (Tr.ast (n_Cmp_s (n_Mul (q_low a).num (q_low b).den) (n_Mul (q_low b).num (q_low a).den)) (Tr.br (q_low a).neg (Tr.leaf (IntKind.i64.wrap (0 - n_Cmp (n_Mul (q_low a).num (q_low b).den) (n_Mul (q_low b).num (q_low a).den)))) (Tr.leaf (n_Cmp (n_Mul (q_low a).num (q_low b).den) (n_Mul (q_low b).num (q_low a).den)))))))))
def q_Cmp_t (a : RR) (b : RR) : Tr (Int) := q_Cmp_T q_low q_low_s n_Mul n_Mul_s n_Cmp n_Cmp_s a b
def q_Cmp (a : RR) (b : RR) : Int := (q_Cmp_t a b).val
def q_Cmp_s (a : RR) (b : RR) : Bool := (q_Cmp_t a b).safe
def q_Abs_T (q_low0 : Bool → (List Int) → (List Int) → RR) (q_low0_s : Bool → (List Int) → (List Int) → Bool) (a : RR) : Tr (RR) := Tr.ast (q_low0_s false a.num a.den) (Tr.leaf (q_low0 false a.num a.den))
def q_Abs_t (a : RR) : Tr (RR) := q_Abs_T q_low0 q_low0_s a
def q_Abs (a : RR) : RR := (q_Abs_t a).val
def q_Abs_s (a : RR) : Bool := (q_Abs_t a).safe
end Go.Fb
