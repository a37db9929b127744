/- Layer 3: what the functions compute, as definitions. Conditions: none. -/
import Derived.Test.YtggmmkdfgjnjfaaNd
namespace Go.Fb
open Go.Ev
def q_low0_T (n_Len : (List Int) → Int) (n_Len_s : (List Int) → Bool) (n_New : Int → (List Int)) (n_New_s : Int → Bool) (n_Gcd : (List Int) → (List Int) → (List Int)) (n_Gcd_s : (List Int) → (List Int) → Bool) (n_Div : (List Int) → (List Int) → (List Int) × (List Int) × Int) (n_Div_s : (List Int) → (List Int) → Bool) (neg : Bool) (num : List Int) (den : List Int) : Tr (RR) :=
  Tr.ast (n_Len_s num)
    (Tr.br (n_Len num == 0) (Tr.ast (n_New_s 1) (Tr.leaf (RR.mk false [] (n_New 1))))
      (Tr.ast (n_Len_s den)
        (Tr.br (n_Len den == 0) (Tr.ast (n_New_s 1) (Tr.leaf (RR.mk false [] (n_New 1))))
          (Tr.ast (n_Gcd_s num den)
            (Tr.ast (n_Div_s num (n_Gcd num den))
              (Tr.ast (n_Div_s den (n_Gcd num den))
                (Tr.leaf (RR.mk neg (n_Div num (n_Gcd num den)).fst (n_Div den (n_Gcd num den)).fst))))))))
def q_low0_t (neg : Bool) (num : List Int) (den : List Int) : Tr (RR) := q_low0_T n_Len n_Len_s n_New n_New_s n_Gcd n_Gcd_s n_Div n_Div_s neg num den
def q_low0 (neg : Bool) (num : List Int) (den : List Int) : RR := (q_low0_t neg num den).val
def q_low0_s (neg : Bool) (num : List Int) (den : List Int) : Bool := (q_low0_t neg num den).safe
def q_low_T (q_low0 : Bool → (List Int) → (List Int) → RR) (q_low0_s : Bool → (List Int) → (List Int) → Bool) (a : RR) : Tr (RR) :=
  Tr.ast (q_low0_s a.neg a.num a.den) (Tr.leaf (q_low0 a.neg a.num a.den))
def q_low_t (a : RR) : Tr (RR) := q_low_T q_low0 q_low0_s a
def q_low (a : RR) : RR := (q_low_t a).val
def q_low_s (a : RR) : Bool := (q_low_t a).safe
def q_New_T (n_Len : (List Int) → Int) (n_Len_s : (List Int) → Bool) (q_low0 : Bool → (List Int) → (List Int) → RR) (q_low0_s : Bool → (List Int) → (List Int) → Bool) (neg : Bool) (num : List Int) (den : List Int) : Tr (RR × Int) :=
  Tr.ast (n_Len_s den)
    (Tr.br (n_Len den == 0) (Tr.leaf (RR.mk false [] [], 30))
      (Tr.ast (q_low0_s neg num den) (Tr.leaf (q_low0 neg num den, 0))))
def q_New_t (neg : Bool) (num : List Int) (den : List Int) : Tr (RR × Int) := q_New_T n_Len n_Len_s q_low0 q_low0_s neg num den
def q_New (neg : Bool) (num : List Int) (den : List Int) : RR × Int := (q_New_t neg num den).val
def q_New_s (neg : Bool) (num : List Int) (den : List Int) : Bool := (q_New_t neg num den).safe
def q_Dyad_T (n_New : Int → (List Int)) (n_New_s : Int → Bool) (n_Shl : (List Int) → Int → (List Int) × Int) (n_Shl_s : (List Int) → Int → Bool) (q_low0 : Bool → (List Int) → (List Int) → RR) (q_low0_s : Bool → (List Int) → (List Int) → Bool) (neg : Bool) (m : Int) (e : Int) : Tr (RR × Int) :=
  Tr.br (decide (e < -8192)) (Tr.leaf (RR.mk false [] [], 31))
    (Tr.br (decide (e > 8192)) (Tr.leaf (RR.mk false [] [], 31))
      (Tr.ast (n_New_s m)
        (Tr.ast (n_Shl_s (n_New m) e)
          (Tr.ast (n_New_s 1)
            (Tr.ast (n_Shl_s (n_New 1) (IntKind.i64.wrap (0 - e)))
              (Tr.ast (q_low0_s neg (n_Shl (n_New m) e).fst (n_Shl (n_New 1) (IntKind.i64.wrap (0 - e))).fst)
                (Tr.leaf (q_low0 neg (n_Shl (n_New m) e).fst (n_Shl (n_New 1) (IntKind.i64.wrap (0 - e))).fst, 0))))))))
def q_Dyad_t (neg : Bool) (m : Int) (e : Int) : Tr (RR × Int) := q_Dyad_T n_New n_New_s n_Shl n_Shl_s q_low0 q_low0_s neg m e
def q_Dyad (neg : Bool) (m : Int) (e : Int) : RR × Int := (q_Dyad_t neg m e).val
def q_Dyad_s (neg : Bool) (m : Int) (e : Int) : Bool := (q_Dyad_t neg m e).safe
def q_Cmp_T (q_low : RR → RR) (q_low_s : RR → Bool) (n_Mul : (List Int) → (List Int) → (List Int)) (n_Mul_s : (List Int) → (List Int) → Bool) (n_Cmp : (List Int) → (List Int) → Int) (n_Cmp_s : (List Int) → (List Int) → Bool) (a : RR) (b : RR) : Tr (Int) :=
  Tr.ast (q_low_s a)
    (Tr.ast (q_low_s b)
      (Tr.br (!(q_low a).neg == (q_low b).neg) (Tr.br (q_low a).neg (Tr.leaf (-1)) (Tr.leaf 1))
        (Tr.ast (n_Mul_s (q_low a).num (q_low b).den)
          (Tr.ast (n_Mul_s (q_low b).num (q_low a).den)
            (Tr.ast (n_Cmp_s (n_Mul (q_low a).num (q_low b).den) (n_Mul (q_low b).num (q_low a).den))
              (Tr.br (q_low a).neg
                (Tr.leaf
                  (IntKind.i64.wrap (0 - n_Cmp (n_Mul (q_low a).num (q_low b).den) (n_Mul (q_low b).num (q_low a).den))))
                (Tr.leaf (n_Cmp (n_Mul (q_low a).num (q_low b).den) (n_Mul (q_low b).num (q_low a).den)))))))))
def q_Cmp_t (a : RR) (b : RR) : Tr (Int) := q_Cmp_T q_low q_low_s n_Mul n_Mul_s n_Cmp n_Cmp_s a b
def q_Cmp (a : RR) (b : RR) : Int := (q_Cmp_t a b).val
def q_Cmp_s (a : RR) (b : RR) : Bool := (q_Cmp_t a b).safe
def q_Sign_T (q_low : RR → RR) (q_low_s : RR → Bool) (a : RR) : Tr (Int) :=
  Tr.ast (q_low_s a) (Tr.br (((q_low a).num.length : Int) == 0) (Tr.leaf 0) (Tr.br (q_low a).neg (Tr.leaf (-1)) (Tr.leaf 1)))
def q_Sign_t (a : RR) : Tr (Int) := q_Sign_T q_low q_low_s a
def q_Sign (a : RR) : Int := (q_Sign_t a).val
def q_Sign_s (a : RR) : Bool := (q_Sign_t a).safe
def r3_one_T   : Tr ((List Bool)) :=
  Tr.leaf [true]
def r3_one_t  : Tr ((List Bool)) := r3_one_T  
def r3_one  : (List Bool) := (r3_one_t ).val
def r3_trim_T (r1_Len : (List Bool) → Int) (r1_Len_s : (List Bool) → Bool) (b : List Bool) : Tr ((List Bool)) :=
  Tr.ast (r1_Len_s b)
    (Tr.ast (decide (0 ≤ (some (r1_Len b)).getD (b.length : Int)) && decide ((some (r1_Len b)).getD (b.length : Int) ≤ (b.length : Int)))
      (Tr.leaf (List.take (((some (r1_Len b)).getD (b.length : Int)).toNat - Int.toNat 0) (List.drop (Int.toNat 0) b))))
def r3_trim_t (b : List Bool) : Tr ((List Bool)) := r3_trim_T r1_Len r1_Len_s b
def r3_trim (b : List Bool) : (List Bool) := (r3_trim_t b).val
def r3_trim_s (b : List Bool) : Bool := (r3_trim_t b).safe
def r3_Low_T (r3_trim : (List Bool) → (List Bool)) (r3_trim_s : (List Bool) → Bool) (r3_one : ((List Bool))) (r2_Gcd : (List Bool) → (List Bool) → (List Bool)) (r2_Gcd_s : (List Bool) → (List Bool) → Bool) (r1_Div : (List Bool) → (List Bool) → (List Bool) × (List Bool)) (r1_Div_s : (List Bool) → (List Bool) → Bool) (neg : Bool) (num : List Bool) (den : List Bool) : Tr (RQ) :=
  Tr.ast (r3_trim_s num)
    (Tr.ast (r3_trim_s den)
      (Tr.br (((r3_trim num).length : Int) == 0) (Tr.leaf (RQ.mk false [] r3_one))
        (Tr.br (((r3_trim den).length : Int) == 0) (Tr.leaf (RQ.mk false [] r3_one))
          (Tr.ast (r2_Gcd_s (r3_trim num) (r3_trim den))
            (Tr.ast (r1_Div_s (r3_trim num) (r2_Gcd (r3_trim num) (r3_trim den)))
              (Tr.ast (r1_Div_s (r3_trim den) (r2_Gcd (r3_trim num) (r3_trim den)))
                (Tr.ast (r3_trim_s (r1_Div (r3_trim num) (r2_Gcd (r3_trim num) (r3_trim den))).fst)
                  (Tr.ast (r3_trim_s (r1_Div (r3_trim den) (r2_Gcd (r3_trim num) (r3_trim den))).fst)
                    (Tr.leaf
                      (RQ.mk neg (r3_trim (r1_Div (r3_trim num) (r2_Gcd (r3_trim num) (r3_trim den))).fst)
                        (r3_trim (r1_Div (r3_trim den) (r2_Gcd (r3_trim num) (r3_trim den))).fst)))))))))))
def r3_Low_t (neg : Bool) (num : List Bool) (den : List Bool) : Tr (RQ) := r3_Low_T r3_trim r3_trim_s r3_one r2_Gcd r2_Gcd_s r1_Div r1_Div_s neg num den
def r3_Low (neg : Bool) (num : List Bool) (den : List Bool) : RQ := (r3_Low_t neg num den).val
def r3_Low_s (neg : Bool) (num : List Bool) (den : List Bool) : Bool := (r3_Low_t neg num den).safe
def r3_Sign_T (r1_Len : (List Bool) → Int) (r1_Len_s : (List Bool) → Bool) (a : RQ) : Tr (Int) :=
  Tr.ast (r1_Len_s a.num) (Tr.br (r1_Len a.num == 0) (Tr.leaf 0) (Tr.br a.neg (Tr.leaf (-1)) (Tr.leaf 1)))
def r3_Sign_t (a : RQ) : Tr (Int) := r3_Sign_T r1_Len r1_Len_s a
def r3_Sign (a : RQ) : Int := (r3_Sign_t a).val
def r3_Sign_s (a : RQ) : Bool := (r3_Sign_t a).safe
end Go.Fb
