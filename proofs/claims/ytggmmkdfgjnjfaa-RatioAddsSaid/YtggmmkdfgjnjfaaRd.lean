/- Layer 3: what the functions compute, as definitions. Conditions: none. -/
import Derived.Test.YtggmmkdfgjnjfaaNd
namespace Go.Fb
open Go.Ev
def q_low0_T (n_Len : (List Int) → Int) (n_Len_s : (List Int) → Bool) (n_New : Int → (List Int)) (n_New_s : Int → Bool) (n_Gcd : (List Int) → (List Int) → (List Int)) (n_Gcd_s : (List Int) → (List Int) → Bool) (n_Div : (List Int) → (List Int) → (List Int) × (List Int) × Int) (n_Div_s : (List Int) → (List Int) → Bool) (neg : Bool) (num : List Int) (den : List Int) : Tr (RR) :=
  Tr.ast (n_Len_s num)
    (Tr.br (n_Len num == 0) (Tr.ast (n_New_s 1) (Tr.leaf (RR.mk false [] (n_New 1))))
      (Tr.ast (n_Len_s den)
        (Tr.br (n_Len den == 0) (Tr.ast (n_New_s 1) (Tr.leaf (RR.mk false [] (n_New 1))))
          (Tr.ast (n_Gcd_s num den)
            (Tr.ast (n_Div_s num (n_Gcd num den))
              (Tr.ast (n_Div_s den (n_Gcd num den))
                (Tr.leaf (RR.mk neg (n_Div num (n_Gcd num den)).fst (n_Div den (n_Gcd num den)).fst))))))))
def q_low0_t (neg : Bool) (num : List Int) (den : List Int) : Tr (RR) := q_low0_T n_Len n_Len_s n_New n_New_s n_Gcd n_Gcd_s n_Div n_Div_s neg num den
def q_low0 (neg : Bool) (num : List Int) (den : List Int) : RR := (q_low0_t neg num den).val
def q_low0_s (neg : Bool) (num : List Int) (den : List Int) : Bool := (q_low0_t neg num den).safe
def q_low_T (q_low0 : Bool → (List Int) → (List Int) → RR) (q_low0_s : Bool → (List Int) → (List Int) → Bool) (a : RR) : Tr (RR) :=
  Tr.ast (q_low0_s a.neg a.num a.den) (Tr.leaf (q_low0 a.neg a.num a.den))
def q_low_t (a : RR) : Tr (RR) := q_low_T q_low0 q_low0_s a
def q_low (a : RR) : RR := (q_low_t a).val
def q_low_s (a : RR) : Bool := (q_low_t a).safe
def q_New_T (n_Len : (List Int) → Int) (n_Len_s : (List Int) → Bool) (q_low0 : Bool → (List Int) → (List Int) → RR) (q_low0_s : Bool → (List Int) → (List Int) → Bool) (neg : Bool) (num : List Int) (den : List Int) : Tr (RR × Int) :=
  Tr.ast (n_Len_s den)
    (Tr.br (n_Len den == 0) (Tr.leaf (RR.mk false [] [], 30))
      (Tr.ast (q_low0_s neg num den) (Tr.leaf (q_low0 neg num den, 0))))
def q_New_t (neg : Bool) (num : List Int) (den : List Int) : Tr (RR × Int) := q_New_T n_Len n_Len_s q_low0 q_low0_s neg num den
def q_New (neg : Bool) (num : List Int) (den : List Int) : RR × Int := (q_New_t neg num den).val
def q_New_s (neg : Bool) (num : List Int) (den : List Int) : Bool := (q_New_t neg num den).safe
def q_Int_T (n_New : Int → (List Int)) (n_New_s : Int → Bool) (q_low0 : Bool → (List Int) → (List Int) → RR) (q_low0_s : Bool → (List Int) → (List Int) → Bool) (x : Int) : Tr (RR) :=
  Tr.br (decide (x < 0))
    (Tr.ast (n_New_s (IntKind.u64.wrap (0 - IntKind.u64.wrap x)))
      (Tr.ast (n_New_s 1)
        (Tr.ast (q_low0_s true (n_New (IntKind.u64.wrap (0 - IntKind.u64.wrap x))) (n_New 1))
          (Tr.leaf (q_low0 true (n_New (IntKind.u64.wrap (0 - IntKind.u64.wrap x))) (n_New 1))))))
    (Tr.ast (n_New_s (IntKind.u64.wrap x))
      (Tr.ast (n_New_s 1)
        (Tr.ast (q_low0_s false (n_New (IntKind.u64.wrap x)) (n_New 1))
          (Tr.leaf (q_low0 false (n_New (IntKind.u64.wrap x)) (n_New 1))))))
def q_Int_t (x : Int) : Tr (RR) := q_Int_T n_New n_New_s q_low0 q_low0_s x
def q_Int (x : Int) : RR := (q_Int_t x).val
def q_Int_s (x : Int) : Bool := (q_Int_t x).safe
def q_Dyad_T (n_New : Int → (List Int)) (n_New_s : Int → Bool) (n_Shl : (List Int) → Int → (List Int) × Int) (n_Shl_s : (List Int) → Int → Bool) (q_low0 : Bool → (List Int) → (List Int) → RR) (q_low0_s : Bool → (List Int) → (List Int) → Bool) (neg : Bool) (m : Int) (e : Int) : Tr (RR × Int) :=
  Tr.br (decide (e < -8192)) (Tr.leaf (RR.mk false [] [], 31))
    (Tr.br (decide (e > 8192)) (Tr.leaf (RR.mk false [] [], 31))
      (Tr.ast (n_New_s m)
        (Tr.ast (n_Shl_s (n_New m) e)
          (Tr.ast (n_New_s 1)
            (Tr.ast (n_Shl_s (n_New 1) (IntKind.i64.wrap (0 - e)))
              (Tr.ast (q_low0_s neg (n_Shl (n_New m) e).fst (n_Shl (n_New 1) (IntKind.i64.wrap (0 - e))).fst)
                (Tr.leaf (q_low0 neg (n_Shl (n_New m) e).fst (n_Shl (n_New 1) (IntKind.i64.wrap (0 - e))).fst, 0))))))))
def q_Dyad_t (neg : Bool) (m : Int) (e : Int) : Tr (RR × Int) := q_Dyad_T n_New n_New_s n_Shl n_Shl_s q_low0 q_low0_s neg m e
def q_Dyad (neg : Bool) (m : Int) (e : Int) : RR × Int := (q_Dyad_t neg m e).val
def q_Dyad_s (neg : Bool) (m : Int) (e : Int) : Bool := (q_Dyad_t neg m e).safe
def q_Neg1_T (q_low0 : Bool → (List Int) → (List Int) → RR) (q_low0_s : Bool → (List Int) → (List Int) → Bool) (a : RR) : Tr (RR) :=
  Tr.ast (q_low0_s (!a.neg) a.num a.den) (Tr.leaf (q_low0 (!a.neg) a.num a.den))
def q_Neg1_t (a : RR) : Tr (RR) := q_Neg1_T q_low0 q_low0_s a
def q_Neg1 (a : RR) : RR := (q_Neg1_t a).val
def q_Neg1_s (a : RR) : Bool := (q_Neg1_t a).safe
def q_Add_T (q_low : RR → RR) (q_low_s : RR → Bool) (n_Mul : (List Int) → (List Int) → (List Int)) (n_Mul_s : (List Int) → (List Int) → Bool) (n_Add : (List Int) → (List Int) → (List Int)) (n_Add_s : (List Int) → (List Int) → Bool) (q_low0 : Bool → (List Int) → (List Int) → RR) (q_low0_s : Bool → (List Int) → (List Int) → Bool) (n_Sub : (List Int) → (List Int) → (List Int) × Bool) (n_Sub_s : (List Int) → (List Int) → Bool) (a : RR) (b : RR) : Tr (RR) :=
  Tr.ast (q_low_s a)
    (Tr.ast (q_low_s b)
      (Tr.ast (n_Mul_s (q_low a).num (q_low b).den)
        (Tr.ast (n_Mul_s (q_low b).num (q_low a).den)
          (Tr.ast (n_Mul_s (q_low a).den (q_low b).den)
            (Tr.br ((q_low a).neg == (q_low b).neg)
              (Tr.ast (n_Add_s (n_Mul (q_low a).num (q_low b).den) (n_Mul (q_low b).num (q_low a).den))
                (Tr.ast
                  (q_low0_s (q_low a).neg (n_Add (n_Mul (q_low a).num (q_low b).den) (n_Mul (q_low b).num (q_low a).den))
                    (n_Mul (q_low a).den (q_low b).den))
                  (Tr.leaf
                    (q_low0 (q_low a).neg (n_Add (n_Mul (q_low a).num (q_low b).den) (n_Mul (q_low b).num (q_low a).den))
                      (n_Mul (q_low a).den (q_low b).den)))))
              (Tr.ast (n_Sub_s (n_Mul (q_low a).num (q_low b).den) (n_Mul (q_low b).num (q_low a).den))
                (Tr.br (n_Sub (n_Mul (q_low a).num (q_low b).den) (n_Mul (q_low b).num (q_low a).den)).snd
                  (Tr.ast
                    (q_low0_s (q_low a).neg
                      (n_Sub (n_Mul (q_low a).num (q_low b).den) (n_Mul (q_low b).num (q_low a).den)).fst
                      (n_Mul (q_low a).den (q_low b).den))
                    (Tr.leaf
                      (q_low0 (q_low a).neg
                        (n_Sub (n_Mul (q_low a).num (q_low b).den) (n_Mul (q_low b).num (q_low a).den)).fst
                        (n_Mul (q_low a).den (q_low b).den))))
                  (Tr.ast (n_Sub_s (n_Mul (q_low b).num (q_low a).den) (n_Mul (q_low a).num (q_low b).den))
                    (Tr.ast
                      (q_low0_s (q_low b).neg
                        (n_Sub (n_Mul (q_low b).num (q_low a).den) (n_Mul (q_low a).num (q_low b).den)).fst
                        (n_Mul (q_low a).den (q_low b).den))
                      (Tr.leaf
                        (q_low0 (q_low b).neg
                          (n_Sub (n_Mul (q_low b).num (q_low a).den) (n_Mul (q_low a).num (q_low b).den)).fst
                          (n_Mul (q_low a).den (q_low b).den))))))))))))
def q_Add_t (a : RR) (b : RR) : Tr (RR) := q_Add_T q_low q_low_s n_Mul n_Mul_s n_Add n_Add_s q_low0 q_low0_s n_Sub n_Sub_s a b
def q_Add (a : RR) (b : RR) : RR := (q_Add_t a b).val
def q_Add_s (a : RR) (b : RR) : Bool := (q_Add_t a b).safe
def q_Sub_T (q_Neg1 : RR → RR) (q_Neg1_s : RR → Bool) (q_Add : RR → RR → RR) (q_Add_s : RR → RR → Bool) (a : RR) (b : RR) : Tr (RR) :=
  Tr.ast (q_Neg1_s b) (Tr.ast (q_Add_s a (q_Neg1 b)) (Tr.leaf (q_Add a (q_Neg1 b))))
def q_Sub_t (a : RR) (b : RR) : Tr (RR) := q_Sub_T q_Neg1 q_Neg1_s q_Add q_Add_s a b
def q_Sub (a : RR) (b : RR) : RR := (q_Sub_t a b).val
def q_Sub_s (a : RR) (b : RR) : Bool := (q_Sub_t a b).safe
def q_Mul_T (q_low : RR → RR) (q_low_s : RR → Bool) (n_Mul : (List Int) → (List Int) → (List Int)) (n_Mul_s : (List Int) → (List Int) → Bool) (q_low0 : Bool → (List Int) → (List Int) → RR) (q_low0_s : Bool → (List Int) → (List Int) → Bool) (a : RR) (b : RR) : Tr (RR) :=
  Tr.ast (q_low_s a)
    (Tr.ast (q_low_s b)
      (Tr.ast (n_Mul_s (q_low a).num (q_low b).num)
        (Tr.ast (n_Mul_s (q_low a).den (q_low b).den)
          (Tr.ast
            (q_low0_s (!(q_low a).neg == (q_low b).neg) (n_Mul (q_low a).num (q_low b).num)
              (n_Mul (q_low a).den (q_low b).den))
            (Tr.leaf
              (q_low0 (!(q_low a).neg == (q_low b).neg) (n_Mul (q_low a).num (q_low b).num)
                (n_Mul (q_low a).den (q_low b).den)))))))
def q_Mul_t (a : RR) (b : RR) : Tr (RR) := q_Mul_T q_low q_low_s n_Mul n_Mul_s q_low0 q_low0_s a b
def q_Mul (a : RR) (b : RR) : RR := (q_Mul_t a b).val
def q_Mul_s (a : RR) (b : RR) : Bool := (q_Mul_t a b).safe
def q_Div_T (q_low : RR → RR) (q_low_s : RR → Bool) (n_Len : (List Int) → Int) (n_Len_s : (List Int) → Bool) (q_Mul : RR → RR → RR) (q_Mul_s : RR → RR → Bool) (a : RR) (b : RR) : Tr (RR × Int) :=
  Tr.ast (q_low_s b)
    (Tr.ast (n_Len_s (q_low b).num)
      (Tr.br (n_Len (q_low b).num == 0) (Tr.leaf (RR.mk false [] [], 30))
        (Tr.ast (q_Mul_s a (RR.mk (q_low b).neg (q_low b).den (q_low b).num))
          (Tr.leaf (q_Mul a (RR.mk (q_low b).neg (q_low b).den (q_low b).num), 0)))))
def q_Div_t (a : RR) (b : RR) : Tr (RR × Int) := q_Div_T q_low q_low_s n_Len n_Len_s q_Mul q_Mul_s a b
def q_Div (a : RR) (b : RR) : RR × Int := (q_Div_t a b).val
def q_Div_s (a : RR) (b : RR) : Bool := (q_Div_t a b).safe
def q_Cmp_T (q_low : RR → RR) (q_low_s : RR → Bool) (n_Mul : (List Int) → (List Int) → (List Int)) (n_Mul_s : (List Int) → (List Int) → Bool) (n_Cmp : (List Int) → (List Int) → Int) (n_Cmp_s : (List Int) → (List Int) → Bool) (a : RR) (b : RR) : Tr (Int) :=
  Tr.ast (q_low_s a)
    (Tr.ast (q_low_s b)
      (Tr.br (!(q_low a).neg == (q_low b).neg) (Tr.br (q_low a).neg (Tr.leaf (-1)) (Tr.leaf 1))
        (Tr.ast (n_Mul_s (q_low a).num (q_low b).den)
          (Tr.ast (n_Mul_s (q_low b).num (q_low a).den)
            (Tr.ast (n_Cmp_s (n_Mul (q_low a).num (q_low b).den) (n_Mul (q_low b).num (q_low a).den))
              (Tr.br (q_low a).neg
                (Tr.leaf
                  (IntKind.i64.wrap (0 - n_Cmp (n_Mul (q_low a).num (q_low b).den) (n_Mul (q_low b).num (q_low a).den))))
                (Tr.leaf (n_Cmp (n_Mul (q_low a).num (q_low b).den) (n_Mul (q_low b).num (q_low a).den)))))))))
def q_Cmp_t (a : RR) (b : RR) : Tr (Int) := q_Cmp_T q_low q_low_s n_Mul n_Mul_s n_Cmp n_Cmp_s a b
def q_Cmp (a : RR) (b : RR) : Int := (q_Cmp_t a b).val
def q_Cmp_s (a : RR) (b : RR) : Bool := (q_Cmp_t a b).safe
def q_Abs_T (q_low0 : Bool → (List Int) → (List Int) → RR) (q_low0_s : Bool → (List Int) → (List Int) → Bool) (a : RR) : Tr (RR) :=
  Tr.ast (q_low0_s false a.num a.den) (Tr.leaf (q_low0 false a.num a.den))
def q_Abs_t (a : RR) : Tr (RR) := q_Abs_T q_low0 q_low0_s a
def q_Abs (a : RR) : RR := (q_Abs_t a).val
def q_Abs_s (a : RR) : Bool := (q_Abs_t a).safe
def q_Sign_T (q_low : RR → RR) (q_low_s : RR → Bool) (a : RR) : Tr (Int) :=
  Tr.ast (q_low_s a) (Tr.br (((q_low a).num.length : Int) == 0) (Tr.leaf 0) (Tr.br (q_low a).neg (Tr.leaf (-1)) (Tr.leaf 1)))
def q_Sign_t (a : RR) : Tr (Int) := q_Sign_T q_low q_low_s a
def q_Sign (a : RR) : Int := (q_Sign_t a).val
def q_Sign_s (a : RR) : Bool := (q_Sign_t a).safe
def q_Len_T (q_low : RR → RR) (q_low_s : RR → Bool) (n_Len : (List Int) → Int) (n_Len_s : (List Int) → Bool) (a : RR) : Tr (Int) :=
  Tr.ast (q_low_s a)
    (Tr.ast (n_Len_s (q_low a).num)
      (Tr.ast (n_Len_s (q_low a).den) (Tr.leaf (IntKind.i64.wrap (n_Len (q_low a).num + n_Len (q_low a).den)))))
def q_Len_t (a : RR) : Tr (Int) := q_Len_T q_low q_low_s n_Len n_Len_s a
def q_Len (a : RR) : Int := (q_Len_t a).val
def q_Len_s (a : RR) : Bool := (q_Len_t a).safe
def q_Text_T (q_low : RR → RR) (q_low_s : RR → Bool) (n_Text : (List Int) → (List UInt8)) (n_Text_s : (List Int) → Bool) (n_New : Int → (List Int)) (n_New_s : Int → Bool) (n_Cmp : (List Int) → (List Int) → Int) (n_Cmp_s : (List Int) → (List Int) → Bool) (a : RR) : Tr ((List UInt8)) :=
  Tr.ast (q_low_s a)
    (Tr.ast (n_Text_s (q_low a).num)
      (Tr.br (q_low a).neg
        (Tr.ast (decide (#[45].toList.length + (n_Text (q_low a).num).length ≤ 9223372036854775807))
          (Tr.ast (n_New_s 1)
            (Tr.ast (n_Cmp_s (q_low a).den (n_New 1))
              (Tr.br (n_Cmp (q_low a).den (n_New 1) != 0)
                (Tr.ast (n_Text_s (q_low a).den)
                  (Tr.ast (decide (#[47].toList.length + (n_Text (q_low a).den).length ≤ 9223372036854775807))
                    (Tr.ast
                      (decide
                        ((#[45].toList ++ n_Text (q_low a).num).length + (#[47].toList ++ n_Text (q_low a).den).length ≤
                          9223372036854775807))
                      (Tr.leaf (45 :: ([] ++ n_Text (q_low a).num ++ (#[47].toList ++ n_Text (q_low a).den)))))))
                (Tr.leaf (45 :: ([] ++ n_Text (q_low a).num)))))))
        (Tr.ast (n_New_s 1)
          (Tr.ast (n_Cmp_s (q_low a).den (n_New 1))
            (Tr.br (n_Cmp (q_low a).den (n_New 1) != 0)
              (Tr.ast (n_Text_s (q_low a).den)
                (Tr.ast (decide (#[47].toList.length + (n_Text (q_low a).den).length ≤ 9223372036854775807))
                  (Tr.ast
                    (decide
                      ((n_Text (q_low a).num).length + (#[47].toList ++ n_Text (q_low a).den).length ≤
                        9223372036854775807))
                    (Tr.leaf (n_Text (q_low a).num ++ (#[47].toList ++ n_Text (q_low a).den))))))
              (Tr.leaf (n_Text (q_low a).num)))))))
def q_Text_t (a : RR) : Tr ((List UInt8)) := q_Text_T q_low q_low_s n_Text n_Text_s n_New n_New_s n_Cmp n_Cmp_s a
def q_Text (a : RR) : (List UInt8) := (q_Text_t a).val
def q_Text_s (a : RR) : Bool := (q_Text_t a).safe
def s_MaxR_L0_T (q_Cmp : RR → RR → Int) (q_Cmp_s : RR → RR → Bool) (v0 : List (List Cv)) (_v9 : Bool) (_h0 : Bool) (v6 : Int) (h1_0 : Bool) (h1_1 : List Int) (h1_2 : List Int) : Tr ((Int × Bool × (List Int) × (List Int)) ⊕ (Int × Bool × (List Int) × (List Int))) :=
  Tr.br (decide (v6 < (v0.length : Int)))
    (Tr.ast (decide (0 ≤ v6) && decide (v6 < (v0.length : Int)))
      (Tr.ast
        (q_Cmp_s
          (RR.mk ((v0.getD v6.toNat []).headD (Cv.i 0)).bool ((v0.getD v6.toNat []).tail.headD (Cv.i 0)).ints
            ((v0.getD v6.toNat []).tail.tail.headD (Cv.i 0)).ints)
          (RR.mk h1_0 h1_1 h1_2))
        (Tr.br
          (decide
            (q_Cmp
                (RR.mk ((v0.getD v6.toNat []).headD (Cv.i 0)).bool ((v0.getD v6.toNat []).tail.headD (Cv.i 0)).ints
                  ((v0.getD v6.toNat []).tail.tail.headD (Cv.i 0)).ints)
                (RR.mk h1_0 h1_1 h1_2) >
              0))
          (Tr.ast (decide (0 ≤ v6) && decide (v6 < (v0.length : Int)))
            (Tr.leaf
              (Sum.inl
                (IntKind.i64.wrap (v6 + 1), ((v0.getD v6.toNat []).headD (Cv.i 0)).bool,
                  ((v0.getD v6.toNat []).tail.headD (Cv.i 0)).ints,
                  ((v0.getD v6.toNat []).tail.tail.headD (Cv.i 0)).ints))))
          (Tr.leaf (Sum.inl (IntKind.i64.wrap (v6 + 1), h1_0, h1_1, h1_2))))))
    (Tr.leaf (Sum.inr (v6, h1_0, h1_1, h1_2)))
def s_MaxR_L0_step (p : (List (List Cv)) × Bool × Bool) (x : Int × Bool × (List Int) × (List Int)) : Tr ((Int × Bool × (List Int) × (List Int)) ⊕ (Int × Bool × (List Int) × (List Int))) := s_MaxR_L0_T q_Cmp q_Cmp_s p.1 p.2.1 p.2.2 x.1 x.2.1 x.2.2.1 x.2.2.2
def s_MaxR_L0_r (p : (List (List Cv)) × Bool × Bool) (x : Int × Bool × (List Int) × (List Int)) : Option (Int × Bool × (List Int) × (List Int)) := runB (s_MaxR_L0_step p) x
def s_MaxR_L0_v (p : (List (List Cv)) × Bool × Bool) (x : Int × Bool × (List Int) × (List Int)) : Int × Bool × (List Int) × (List Int) := (s_MaxR_L0_r p x).getD x
def s_MaxR_L0_ok (p : (List (List Cv)) × Bool × Bool) (x : Int × Bool × (List Int) × (List Int)) : Bool := (s_MaxR_L0_r p x).isSome
def s_MaxR_T (s_MaxR_L0_ok : ((List (List Cv)) × Bool × Bool) → (Int × Bool × (List Int) × (List Int)) → Bool) (s_MaxR_L0_v : ((List (List Cv)) × Bool × Bool) → (Int × Bool × (List Int) × (List Int)) → Int × Bool × (List Int) × (List Int)) (l : List (List Cv)) (_f : Unit) : Tr (RR) :=
  Tr.nst (decide (((id l).length : Int) < 1))
    (Tr.ast (decide (0 < ((id l).length : Int)))
      (Tr.ast
        (s_MaxR_L0_ok (id l, false, false)
          (1, (((id l).getD (Int.toNat 0) []).headD (Cv.i 0)).bool,
            (((id l).getD (Int.toNat 0) []).tail.headD (Cv.i 0)).ints,
            (((id l).getD (Int.toNat 0) []).tail.tail.headD (Cv.i 0)).ints))
        (Tr.leaf
          (RR.mk
            (s_MaxR_L0_v (id l, false, false)
                  (1, (((id l).getD (Int.toNat 0) []).headD (Cv.i 0)).bool,
                    (((id l).getD (Int.toNat 0) []).tail.headD (Cv.i 0)).ints,
                    (((id l).getD (Int.toNat 0) []).tail.tail.headD (Cv.i 0)).ints)).snd.fst
            (s_MaxR_L0_v (id l, false, false)
                    (1, (((id l).getD (Int.toNat 0) []).headD (Cv.i 0)).bool,
                      (((id l).getD (Int.toNat 0) []).tail.headD (Cv.i 0)).ints,
                      (((id l).getD (Int.toNat 0) []).tail.tail.headD (Cv.i 0)).ints)).snd.snd.fst
            (s_MaxR_L0_v (id l, false, false)
                    (1, (((id l).getD (Int.toNat 0) []).headD (Cv.i 0)).bool,
                      (((id l).getD (Int.toNat 0) []).tail.headD (Cv.i 0)).ints,
                      (((id l).getD (Int.toNat 0) []).tail.tail.headD (Cv.i 0)).ints)).snd.snd.snd))))
def s_MaxR_t (l : List (List Cv)) (f : Unit) : Tr (RR) := s_MaxR_T s_MaxR_L0_ok s_MaxR_L0_v l f
def s_MaxR (l : List (List Cv)) (f : Unit) : RR := (s_MaxR_t l f).val
def s_MaxR_s (l : List (List Cv)) (f : Unit) : Bool := (s_MaxR_t l f).safe
def q_Max_T (q_Int : Int → RR) (q_Int_s : Int → Bool) (s_MaxR : (List (List Cv)) → Unit → RR) (s_MaxR_s : (List (List Cv)) → Unit → Bool) (q_low : RR → RR) (q_low_s : RR → Bool) (l : List (List Cv)) : Tr (RR) :=
  Tr.br (((id l).length : Int) == 0) (Tr.ast (q_Int_s 0) (Tr.leaf (q_Int 0)))
    (Tr.ast (s_MaxR_s (id (id l)) ())
      (Tr.ast (q_low_s (s_MaxR (id (id l)) ())) (Tr.leaf (q_low (s_MaxR (id (id l)) ())))))
def q_Max_t (l : List (List Cv)) : Tr (RR) := q_Max_T q_Int q_Int_s s_MaxR s_MaxR_s q_low q_low_s l
def q_Max (l : List (List Cv)) : RR := (q_Max_t l).val
def q_Max_s (l : List (List Cv)) : Bool := (q_Max_t l).safe
def r3_one_T   : Tr ((List Bool)) :=
  Tr.leaf [true]
def r3_one_t  : Tr ((List Bool)) := r3_one_T  
def r3_one  : (List Bool) := (r3_one_t ).val
def r3_trim_T (r1_Len : (List Bool) → Int) (r1_Len_s : (List Bool) → Bool) (b : List Bool) : Tr ((List Bool)) :=
  Tr.ast (r1_Len_s b)
    (Tr.ast (decide (0 ≤ (some (r1_Len b)).getD (b.length : Int)) && decide ((some (r1_Len b)).getD (b.length : Int) ≤ (b.length : Int)))
      (Tr.leaf (List.take (((some (r1_Len b)).getD (b.length : Int)).toNat - Int.toNat 0) (List.drop (Int.toNat 0) b))))
def r3_trim_t (b : List Bool) : Tr ((List Bool)) := r3_trim_T r1_Len r1_Len_s b
def r3_trim (b : List Bool) : (List Bool) := (r3_trim_t b).val
def r3_trim_s (b : List Bool) : Bool := (r3_trim_t b).safe
def r3_Low_T (r3_trim : (List Bool) → (List Bool)) (r3_trim_s : (List Bool) → Bool) (r3_one : ((List Bool))) (r2_Gcd : (List Bool) → (List Bool) → (List Bool)) (r2_Gcd_s : (List Bool) → (List Bool) → Bool) (r1_Div : (List Bool) → (List Bool) → (List Bool) × (List Bool)) (r1_Div_s : (List Bool) → (List Bool) → Bool) (neg : Bool) (num : List Bool) (den : List Bool) : Tr (RQ) :=
  Tr.ast (r3_trim_s num)
    (Tr.ast (r3_trim_s den)
      (Tr.br (((r3_trim num).length : Int) == 0) (Tr.leaf (RQ.mk false [] r3_one))
        (Tr.br (((r3_trim den).length : Int) == 0) (Tr.leaf (RQ.mk false [] r3_one))
          (Tr.ast (r2_Gcd_s (r3_trim num) (r3_trim den))
            (Tr.ast (r1_Div_s (r3_trim num) (r2_Gcd (r3_trim num) (r3_trim den)))
              (Tr.ast (r1_Div_s (r3_trim den) (r2_Gcd (r3_trim num) (r3_trim den)))
                (Tr.ast (r3_trim_s (r1_Div (r3_trim num) (r2_Gcd (r3_trim num) (r3_trim den))).fst)
                  (Tr.ast (r3_trim_s (r1_Div (r3_trim den) (r2_Gcd (r3_trim num) (r3_trim den))).fst)
                    (Tr.leaf
                      (RQ.mk neg (r3_trim (r1_Div (r3_trim num) (r2_Gcd (r3_trim num) (r3_trim den))).fst)
                        (r3_trim (r1_Div (r3_trim den) (r2_Gcd (r3_trim num) (r3_trim den))).fst)))))))))))
def r3_Low_t (neg : Bool) (num : List Bool) (den : List Bool) : Tr (RQ) := r3_Low_T r3_trim r3_trim_s r3_one r2_Gcd r2_Gcd_s r1_Div r1_Div_s neg num den
def r3_Low (neg : Bool) (num : List Bool) (den : List Bool) : RQ := (r3_Low_t neg num den).val
def r3_Low_s (neg : Bool) (num : List Bool) (den : List Bool) : Bool := (r3_Low_t neg num den).safe
def r3_Add_T (r1_Mul : (List Bool) → (List Bool) → (List Bool)) (r1_Mul_s : (List Bool) → (List Bool) → Bool) (r1_Add : (List Bool) → (List Bool) → (List Bool)) (r1_Add_s : (List Bool) → (List Bool) → Bool) (r3_Low : Bool → (List Bool) → (List Bool) → RQ) (r3_Low_s : Bool → (List Bool) → (List Bool) → Bool) (r1_Cmp : (List Bool) → (List Bool) → Int) (r1_Cmp_s : (List Bool) → (List Bool) → Bool) (r1_Sub : (List Bool) → (List Bool) → Int → (List Bool) × Bool) (r1_Sub_s : (List Bool) → (List Bool) → Int → Bool) (a : RQ) (b : RQ) : Tr (RQ) :=
  Tr.ast (r1_Mul_s a.num b.den)
    (Tr.ast (r1_Mul_s b.num a.den)
      (Tr.ast (r1_Mul_s a.den b.den)
        (Tr.br (a.neg == b.neg)
          (Tr.ast (r1_Add_s (r1_Mul a.num b.den) (r1_Mul b.num a.den))
            (Tr.ast (r3_Low_s a.neg (r1_Add (r1_Mul a.num b.den) (r1_Mul b.num a.den)) (r1_Mul a.den b.den))
              (Tr.leaf (r3_Low a.neg (r1_Add (r1_Mul a.num b.den) (r1_Mul b.num a.den)) (r1_Mul a.den b.den)))))
          (Tr.ast (r1_Cmp_s (r1_Mul a.num b.den) (r1_Mul b.num a.den))
            (Tr.br (decide (r1_Cmp (r1_Mul a.num b.den) (r1_Mul b.num a.den) ≥ 0))
              (Tr.ast
                (r1_Sub_s (r1_Mul a.num b.den) (r1_Mul b.num a.den)
                  (imax ((r1_Mul a.num b.den).length : Int) ((r1_Mul b.num a.den).length : Int)))
                (Tr.ast
                  (r3_Low_s a.neg
                    (r1_Sub (r1_Mul a.num b.den) (r1_Mul b.num a.den)
                        (imax ((r1_Mul a.num b.den).length : Int) ((r1_Mul b.num a.den).length : Int))).fst
                    (r1_Mul a.den b.den))
                  (Tr.leaf
                    (r3_Low a.neg
                      (r1_Sub (r1_Mul a.num b.den) (r1_Mul b.num a.den)
                          (imax ((r1_Mul a.num b.den).length : Int) ((r1_Mul b.num a.den).length : Int))).fst
                      (r1_Mul a.den b.den)))))
              (Tr.ast
                (r1_Sub_s (r1_Mul b.num a.den) (r1_Mul a.num b.den)
                  (imax ((r1_Mul a.num b.den).length : Int) ((r1_Mul b.num a.den).length : Int)))
                (Tr.ast
                  (r3_Low_s b.neg
                    (r1_Sub (r1_Mul b.num a.den) (r1_Mul a.num b.den)
                        (imax ((r1_Mul a.num b.den).length : Int) ((r1_Mul b.num a.den).length : Int))).fst
                    (r1_Mul a.den b.den))
                  (Tr.leaf
                    (r3_Low b.neg
                      (r1_Sub (r1_Mul b.num a.den) (r1_Mul a.num b.den)
                          (imax ((r1_Mul a.num b.den).length : Int) ((r1_Mul b.num a.den).length : Int))).fst
                      (r1_Mul a.den b.den))))))))))
def r3_Add_t (a : RQ) (b : RQ) : Tr (RQ) := r3_Add_T r1_Mul r1_Mul_s r1_Add r1_Add_s r3_Low r3_Low_s r1_Cmp r1_Cmp_s r1_Sub r1_Sub_s a b
def r3_Add (a : RQ) (b : RQ) : RQ := (r3_Add_t a b).val
def r3_Add_s (a : RQ) (b : RQ) : Bool := (r3_Add_t a b).safe
def r3_Minus_T (r3_Low : Bool → (List Bool) → (List Bool) → RQ) (r3_Low_s : Bool → (List Bool) → (List Bool) → Bool) (a : RQ) : Tr (RQ) :=
  Tr.ast (r3_Low_s (!a.neg) a.num a.den) (Tr.leaf (r3_Low (!a.neg) a.num a.den))
def r3_Minus_t (a : RQ) : Tr (RQ) := r3_Minus_T r3_Low r3_Low_s a
def r3_Minus (a : RQ) : RQ := (r3_Minus_t a).val
def r3_Minus_s (a : RQ) : Bool := (r3_Minus_t a).safe
def r3_Mul_T (r1_Mul : (List Bool) → (List Bool) → (List Bool)) (r1_Mul_s : (List Bool) → (List Bool) → Bool) (r3_Low : Bool → (List Bool) → (List Bool) → RQ) (r3_Low_s : Bool → (List Bool) → (List Bool) → Bool) (a : RQ) (b : RQ) : Tr (RQ) :=
  Tr.ast (r1_Mul_s a.num b.num)
    (Tr.ast (r1_Mul_s a.den b.den)
      (Tr.ast (r3_Low_s (!a.neg == b.neg) (r1_Mul a.num b.num) (r1_Mul a.den b.den))
        (Tr.leaf (r3_Low (!a.neg == b.neg) (r1_Mul a.num b.num) (r1_Mul a.den b.den)))))
def r3_Mul_t (a : RQ) (b : RQ) : Tr (RQ) := r3_Mul_T r1_Mul r1_Mul_s r3_Low r3_Low_s a b
def r3_Mul (a : RQ) (b : RQ) : RQ := (r3_Mul_t a b).val
def r3_Mul_s (a : RQ) (b : RQ) : Bool := (r3_Mul_t a b).safe
def r3_Over_T (r3_Low : Bool → (List Bool) → (List Bool) → RQ) (r3_Low_s : Bool → (List Bool) → (List Bool) → Bool) (a : RQ) : Tr (RQ) :=
  Tr.ast (r3_Low_s a.neg a.den a.num) (Tr.leaf (r3_Low a.neg a.den a.num))
def r3_Over_t (a : RQ) : Tr (RQ) := r3_Over_T r3_Low r3_Low_s a
def r3_Over (a : RQ) : RQ := (r3_Over_t a).val
def r3_Over_s (a : RQ) : Bool := (r3_Over_t a).safe
def r3_Sign_T (r1_Len : (List Bool) → Int) (r1_Len_s : (List Bool) → Bool) (a : RQ) : Tr (Int) :=
  Tr.ast (r1_Len_s a.num) (Tr.br (r1_Len a.num == 0) (Tr.leaf 0) (Tr.br a.neg (Tr.leaf (-1)) (Tr.leaf 1)))
def r3_Sign_t (a : RQ) : Tr (Int) := r3_Sign_T r1_Len r1_Len_s a
def r3_Sign (a : RQ) : Int := (r3_Sign_t a).val
def r3_Sign_s (a : RQ) : Bool := (r3_Sign_t a).safe
def r3_Cmp_T (r3_Minus : RQ → RQ) (r3_Minus_s : RQ → Bool) (r3_Add : RQ → RQ → RQ) (r3_Add_s : RQ → RQ → Bool) (r3_Sign : RQ → Int) (r3_Sign_s : RQ → Bool) (a : RQ) (b : RQ) : Tr (Int) :=
  Tr.ast (r3_Minus_s b)
    (Tr.ast (r3_Add_s a (r3_Minus b))
      (Tr.ast (r3_Sign_s (r3_Add a (r3_Minus b))) (Tr.leaf (r3_Sign (r3_Add a (r3_Minus b))))))
def r3_Cmp_t (a : RQ) (b : RQ) : Tr (Int) := r3_Cmp_T r3_Minus r3_Minus_s r3_Add r3_Add_s r3_Sign r3_Sign_s a b
def r3_Cmp (a : RQ) (b : RQ) : Int := (r3_Cmp_t a b).val
def r3_Cmp_s (a : RQ) (b : RQ) : Bool := (r3_Cmp_t a b).safe
def r3_Text_T (r2_Text : (List Bool) → (List UInt8)) (r2_Text_s : (List Bool) → Bool) (r3_one : ((List Bool))) (r1_Cmp : (List Bool) → (List Bool) → Int) (r1_Cmp_s : (List Bool) → (List Bool) → Bool) (a : RQ) : Tr ((List UInt8)) :=
  Tr.ast (r2_Text_s a.num)
    (Tr.br a.neg
      (Tr.ast (decide (#[45].toList.length + (r2_Text a.num).length ≤ 9223372036854775807))
        (Tr.ast (r1_Cmp_s a.den r3_one)
          (Tr.br (r1_Cmp a.den r3_one != 0)
            (Tr.ast (decide ((#[45].toList ++ r2_Text a.num).length + #[47].toList.length ≤ 9223372036854775807))
              (Tr.ast (r2_Text_s a.den)
                (Tr.ast
                  (decide
                    ((#[45].toList ++ r2_Text a.num ++ #[47].toList).length + (r2_Text a.den).length ≤
                      9223372036854775807))
                  (Tr.leaf (45 :: ([] ++ r2_Text a.num ++ #[47].toList ++ r2_Text a.den))))))
            (Tr.leaf (45 :: ([] ++ r2_Text a.num))))))
      (Tr.ast (r1_Cmp_s a.den r3_one)
        (Tr.br (r1_Cmp a.den r3_one != 0)
          (Tr.ast (decide ((r2_Text a.num).length + #[47].toList.length ≤ 9223372036854775807))
            (Tr.ast (r2_Text_s a.den)
              (Tr.ast (decide ((r2_Text a.num ++ #[47].toList).length + (r2_Text a.den).length ≤ 9223372036854775807))
                (Tr.leaf (r2_Text a.num ++ #[47].toList ++ r2_Text a.den)))))
          (Tr.leaf (r2_Text a.num)))))
def r3_Text_t (a : RQ) : Tr ((List UInt8)) := r3_Text_T r2_Text r2_Text_s r3_one r1_Cmp r1_Cmp_s a
def r3_Text (a : RQ) : (List UInt8) := (r3_Text_t a).val
def r3_Text_s (a : RQ) : Bool := (r3_Text_t a).safe
end Go.Fb
