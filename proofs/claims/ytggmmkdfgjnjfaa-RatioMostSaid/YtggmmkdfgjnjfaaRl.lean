/- Layer 3: what the laws compute, as definitions. Conditions: none. -/
import Derived.Test.YtggmmkdfgjnjfaaRd
namespace Go.Fb
open Go.Ev
def l3_works_T (n_New : Int → (List Int)) (n_New_s : Int → Bool) (q_New : Bool → (List Int) → (List Int) → RR × Int) (q_New_s : Bool → (List Int) → (List Int) → Bool) (q_Dyad : Bool → Int → Int → RR × Int) (q_Dyad_s : Bool → Int → Int → Bool) (q_Div : RR → RR → RR × Int) (q_Div_s : RR → RR → Bool) (q_Text : RR → (List UInt8)) (q_Text_s : RR → Bool) (q_Add : RR → RR → RR) (q_Add_s : RR → RR → Bool) (q_Sub : RR → RR → RR) (q_Sub_s : RR → RR → Bool) (q_Mul : RR → RR → RR) (q_Mul_s : RR → RR → Bool) (q_Cmp : RR → RR → Int) (q_Cmp_s : RR → RR → Bool) (q_Neg1 : RR → RR) (q_Neg1_s : RR → Bool) (q_Abs : RR → RR) (q_Abs_s : RR → Bool) (q_Sign : RR → Int) (q_Sign_s : RR → Bool) (q_Len : RR → Int) (q_Len_s : RR → Bool) (q_Int : Int → RR) (q_Int_s : Int → Bool) (q_Max : (List (List Cv)) → RR) (q_Max_s : (List (List Cv)) → Bool)  : Tr (Bool) :=
  let t0 : Int := -1;
  let t1 : Int := -7;
  let t2 : RR := q_Int t1;
  let t3 : RR × Int := q_New true [] (n_New 5);
  let t4 : RR := t3.fst;
  let t5 : RR × Int := q_New true (n_New 6) (n_New 4);
  let t6 : RR × Int := q_Dyad false 3 t0;
  let t7 : RR := (q_New false (n_New 1) (n_New 3)).fst;
  let t8 : RR := t5.fst;
  let t9 : RR := (q_New false (n_New 1) (n_New 2)).fst;
  let t10 : RR := q_Abs t8;
  let t11 : RR := t6.fst;
  let t12 : RR := q_Neg1 t8;
  let t13 : RR := q_Mul t9 t7;
  let t14 : RR × Int := q_Div t9 t7;
  let t15 : RR := q_Sub t9 t7;
  let t16 : RR := q_Add t9 t7;
  let t17 : RR := t14.fst;
  let t18 : List (List Cv) :=
    id
      [[Cv.b t8.neg, Cv.l t8.num, Cv.l t8.den], [Cv.b t9.neg, Cv.l t9.num, Cv.l t9.den],
        [Cv.b t7.neg, Cv.l t7.num, Cv.l t7.den]];
  let t19 : RR := q_Max t18;
  Tr.ast (n_New_s 6)
    (Tr.ast (n_New_s 4)
      (Tr.ast (q_New_s true (n_New 6) (n_New 4))
        (Tr.ast (n_New_s 5)
          (Tr.ast (q_New_s true [] (n_New 5))
            (Tr.ast (q_Dyad_s false 3 t0)
              (Tr.ast (q_Div_s t8 t4)
                (Tr.ast (n_New_s 1)
                  (Tr.ast (n_New_s 2)
                    (Tr.ast (q_New_s false (n_New 1) (n_New 2))
                      (Tr.ast (n_New_s 1)
                        (Tr.ast (n_New_s 3)
                          (Tr.ast (q_New_s false (n_New 1) (n_New 3))
                            (Tr.ast (q_Div_s t9 t7)
                              (Tr.ast (q_Text_s t8)
                                (Tr.br (q_Text t8 == #[45, 51, 47, 50].toList)
                                  (Tr.br (t5.snd == 0)
                                    (Tr.ast (q_Text_s t4)
                                      (Tr.br (q_Text t4 == #[48].toList)
                                        (Tr.br (t3.snd == 0)
                                          (Tr.ast (q_Text_s t11)
                                            (Tr.br (q_Text t11 == #[51, 47, 50].toList)
                                              (Tr.br (t6.snd == 0)
                                                (Tr.br ((q_Div t8 t4).snd == 30)
                                                  (Tr.ast (q_Add_s t9 t7)
                                                    (Tr.ast (q_Text_s t16)
                                                      (Tr.br (q_Text t16 == #[53, 47, 54].toList)
                                                        (Tr.ast (q_Sub_s t9 t7)
                                                          (Tr.ast (q_Text_s t15)
                                                            (Tr.br (q_Text t15 == #[49, 47, 54].toList)
                                                              (Tr.ast (q_Mul_s t9 t7)
                                                                (Tr.ast (q_Text_s t13)
                                                                  (Tr.br (q_Text t13 == #[49, 47, 54].toList)
                                                                    (Tr.ast (q_Text_s t17)
                                                                      (Tr.br (q_Text t17 == #[51, 47, 50].toList)
                                                                        (Tr.br (t14.snd == 0)
                                                                          (Tr.ast (q_Cmp_s t9 t7)
                                                                            (Tr.br (q_Cmp t9 t7 == 1)
                                                                              (Tr.ast (q_Neg1_s t8)
                                                                                (Tr.ast (q_Cmp_s t12 t11)
                                                                                  (Tr.br (q_Cmp t12 t11 == 0)
                                                                                    (Tr.ast (q_Abs_s t8)
                                                                                      (Tr.ast (q_Cmp_s t10 t11)
                                                                                        (Tr.br (q_Cmp t10 t11 == 0)
                                                                                          (Tr.ast (q_Sign_s t8)
                                                                                            (Tr.br (q_Sign t8 == t0)
                                                                                              (Tr.ast (q_Len_s t11)
                                                                                                (Tr.br (q_Len t11 == 4)
                                                                                                  (Tr.ast (q_Int_s t1)
                                                                                                    (Tr.ast (q_Text_s t2)
                                                                                                      (Tr.br
                                                                                                        (q_Text t2 ==
                                                                                                          #[45,
                                                                                                              55].toList)
                                                                                                        (Tr.ast
                                                                                                          (q_Max_s t18)
                                                                                                          (Tr.ast
                                                                                                            (q_Cmp_s t19
                                                                                                              t9)
                                                                                                            (Tr.leaf
                                                                                                              (q_Cmp t19
                                                                                                                  t9 ==
                                                                                                                0))))
                                                                                                        (Tr.leaf false))))
                                                                                                  (Tr.leaf false)))
                                                                                              (Tr.leaf false)))
                                                                                          (Tr.leaf false))))
                                                                                    (Tr.leaf false))))
                                                                              (Tr.leaf false)))
                                                                          (Tr.leaf false))
                                                                        (Tr.leaf false)))
                                                                    (Tr.leaf false))))
                                                              (Tr.leaf false))))
                                                        (Tr.leaf false))))
                                                  (Tr.leaf false))
                                                (Tr.leaf false))
                                              (Tr.leaf false)))
                                          (Tr.leaf false))
                                        (Tr.leaf false)))
                                    (Tr.leaf false))
                                  (Tr.leaf false))))))))))))))))
def l3_works_t  : Tr (Bool) := l3_works_T n_New n_New_s q_New q_New_s q_Dyad q_Dyad_s q_Div q_Div_s q_Text q_Text_s q_Add q_Add_s q_Sub q_Sub_s q_Mul q_Mul_s q_Cmp q_Cmp_s q_Neg1 q_Neg1_s q_Abs q_Abs_s q_Sign q_Sign_s q_Len q_Len_s q_Int q_Int_s q_Max q_Max_s 
def l3_works  : Bool := (l3_works_t ).val
def l3_works_s  : Bool := (l3_works_t ).safe
def l3_small_L0_T  (v0 : List (List Cv)) (_v2 : Bool) (v3 : Int) : Tr ((Int) ⊕ ((Int) ⊕ (Bool))) :=
  Tr.br (decide (v3 < (v0.length : Int)))
    (Tr.ast (decide (0 ≤ v3) && decide (v3 < (v0.length : Int)))
      (Tr.br (decide ((((v0.getD v3.toNat []).tail.headD (Cv.i 0)).ints.length : Int) > 4)) (Tr.leaf (Sum.inr (Sum.inr false)))
        (Tr.ast (decide (0 ≤ v3) && decide (v3 < (v0.length : Int)))
          (Tr.br (decide ((((v0.getD v3.toNat []).tail.tail.headD (Cv.i 0)).ints.length : Int) > 4))
            (Tr.leaf (Sum.inr (Sum.inr false))) (Tr.leaf (Sum.inl (IntKind.i64.wrap (v3 + 1))))))))
    (Tr.leaf (Sum.inr (Sum.inl v3)))
def l3_small_L0_step (p : (List (List Cv)) × Bool) (x : Int) : Tr ((Int) ⊕ ((Int) ⊕ (Bool))) := l3_small_L0_T  p.1 p.2 x
def l3_small_L0_r (p : (List (List Cv)) × Bool) (x : Int) : Option ((Int) ⊕ (Bool)) := runB (l3_small_L0_step p) x
def l3_small_L0_rt (p : (List (List Cv)) × Bool) (x : Int) : Bool := isR (l3_small_L0_r p x)
def l3_small_L0_v (p : (List (List Cv)) × Bool) (x : Int) : Int := outL_ x (l3_small_L0_r p x)
def l3_small_L0_rv (p : (List (List Cv)) × Bool) (x : Int) : Bool := outR_ false (l3_small_L0_r p x)
def l3_small_L0_ok (p : (List (List Cv)) × Bool) (x : Int) : Bool := (l3_small_L0_r p x).isSome
def l3_small_T (l3_small_L0_ok : ((List (List Cv)) × Bool) → Int → Bool) (l3_small_L0_rt : ((List (List Cv)) × Bool) → Int → Bool) (l3_small_L0_rv : ((List (List Cv)) × Bool) → Int → Bool) (l : List (List Cv)) : Tr (Bool) :=
  Tr.ast (l3_small_L0_ok (id l, false) 0)
    (Tr.br (l3_small_L0_rt (id l, false) 0) (Tr.leaf (l3_small_L0_rv (id l, false) 0)) (Tr.leaf true))
def l3_small_t (l : List (List Cv)) : Tr (Bool) := l3_small_T l3_small_L0_ok l3_small_L0_rt l3_small_L0_rv l
def l3_small (l : List (List Cv)) : Bool := (l3_small_t l).val
def l3_small_s (l : List (List Cv)) : Bool := (l3_small_t l).safe
def l3_of_T (r2_Bits : (List Int) → (List Bool)) (r2_Bits_s : (List Int) → Bool) (r3_Low : Bool → (List Bool) → (List Bool) → RQ) (r3_Low_s : Bool → (List Bool) → (List Bool) → Bool) (a : RR) : Tr (RQ) :=
  Tr.ast (r2_Bits_s a.num)
    (Tr.ast (r2_Bits_s a.den)
      (Tr.ast (r3_Low_s a.neg (r2_Bits a.num) (r2_Bits a.den)) (Tr.leaf (r3_Low a.neg (r2_Bits a.num) (r2_Bits a.den)))))
def l3_of_t (a : RR) : Tr (RQ) := l3_of_T r2_Bits r2_Bits_s r3_Low r3_Low_s a
def l3_of (a : RR) : RQ := (l3_of_t a).val
def l3_of_s (a : RR) : Bool := (l3_of_t a).safe
def l3_is_T (r2_Is : (List Int) → (List Bool) → Bool) (r2_Is_s : (List Int) → (List Bool) → Bool) (a : RR) (q : RQ) : Tr (Bool) :=
  Tr.br (a.neg == q.neg)
    (Tr.ast (r2_Is_s a.num q.num)
      (Tr.br (r2_Is a.num q.num) (Tr.ast (r2_Is_s a.den q.den) (Tr.leaf (r2_Is a.den q.den))) (Tr.leaf false)))
    (Tr.leaf false)
def l3_is_t (a : RR) (q : RQ) : Tr (Bool) := l3_is_T r2_Is r2_Is_s a q
def l3_is (a : RR) (q : RQ) : Bool := (l3_is_t a q).val
def l3_is_s (a : RR) (q : RQ) : Bool := (l3_is_t a q).safe
def l_RatioAdds_T (l3_works : Bool) (l3_works_s : Bool) (l3_small : (List (List Cv)) → Bool) (l3_small_s : (List (List Cv)) → Bool) (l3_of : RR → RQ) (l3_of_s : RR → Bool) (q_Add : RR → RR → RR) (q_Add_s : RR → RR → Bool) (r3_Add : RQ → RQ → RQ) (r3_Add_s : RQ → RQ → Bool) (l3_is : RR → RQ → Bool) (l3_is_s : RR → RQ → Bool) (q_Sub : RR → RR → RR) (q_Sub_s : RR → RR → Bool) (r3_Minus : RQ → RQ) (r3_Minus_s : RQ → Bool) (a : RR) (b : RR) : Tr (Bool) :=
  Tr.ast l3_works_s
    (Tr.br (!l3_works) (Tr.leaf false)
      (Tr.ast (l3_small_s (id [[Cv.b a.neg, Cv.l a.num, Cv.l a.den], [Cv.b b.neg, Cv.l b.num, Cv.l b.den]]))
        (Tr.br (!l3_small (id [[Cv.b a.neg, Cv.l a.num, Cv.l a.den], [Cv.b b.neg, Cv.l b.num, Cv.l b.den]]))
          (Tr.leaf l3_works)
          (Tr.ast (l3_of_s a)
            (Tr.ast (l3_of_s b)
              (Tr.ast (q_Add_s a b)
                (Tr.ast (r3_Add_s (l3_of a) (l3_of b))
                  (Tr.ast (l3_is_s (q_Add a b) (r3_Add (l3_of a) (l3_of b)))
                    (Tr.ast (q_Sub_s a b)
                      (Tr.ast (r3_Minus_s (l3_of b))
                        (Tr.ast (r3_Add_s (l3_of a) (r3_Minus (l3_of b)))
                          (Tr.ast (l3_is_s (q_Sub a b) (r3_Add (l3_of a) (r3_Minus (l3_of b))))
                            (Tr.br l3_works
                              (Tr.br (l3_is (q_Add a b) (r3_Add (l3_of a) (l3_of b)))
                                (Tr.leaf (l3_is (q_Sub a b) (r3_Add (l3_of a) (r3_Minus (l3_of b))))) (Tr.leaf false))
                              (Tr.leaf false))))))))))))))
def l_RatioAdds_t (a : RR) (b : RR) : Tr (Bool) := l_RatioAdds_T l3_works l3_works_s l3_small l3_small_s l3_of l3_of_s q_Add q_Add_s r3_Add r3_Add_s l3_is l3_is_s q_Sub q_Sub_s r3_Minus r3_Minus_s a b
def l_RatioAdds (a : RR) (b : RR) : Bool := (l_RatioAdds_t a b).val
def l_RatioAdds_s (a : RR) (b : RR) : Bool := (l_RatioAdds_t a b).safe
def l_RatioMuls_T (l3_works : Bool) (l3_works_s : Bool) (l3_small : (List (List Cv)) → Bool) (l3_small_s : (List (List Cv)) → Bool) (l3_of : RR → RQ) (l3_of_s : RR → Bool) (q_Mul : RR → RR → RR) (q_Mul_s : RR → RR → Bool) (r3_Mul : RQ → RQ → RQ) (r3_Mul_s : RQ → RQ → Bool) (l3_is : RR → RQ → Bool) (l3_is_s : RR → RQ → Bool) (q_Div : RR → RR → RR × Int) (q_Div_s : RR → RR → Bool) (r3_Sign : RQ → Int) (r3_Sign_s : RQ → Bool) (r3_Over : RQ → RQ) (r3_Over_s : RQ → Bool) (a : RR) (b : RR) : Tr (Bool) :=
  Tr.ast l3_works_s
    (Tr.br (!l3_works) (Tr.leaf false)
      (Tr.ast (l3_small_s (id [[Cv.b a.neg, Cv.l a.num, Cv.l a.den], [Cv.b b.neg, Cv.l b.num, Cv.l b.den]]))
        (Tr.br (!l3_small (id [[Cv.b a.neg, Cv.l a.num, Cv.l a.den], [Cv.b b.neg, Cv.l b.num, Cv.l b.den]]))
          (Tr.leaf l3_works)
          (Tr.ast (l3_of_s a)
            (Tr.ast (l3_of_s b)
              (Tr.ast (q_Mul_s a b)
                (Tr.ast (r3_Mul_s (l3_of a) (l3_of b))
                  (Tr.ast (l3_is_s (q_Mul a b) (r3_Mul (l3_of a) (l3_of b)))
                    (Tr.ast (q_Div_s a b)
                      (Tr.ast (r3_Sign_s (l3_of b))
                        (Tr.br (r3_Sign (l3_of b) == 0)
                          (Tr.br l3_works
                            (Tr.br (l3_is (q_Mul a b) (r3_Mul (l3_of a) (l3_of b)))
                              (Tr.br ((q_Div a b).snd == 30)
                                (Tr.br (((q_Div a b).fst.num.length : Int) == 0)
                                  (Tr.br (((q_Div a b).fst.den.length : Int) == 0) (Tr.leaf !(q_Div a b).fst.neg)
                                    (Tr.leaf false))
                                  (Tr.leaf false))
                                (Tr.leaf false))
                              (Tr.leaf false))
                            (Tr.leaf false))
                          (Tr.ast (r3_Over_s (l3_of b))
                            (Tr.ast (r3_Mul_s (l3_of a) (r3_Over (l3_of b)))
                              (Tr.ast (l3_is_s (q_Div a b).fst (r3_Mul (l3_of a) (r3_Over (l3_of b))))
                                (Tr.br l3_works
                                  (Tr.br (l3_is (q_Mul a b) (r3_Mul (l3_of a) (l3_of b)))
                                    (Tr.br (l3_is (q_Div a b).fst (r3_Mul (l3_of a) (r3_Over (l3_of b))))
                                      (Tr.leaf ((q_Div a b).snd == 0)) (Tr.leaf false))
                                    (Tr.leaf false))
                                  (Tr.leaf false))))))))))))))))
def l_RatioMuls_t (a : RR) (b : RR) : Tr (Bool) := l_RatioMuls_T l3_works l3_works_s l3_small l3_small_s l3_of l3_of_s q_Mul q_Mul_s r3_Mul r3_Mul_s l3_is l3_is_s q_Div q_Div_s r3_Sign r3_Sign_s r3_Over r3_Over_s a b
def l_RatioMuls (a : RR) (b : RR) : Bool := (l_RatioMuls_t a b).val
def l_RatioMuls_s (a : RR) (b : RR) : Bool := (l_RatioMuls_t a b).safe
def l_RatioOrders_T (l3_works : Bool) (l3_works_s : Bool) (l3_small : (List (List Cv)) → Bool) (l3_small_s : (List (List Cv)) → Bool) (l3_of : RR → RQ) (l3_of_s : RR → Bool) (q_Neg1 : RR → RR) (q_Neg1_s : RR → Bool) (r3_Minus : RQ → RQ) (r3_Minus_s : RQ → Bool) (l3_is : RR → RQ → Bool) (l3_is_s : RR → RQ → Bool) (r3_Low : Bool → (List Bool) → (List Bool) → RQ) (r3_Low_s : Bool → (List Bool) → (List Bool) → Bool) (q_Abs : RR → RR) (q_Abs_s : RR → Bool) (q_Cmp : RR → RR → Int) (q_Cmp_s : RR → RR → Bool) (r3_Cmp : RQ → RQ → Int) (r3_Cmp_s : RQ → RQ → Bool) (q_Sign : RR → Int) (q_Sign_s : RR → Bool) (r3_Sign : RQ → Int) (r3_Sign_s : RQ → Bool) (q_Len : RR → Int) (q_Len_s : RR → Bool) (r1_Len : (List Bool) → Int) (r1_Len_s : (List Bool) → Bool) (q_Text : RR → (List UInt8)) (q_Text_s : RR → Bool) (r3_Text : RQ → (List UInt8)) (r3_Text_s : RQ → Bool) (a : RR) (b : RR) : Tr (Bool) :=
  Tr.ast l3_works_s
    (Tr.br (!l3_works) (Tr.leaf false)
      (Tr.ast (l3_small_s (id [[Cv.b a.neg, Cv.l a.num, Cv.l a.den], [Cv.b b.neg, Cv.l b.num, Cv.l b.den]]))
        (Tr.br (!l3_small (id [[Cv.b a.neg, Cv.l a.num, Cv.l a.den], [Cv.b b.neg, Cv.l b.num, Cv.l b.den]]))
          (Tr.leaf l3_works)
          (Tr.ast (l3_of_s a)
            (Tr.ast (l3_of_s b)
              (Tr.ast (q_Neg1_s a)
                (Tr.ast (r3_Minus_s (l3_of a))
                  (Tr.ast (l3_is_s (q_Neg1 a) (r3_Minus (l3_of a)))
                    (Tr.ast (r3_Low_s false (l3_of a).num (l3_of a).den)
                      (Tr.ast (q_Abs_s a)
                        (Tr.ast (l3_is_s (q_Abs a) (r3_Low false (l3_of a).num (l3_of a).den))
                          (Tr.br l3_works
                            (Tr.br (l3_is (q_Neg1 a) (r3_Minus (l3_of a)))
                              (Tr.br (l3_is (q_Abs a) (r3_Low false (l3_of a).num (l3_of a).den))
                                (Tr.ast (q_Cmp_s a b)
                                  (Tr.ast (r3_Cmp_s (l3_of a) (l3_of b))
                                    (Tr.br (q_Cmp a b == r3_Cmp (l3_of a) (l3_of b))
                                      (Tr.ast (q_Sign_s a)
                                        (Tr.ast (r3_Sign_s (l3_of a))
                                          (Tr.br (q_Sign a == r3_Sign (l3_of a))
                                            (Tr.ast (q_Len_s a)
                                              (Tr.ast (r1_Len_s (l3_of a).num)
                                                (Tr.ast (r1_Len_s (l3_of a).den)
                                                  (Tr.br
                                                    (q_Len a ==
                                                      IntKind.i64.wrap (r1_Len (l3_of a).num + r1_Len (l3_of a).den))
                                                    (Tr.ast (q_Text_s a)
                                                      (Tr.ast (r3_Text_s (l3_of a))
                                                        (Tr.leaf (q_Text a == r3_Text (l3_of a)))))
                                                    (Tr.leaf false)))))
                                            (Tr.leaf false))))
                                      (Tr.leaf false))))
                                (Tr.leaf false))
                              (Tr.leaf false))
                            (Tr.leaf false)))))))))))))
def l_RatioOrders_t (a : RR) (b : RR) : Tr (Bool) := l_RatioOrders_T l3_works l3_works_s l3_small l3_small_s l3_of l3_of_s q_Neg1 q_Neg1_s r3_Minus r3_Minus_s l3_is l3_is_s r3_Low r3_Low_s q_Abs q_Abs_s q_Cmp q_Cmp_s r3_Cmp r3_Cmp_s q_Sign q_Sign_s r3_Sign r3_Sign_s q_Len q_Len_s r1_Len r1_Len_s q_Text q_Text_s r3_Text r3_Text_s a b
def l_RatioOrders (a : RR) (b : RR) : Bool := (l_RatioOrders_t a b).val
def l_RatioOrders_s (a : RR) (b : RR) : Bool := (l_RatioOrders_t a b).safe
def l_RatioMakes_T (l3_works : Bool) (l3_works_s : Bool) (r2_Bits : (List Int) → (List Bool)) (r2_Bits_s : (List Int) → Bool) (q_New : Bool → (List Int) → (List Int) → RR × Int) (q_New_s : Bool → (List Int) → (List Int) → Bool) (r3_Low : Bool → (List Bool) → (List Bool) → RQ) (r3_Low_s : Bool → (List Bool) → (List Bool) → Bool) (l3_is : RR → RQ → Bool) (l3_is_s : RR → RQ → Bool) (r1_Of1 : Int → (List Bool)) (r1_Of1_s : Int → Bool) (q_Int : Int → RR) (q_Int_s : Int → Bool) (q_Dyad : Bool → Int → Int → RR × Int) (q_Dyad_s : Bool → Int → Int → Bool) (r1_Shl : (List Bool) → Int → (List Bool)) (r1_Shl_s : (List Bool) → Int → Bool) (neg : Bool) (num : List Int) (den : List Int) (x : Int) (m : Int) (e : Int) : Tr (Bool) :=
  let t0 : Int := -200;
  let t1 : Int := -8192;
  let t2 : Bool := r1_Shl_s (r1_Of1 m) (imax e 0);
  let t3 : List Bool := r1_Shl (r1_Of1 m) (imax e 0);
  let t4 : Int := ((q_New neg num den).fst.den.length : Int);
  let t5 : Bool := l3_is (q_New neg num den).fst (r3_Low neg (r2_Bits num) (r2_Bits den));
  let t6 : Bool := decide (e > 8192);
  let t7 : Bool := decide (x < 0);
  let t8 : Int := IntKind.u64.wrap (0 - IntKind.u64.wrap x);
  let t9 : Bool := (q_New neg num den).snd != 0;
  let t10 : Bool := decide (e > 200);
  let t11 : List Bool := r1_Of1 t8;
  let t12 : Bool := r1_Of1_s t8;
  let t13 : Int := imax (IntKind.i64.wrap (0 - e)) 0;
  let t14 : Bool := decide (e < t0);
  let t15 : Bool := decide (e < t1);
  let t16 : Bool := r3_Low_s t7 (r1_Of1 (IntKind.u64.wrap x)) (r1_Of1 1);
  let t17 : RQ := r3_Low t7 (r1_Of1 (IntKind.u64.wrap x)) (r1_Of1 1);
  let t18 : Bool := r1_Shl_s (r1_Of1 1) t13;
  let t19 : List Bool := r1_Shl (r1_Of1 1) t13;
  let t20 : Bool := l3_is_s (q_Int x) t17;
  let t21 : Bool := l3_is (q_Int x) t17;
  let t22 : Bool := r3_Low_s neg t3 t19;
  let t23 : RQ := r3_Low neg t3 t19;
  let t24 : RQ := r3_Low t7 t11 (r1_Of1 1);
  let t25 : Bool := r3_Low_s t7 t11 (r1_Of1 1);
  let t26 : Bool := l3_is (q_Int x) t24;
  let t27 : Bool := l3_is_s (q_Int x) t24;
  let t28 : Bool := l3_is_s (q_Dyad neg m e).fst t23;
  Tr.ast l3_works_s
    (Tr.br (!l3_works) (Tr.leaf false)
      (Tr.br (decide ((num.length : Int) > 4)) (Tr.leaf l3_works)
        (Tr.br (decide ((den.length : Int) > 4)) (Tr.leaf l3_works)
          (Tr.ast (r2_Bits_s num)
            (Tr.ast (r2_Bits_s den)
              (Tr.ast (q_New_s neg num den)
                (Tr.br (!((q_New neg num den).snd == 0) == decide (((r2_Bits den).length : Int) > 0)) (Tr.leaf false)
                  (Tr.br t9
                    (Tr.br ((q_New neg num den).snd != 30) (Tr.leaf false)
                      (Tr.br (decide (t4 > 0)) (Tr.leaf false)
                        (Tr.br t9
                          (Tr.br t7
                            (Tr.ast (r1_Of1_s 1)
                              (Tr.ast (q_Int_s x)
                                (Tr.ast t12
                                  (Tr.ast t25
                                    (Tr.ast t27
                                      (Tr.ast (q_Dyad_s neg m e)
                                        (Tr.br t15
                                          (Tr.br l3_works
                                            (Tr.br t26
                                              (Tr.br ((q_Dyad neg m e).snd == 31)
                                                (Tr.leaf (((q_Dyad neg m e).fst.den.length : Int) == 0)) (Tr.leaf false))
                                              (Tr.leaf false))
                                            (Tr.leaf false))
                                          (Tr.br t6
                                            (Tr.br l3_works
                                              (Tr.br t26
                                                (Tr.br ((q_Dyad neg m e).snd == 31)
                                                  (Tr.leaf (((q_Dyad neg m e).fst.den.length : Int) == 0)) (Tr.leaf false))
                                                (Tr.leaf false))
                                              (Tr.leaf false))
                                            (Tr.br t14
                                              (Tr.br l3_works
                                                (Tr.br t26 (Tr.leaf ((q_Dyad neg m e).snd == 0)) (Tr.leaf false))
                                                (Tr.leaf false))
                                              (Tr.br t10
                                                (Tr.br l3_works
                                                  (Tr.br t26 (Tr.leaf ((q_Dyad neg m e).snd == 0)) (Tr.leaf false))
                                                  (Tr.leaf false))
                                                (Tr.ast (r1_Of1_s m)
                                                  (Tr.ast t2
                                                    (Tr.ast t18
                                                      (Tr.ast t22
                                                        (Tr.ast t28
                                                          (Tr.br l3_works
                                                            (Tr.br t26
                                                              (Tr.br (l3_is (q_Dyad neg m e).fst t23)
                                                                (Tr.leaf ((q_Dyad neg m e).snd == 0)) (Tr.leaf false))
                                                              (Tr.leaf false))
                                                            (Tr.leaf false)))))))))))))))))
                            (Tr.ast (r1_Of1_s 1)
                              (Tr.ast (q_Int_s x)
                                (Tr.ast (r1_Of1_s (IntKind.u64.wrap x))
                                  (Tr.ast t16
                                    (Tr.ast t20
                                      (Tr.ast (q_Dyad_s neg m e)
                                        (Tr.br t15
                                          (Tr.br l3_works
                                            (Tr.br t21
                                              (Tr.br ((q_Dyad neg m e).snd == 31)
                                                (Tr.leaf (((q_Dyad neg m e).fst.den.length : Int) == 0)) (Tr.leaf false))
                                              (Tr.leaf false))
                                            (Tr.leaf false))
                                          (Tr.br t6
                                            (Tr.br l3_works
                                              (Tr.br t21
                                                (Tr.br ((q_Dyad neg m e).snd == 31)
                                                  (Tr.leaf (((q_Dyad neg m e).fst.den.length : Int) == 0)) (Tr.leaf false))
                                                (Tr.leaf false))
                                              (Tr.leaf false))
                                            (Tr.br t14
                                              (Tr.br l3_works
                                                (Tr.br t21 (Tr.leaf ((q_Dyad neg m e).snd == 0)) (Tr.leaf false))
                                                (Tr.leaf false))
                                              (Tr.br t10
                                                (Tr.br l3_works
                                                  (Tr.br t21 (Tr.leaf ((q_Dyad neg m e).snd == 0)) (Tr.leaf false))
                                                  (Tr.leaf false))
                                                (Tr.ast (r1_Of1_s m)
                                                  (Tr.ast t2
                                                    (Tr.ast t18
                                                      (Tr.ast t22
                                                        (Tr.ast t28
                                                          (Tr.br l3_works
                                                            (Tr.br t21
                                                              (Tr.br (l3_is (q_Dyad neg m e).fst t23)
                                                                (Tr.leaf ((q_Dyad neg m e).snd == 0)) (Tr.leaf false))
                                                              (Tr.leaf false))
                                                            (Tr.leaf false))))))))))))))))))
                          (Tr.ast (r3_Low_s neg (r2_Bits num) (r2_Bits den))
                            (Tr.ast (l3_is_s (q_New neg num den).fst (r3_Low neg (r2_Bits num) (r2_Bits den)))
                              (Tr.br t7
                                (Tr.ast (r1_Of1_s 1)
                                  (Tr.ast (q_Int_s x)
                                    (Tr.ast t12
                                      (Tr.ast t25
                                        (Tr.ast t27
                                          (Tr.ast (q_Dyad_s neg m e)
                                            (Tr.br t15
                                              (Tr.br l3_works
                                                (Tr.br t5
                                                  (Tr.br t26
                                                    (Tr.br ((q_Dyad neg m e).snd == 31)
                                                      (Tr.leaf (((q_Dyad neg m e).fst.den.length : Int) == 0)) (Tr.leaf false))
                                                    (Tr.leaf false))
                                                  (Tr.leaf false))
                                                (Tr.leaf false))
                                              (Tr.br t6
                                                (Tr.br l3_works
                                                  (Tr.br t5
                                                    (Tr.br t26
                                                      (Tr.br ((q_Dyad neg m e).snd == 31)
                                                        (Tr.leaf (((q_Dyad neg m e).fst.den.length : Int) == 0)) (Tr.leaf false))
                                                      (Tr.leaf false))
                                                    (Tr.leaf false))
                                                  (Tr.leaf false))
                                                (Tr.br t14
                                                  (Tr.br l3_works
                                                    (Tr.br t5
                                                      (Tr.br t26 (Tr.leaf ((q_Dyad neg m e).snd == 0)) (Tr.leaf false))
                                                      (Tr.leaf false))
                                                    (Tr.leaf false))
                                                  (Tr.br t10
                                                    (Tr.br l3_works
                                                      (Tr.br t5
                                                        (Tr.br t26 (Tr.leaf ((q_Dyad neg m e).snd == 0)) (Tr.leaf false))
                                                        (Tr.leaf false))
                                                      (Tr.leaf false))
                                                    (Tr.ast (r1_Of1_s m)
                                                      (Tr.ast t2
                                                        (Tr.ast t18
                                                          (Tr.ast t22
                                                            (Tr.ast t28
                                                              (Tr.br l3_works
                                                                (Tr.br t5
                                                                  (Tr.br t26
                                                                    (Tr.br (l3_is (q_Dyad neg m e).fst t23)
                                                                      (Tr.leaf ((q_Dyad neg m e).snd == 0))
                                                                      (Tr.leaf false))
                                                                    (Tr.leaf false))
                                                                  (Tr.leaf false))
                                                                (Tr.leaf false)))))))))))))))))
                                (Tr.ast (r1_Of1_s 1)
                                  (Tr.ast (q_Int_s x)
                                    (Tr.ast (r1_Of1_s (IntKind.u64.wrap x))
                                      (Tr.ast t16
                                        (Tr.ast t20
                                          (Tr.ast (q_Dyad_s neg m e)
                                            (Tr.br t15
                                              (Tr.br l3_works
                                                (Tr.br t5
                                                  (Tr.br t21
                                                    (Tr.br ((q_Dyad neg m e).snd == 31)
                                                      (Tr.leaf (((q_Dyad neg m e).fst.den.length : Int) == 0)) (Tr.leaf false))
                                                    (Tr.leaf false))
                                                  (Tr.leaf false))
                                                (Tr.leaf false))
                                              (Tr.br t6
                                                (Tr.br l3_works
                                                  (Tr.br t5
                                                    (Tr.br t21
                                                      (Tr.br ((q_Dyad neg m e).snd == 31)
                                                        (Tr.leaf (((q_Dyad neg m e).fst.den.length : Int) == 0)) (Tr.leaf false))
                                                      (Tr.leaf false))
                                                    (Tr.leaf false))
                                                  (Tr.leaf false))
                                                (Tr.br t14
                                                  (Tr.br l3_works
                                                    (Tr.br t5
                                                      (Tr.br t21 (Tr.leaf ((q_Dyad neg m e).snd == 0)) (Tr.leaf false))
                                                      (Tr.leaf false))
                                                    (Tr.leaf false))
                                                  (Tr.br t10
                                                    (Tr.br l3_works
                                                      (Tr.br t5
                                                        (Tr.br t21 (Tr.leaf ((q_Dyad neg m e).snd == 0)) (Tr.leaf false))
                                                        (Tr.leaf false))
                                                      (Tr.leaf false))
                                                    (Tr.ast (r1_Of1_s m)
                                                      (Tr.ast t2
                                                        (Tr.ast t18
                                                          (Tr.ast t22
                                                            (Tr.ast t28
                                                              (Tr.br l3_works
                                                                (Tr.br t5
                                                                  (Tr.br t21
                                                                    (Tr.br (l3_is (q_Dyad neg m e).fst t23)
                                                                      (Tr.leaf ((q_Dyad neg m e).snd == 0))
                                                                      (Tr.leaf false))
                                                                    (Tr.leaf false))
                                                                  (Tr.leaf false))
                                                                (Tr.leaf false)))))))))))))))))))))))
                    (Tr.br t9
                      (Tr.br t7
                        (Tr.ast (r1_Of1_s 1)
                          (Tr.ast (q_Int_s x)
                            (Tr.ast t12
                              (Tr.ast t25
                                (Tr.ast t27
                                  (Tr.ast (q_Dyad_s neg m e)
                                    (Tr.br t15
                                      (Tr.br l3_works
                                        (Tr.br t26
                                          (Tr.br ((q_Dyad neg m e).snd == 31)
                                            (Tr.leaf (((q_Dyad neg m e).fst.den.length : Int) == 0)) (Tr.leaf false))
                                          (Tr.leaf false))
                                        (Tr.leaf false))
                                      (Tr.br t6
                                        (Tr.br l3_works
                                          (Tr.br t26
                                            (Tr.br ((q_Dyad neg m e).snd == 31)
                                              (Tr.leaf (((q_Dyad neg m e).fst.den.length : Int) == 0)) (Tr.leaf false))
                                            (Tr.leaf false))
                                          (Tr.leaf false))
                                        (Tr.br t14
                                          (Tr.br l3_works
                                            (Tr.br t26 (Tr.leaf ((q_Dyad neg m e).snd == 0)) (Tr.leaf false))
                                            (Tr.leaf false))
                                          (Tr.br t10
                                            (Tr.br l3_works
                                              (Tr.br t26 (Tr.leaf ((q_Dyad neg m e).snd == 0)) (Tr.leaf false))
                                              (Tr.leaf false))
                                            (Tr.ast (r1_Of1_s m)
                                              (Tr.ast t2
                                                (Tr.ast t18
                                                  (Tr.ast t22
                                                    (Tr.ast t28
                                                      (Tr.br l3_works
                                                        (Tr.br t26
                                                          (Tr.br (l3_is (q_Dyad neg m e).fst t23)
                                                            (Tr.leaf ((q_Dyad neg m e).snd == 0)) (Tr.leaf false))
                                                          (Tr.leaf false))
                                                        (Tr.leaf false)))))))))))))))))
                        (Tr.ast (r1_Of1_s 1)
                          (Tr.ast (q_Int_s x)
                            (Tr.ast (r1_Of1_s (IntKind.u64.wrap x))
                              (Tr.ast t16
                                (Tr.ast t20
                                  (Tr.ast (q_Dyad_s neg m e)
                                    (Tr.br t15
                                      (Tr.br l3_works
                                        (Tr.br t21
                                          (Tr.br ((q_Dyad neg m e).snd == 31)
                                            (Tr.leaf (((q_Dyad neg m e).fst.den.length : Int) == 0)) (Tr.leaf false))
                                          (Tr.leaf false))
                                        (Tr.leaf false))
                                      (Tr.br t6
                                        (Tr.br l3_works
                                          (Tr.br t21
                                            (Tr.br ((q_Dyad neg m e).snd == 31)
                                              (Tr.leaf (((q_Dyad neg m e).fst.den.length : Int) == 0)) (Tr.leaf false))
                                            (Tr.leaf false))
                                          (Tr.leaf false))
                                        (Tr.br t14
                                          (Tr.br l3_works
                                            (Tr.br t21 (Tr.leaf ((q_Dyad neg m e).snd == 0)) (Tr.leaf false))
                                            (Tr.leaf false))
                                          (Tr.br t10
                                            (Tr.br l3_works
                                              (Tr.br t21 (Tr.leaf ((q_Dyad neg m e).snd == 0)) (Tr.leaf false))
                                              (Tr.leaf false))
                                            (Tr.ast (r1_Of1_s m)
                                              (Tr.ast t2
                                                (Tr.ast t18
                                                  (Tr.ast t22
                                                    (Tr.ast t28
                                                      (Tr.br l3_works
                                                        (Tr.br t21
                                                          (Tr.br (l3_is (q_Dyad neg m e).fst t23)
                                                            (Tr.leaf ((q_Dyad neg m e).snd == 0)) (Tr.leaf false))
                                                          (Tr.leaf false))
                                                        (Tr.leaf false))))))))))))))))))
                      (Tr.ast (r3_Low_s neg (r2_Bits num) (r2_Bits den))
                        (Tr.ast (l3_is_s (q_New neg num den).fst (r3_Low neg (r2_Bits num) (r2_Bits den)))
                          (Tr.br t7
                            (Tr.ast (r1_Of1_s 1)
                              (Tr.ast (q_Int_s x)
                                (Tr.ast t12
                                  (Tr.ast t25
                                    (Tr.ast t27
                                      (Tr.ast (q_Dyad_s neg m e)
                                        (Tr.br t15
                                          (Tr.br l3_works
                                            (Tr.br t5
                                              (Tr.br t26
                                                (Tr.br ((q_Dyad neg m e).snd == 31)
                                                  (Tr.leaf (((q_Dyad neg m e).fst.den.length : Int) == 0)) (Tr.leaf false))
                                                (Tr.leaf false))
                                              (Tr.leaf false))
                                            (Tr.leaf false))
                                          (Tr.br t6
                                            (Tr.br l3_works
                                              (Tr.br t5
                                                (Tr.br t26
                                                  (Tr.br ((q_Dyad neg m e).snd == 31)
                                                    (Tr.leaf (((q_Dyad neg m e).fst.den.length : Int) == 0)) (Tr.leaf false))
                                                  (Tr.leaf false))
                                                (Tr.leaf false))
                                              (Tr.leaf false))
                                            (Tr.br t14
                                              (Tr.br l3_works
                                                (Tr.br t5
                                                  (Tr.br t26 (Tr.leaf ((q_Dyad neg m e).snd == 0)) (Tr.leaf false))
                                                  (Tr.leaf false))
                                                (Tr.leaf false))
                                              (Tr.br t10
                                                (Tr.br l3_works
                                                  (Tr.br t5
                                                    (Tr.br t26 (Tr.leaf ((q_Dyad neg m e).snd == 0)) (Tr.leaf false))
                                                    (Tr.leaf false))
                                                  (Tr.leaf false))
                                                (Tr.ast (r1_Of1_s m)
                                                  (Tr.ast t2
                                                    (Tr.ast t18
                                                      (Tr.ast t22
                                                        (Tr.ast t28
                                                          (Tr.br l3_works
                                                            (Tr.br t5
                                                              (Tr.br t26
                                                                (Tr.br (l3_is (q_Dyad neg m e).fst t23)
                                                                  (Tr.leaf ((q_Dyad neg m e).snd == 0)) (Tr.leaf false))
                                                                (Tr.leaf false))
                                                              (Tr.leaf false))
                                                            (Tr.leaf false)))))))))))))))))
                            (Tr.ast (r1_Of1_s 1)
                              (Tr.ast (q_Int_s x)
                                (Tr.ast (r1_Of1_s (IntKind.u64.wrap x))
                                  (Tr.ast t16
                                    (Tr.ast t20
                                      (Tr.ast (q_Dyad_s neg m e)
                                        (Tr.br t15
                                          (Tr.br l3_works
                                            (Tr.br t5
                                              (Tr.br t21
                                                (Tr.br ((q_Dyad neg m e).snd == 31)
                                                  (Tr.leaf (((q_Dyad neg m e).fst.den.length : Int) == 0)) (Tr.leaf false))
                                                (Tr.leaf false))
                                              (Tr.leaf false))
                                            (Tr.leaf false))
                                          (Tr.br t6
                                            (Tr.br l3_works
                                              (Tr.br t5
                                                (Tr.br t21
                                                  (Tr.br ((q_Dyad neg m e).snd == 31)
                                                    (Tr.leaf (((q_Dyad neg m e).fst.den.length : Int) == 0)) (Tr.leaf false))
                                                  (Tr.leaf false))
                                                (Tr.leaf false))
                                              (Tr.leaf false))
                                            (Tr.br t14
                                              (Tr.br l3_works
                                                (Tr.br t5
                                                  (Tr.br t21 (Tr.leaf ((q_Dyad neg m e).snd == 0)) (Tr.leaf false))
                                                  (Tr.leaf false))
                                                (Tr.leaf false))
                                              (Tr.br t10
                                                (Tr.br l3_works
                                                  (Tr.br t5
                                                    (Tr.br t21 (Tr.leaf ((q_Dyad neg m e).snd == 0)) (Tr.leaf false))
                                                    (Tr.leaf false))
                                                  (Tr.leaf false))
                                                (Tr.ast (r1_Of1_s m)
                                                  (Tr.ast t2
                                                    (Tr.ast t18
                                                      (Tr.ast t22
                                                        (Tr.ast t28
                                                          (Tr.br l3_works
                                                            (Tr.br t5
                                                              (Tr.br t21
                                                                (Tr.br (l3_is (q_Dyad neg m e).fst t23)
                                                                  (Tr.leaf ((q_Dyad neg m e).snd == 0)) (Tr.leaf false))
                                                                (Tr.leaf false))
                                                              (Tr.leaf false))
                                                            (Tr.leaf false)))))))))))))))))))))))))))))
def l_RatioMakes_t (neg : Bool) (num : List Int) (den : List Int) (x : Int) (m : Int) (e : Int) : Tr (Bool) := l_RatioMakes_T l3_works l3_works_s r2_Bits r2_Bits_s q_New q_New_s r3_Low r3_Low_s l3_is l3_is_s r1_Of1 r1_Of1_s q_Int q_Int_s q_Dyad q_Dyad_s r1_Shl r1_Shl_s neg num den x m e
def l_RatioMakes (neg : Bool) (num : List Int) (den : List Int) (x : Int) (m : Int) (e : Int) : Bool := (l_RatioMakes_t neg num den x m e).val
def l_RatioMakes_s (neg : Bool) (num : List Int) (den : List Int) (x : Int) (m : Int) (e : Int) : Bool := (l_RatioMakes_t neg num den x m e).safe
def l_RatioField_T (l3_works : Bool) (l3_works_s : Bool) (l3_small : (List (List Cv)) → Bool) (l3_small_s : (List (List Cv)) → Bool) (q_Add : RR → RR → RR) (q_Add_s : RR → RR → Bool) (q_Cmp : RR → RR → Int) (q_Cmp_s : RR → RR → Bool) (q_Mul : RR → RR → RR) (q_Mul_s : RR → RR → Bool) (q_Sub : RR → RR → RR) (q_Sub_s : RR → RR → Bool) (q_Sign : RR → Int) (q_Sign_s : RR → Bool) (q_Div : RR → RR → RR × Int) (q_Div_s : RR → RR → Bool) (a : RR) (b : RR) (c : RR) : Tr (Bool) :=
  let t0 : Int := (q_Div (q_Mul a b) b).snd;
  let t1 : RR := (q_Div (q_Mul a b) b).fst;
  let t2 : Bool := q_Cmp_s (q_Mul (q_Mul a b) c) (q_Mul a (q_Mul b c));
  let t3 : Bool := q_Cmp_s (q_Add (q_Add a b) c) (q_Add a (q_Add b c));
  let t4 : Bool := q_Sign b == 0;
  let t5 : Bool := q_Cmp_s (q_Mul a (q_Add b c)) (q_Add (q_Mul a b) (q_Mul a c));
  let t6 : Bool := q_Sign (q_Sub a a) == 0;
  let t7 : Bool := q_Cmp (q_Sub (q_Add a b) b) a == 0;
  let t8 : Bool := q_Cmp (q_Mul a b) (q_Mul b a) == 0;
  let t9 : Bool := q_Cmp (q_Mul (q_Mul a b) c) (q_Mul a (q_Mul b c)) == 0;
  let t10 : Bool := q_Cmp (q_Add (q_Add a b) c) (q_Add a (q_Add b c)) == 0;
  let t11 : Bool := q_Cmp (q_Mul a (q_Add b c)) (q_Add (q_Mul a b) (q_Mul a c)) == 0;
  let t12 : List (List Cv) :=
    id [[Cv.b a.neg, Cv.l a.num, Cv.l a.den], [Cv.b b.neg, Cv.l b.num, Cv.l b.den], [Cv.b c.neg, Cv.l c.num, Cv.l c.den]];
  Tr.ast l3_works_s
    (Tr.br (!l3_works) (Tr.leaf false)
      (Tr.ast (l3_small_s t12)
        (Tr.br (!l3_small t12) (Tr.leaf l3_works)
          (Tr.ast (q_Add_s a b)
            (Tr.ast (q_Add_s b a)
              (Tr.ast (q_Cmp_s (q_Add a b) (q_Add b a))
                (Tr.br (q_Cmp (q_Add a b) (q_Add b a) == 0)
                  (Tr.ast (q_Mul_s a b)
                    (Tr.ast (q_Mul_s b a)
                      (Tr.ast (q_Cmp_s (q_Mul a b) (q_Mul b a))
                        (Tr.ast (q_Add_s a b)
                          (Tr.ast (q_Add_s (q_Add a b) c)
                            (Tr.ast (q_Add_s b c)
                              (Tr.ast (q_Add_s a (q_Add b c))
                                (Tr.ast t3
                                  (Tr.br t10
                                    (Tr.ast (q_Mul_s a b)
                                      (Tr.ast (q_Mul_s (q_Mul a b) c)
                                        (Tr.ast (q_Mul_s b c)
                                          (Tr.ast (q_Mul_s a (q_Mul b c))
                                            (Tr.ast t2
                                              (Tr.ast (q_Add_s b c)
                                                (Tr.ast (q_Mul_s a (q_Add b c))
                                                  (Tr.ast (q_Mul_s a b)
                                                    (Tr.ast (q_Mul_s a c)
                                                      (Tr.ast (q_Add_s (q_Mul a b) (q_Mul a c))
                                                        (Tr.ast t5
                                                          (Tr.ast (q_Add_s a b)
                                                            (Tr.ast (q_Sub_s (q_Add a b) b)
                                                              (Tr.ast (q_Cmp_s (q_Sub (q_Add a b) b) a)
                                                                (Tr.br t7
                                                                  (Tr.ast (q_Sub_s a a)
                                                                    (Tr.ast (q_Sign_s (q_Sub a a))
                                                                      (Tr.ast (q_Mul_s a b)
                                                                        (Tr.ast (q_Div_s (q_Mul a b) b)
                                                                          (Tr.ast (q_Sign_s b)
                                                                            (Tr.br t4
                                                                              (Tr.br l3_works
                                                                                (Tr.br t8
                                                                                  (Tr.br t9
                                                                                    (Tr.br t11
                                                                                      (Tr.br t6 (Tr.leaf (t0 == 30))
                                                                                        (Tr.leaf false))
                                                                                      (Tr.leaf false))
                                                                                    (Tr.leaf false))
                                                                                  (Tr.leaf false))
                                                                                (Tr.leaf false))
                                                                              (Tr.br l3_works
                                                                                (Tr.br t8
                                                                                  (Tr.br t9
                                                                                    (Tr.br t11
                                                                                      (Tr.br t6
                                                                                        (Tr.br (t0 == 0)
                                                                                          (Tr.ast (q_Cmp_s t1 a)
                                                                                            (Tr.leaf (q_Cmp t1 a == 0)))
                                                                                          (Tr.leaf false))
                                                                                        (Tr.leaf false))
                                                                                      (Tr.leaf false))
                                                                                    (Tr.leaf false))
                                                                                  (Tr.leaf false))
                                                                                (Tr.leaf false))))))))
                                                                  (Tr.ast (q_Mul_s a b)
                                                                    (Tr.ast (q_Div_s (q_Mul a b) b)
                                                                      (Tr.ast (q_Sign_s b)
                                                                        (Tr.br t4
                                                                          (Tr.br l3_works
                                                                            (Tr.br t8
                                                                              (Tr.br t9
                                                                                (Tr.br t11 (Tr.leaf false)
                                                                                  (Tr.leaf false))
                                                                                (Tr.leaf false))
                                                                              (Tr.leaf false))
                                                                            (Tr.leaf false))
                                                                          (Tr.br l3_works
                                                                            (Tr.br t8
                                                                              (Tr.br t9
                                                                                (Tr.br t11 (Tr.leaf false)
                                                                                  (Tr.leaf false))
                                                                                (Tr.leaf false))
                                                                              (Tr.leaf false))
                                                                            (Tr.leaf false)))))))))))))))))))))
                                    (Tr.ast (q_Add_s b c)
                                      (Tr.ast (q_Mul_s a (q_Add b c))
                                        (Tr.ast (q_Mul_s a b)
                                          (Tr.ast (q_Mul_s a c)
                                            (Tr.ast (q_Add_s (q_Mul a b) (q_Mul a c))
                                              (Tr.ast t5
                                                (Tr.ast (q_Add_s a b)
                                                  (Tr.ast (q_Sub_s (q_Add a b) b)
                                                    (Tr.ast (q_Cmp_s (q_Sub (q_Add a b) b) a)
                                                      (Tr.br t7
                                                        (Tr.ast (q_Sub_s a a)
                                                          (Tr.ast (q_Sign_s (q_Sub a a))
                                                            (Tr.ast (q_Mul_s a b)
                                                              (Tr.ast (q_Div_s (q_Mul a b) b)
                                                                (Tr.ast (q_Sign_s b)
                                                                  (Tr.br t4
                                                                    (Tr.br l3_works
                                                                      (Tr.br t8 (Tr.leaf false) (Tr.leaf false))
                                                                      (Tr.leaf false))
                                                                    (Tr.br l3_works
                                                                      (Tr.br t8 (Tr.leaf false) (Tr.leaf false))
                                                                      (Tr.leaf false))))))))
                                                        (Tr.ast (q_Mul_s a b)
                                                          (Tr.ast (q_Div_s (q_Mul a b) b)
                                                            (Tr.ast (q_Sign_s b)
                                                              (Tr.br t4
                                                                (Tr.br l3_works (Tr.br t8 (Tr.leaf false) (Tr.leaf false))
                                                                  (Tr.leaf false))
                                                                (Tr.br l3_works (Tr.br t8 (Tr.leaf false) (Tr.leaf false))
                                                                  (Tr.leaf false)))))))))))))))))))))))))
                  (Tr.ast (q_Add_s a b)
                    (Tr.ast (q_Add_s (q_Add a b) c)
                      (Tr.ast (q_Add_s b c)
                        (Tr.ast (q_Add_s a (q_Add b c))
                          (Tr.ast t3
                            (Tr.br t10
                              (Tr.ast (q_Mul_s a b)
                                (Tr.ast (q_Mul_s (q_Mul a b) c)
                                  (Tr.ast (q_Mul_s b c)
                                    (Tr.ast (q_Mul_s a (q_Mul b c))
                                      (Tr.ast t2
                                        (Tr.ast (q_Add_s b c)
                                          (Tr.ast (q_Mul_s a (q_Add b c))
                                            (Tr.ast (q_Mul_s a b)
                                              (Tr.ast (q_Mul_s a c)
                                                (Tr.ast (q_Add_s (q_Mul a b) (q_Mul a c))
                                                  (Tr.ast t5
                                                    (Tr.ast (q_Add_s a b)
                                                      (Tr.ast (q_Sub_s (q_Add a b) b)
                                                        (Tr.ast (q_Cmp_s (q_Sub (q_Add a b) b) a)
                                                          (Tr.br t7
                                                            (Tr.ast (q_Sub_s a a)
                                                              (Tr.ast (q_Sign_s (q_Sub a a))
                                                                (Tr.ast (q_Mul_s a b)
                                                                  (Tr.ast (q_Div_s (q_Mul a b) b)
                                                                    (Tr.ast (q_Sign_s b)
                                                                      (Tr.br t4
                                                                        (Tr.br l3_works (Tr.leaf false) (Tr.leaf false))
                                                                        (Tr.br l3_works (Tr.leaf false)
                                                                          (Tr.leaf false))))))))
                                                            (Tr.ast (q_Mul_s a b)
                                                              (Tr.ast (q_Div_s (q_Mul a b) b)
                                                                (Tr.ast (q_Sign_s b)
                                                                  (Tr.br t4
                                                                    (Tr.br l3_works (Tr.leaf false) (Tr.leaf false))
                                                                    (Tr.br l3_works (Tr.leaf false)
                                                                      (Tr.leaf false)))))))))))))))))))))
                              (Tr.ast (q_Add_s b c)
                                (Tr.ast (q_Mul_s a (q_Add b c))
                                  (Tr.ast (q_Mul_s a b)
                                    (Tr.ast (q_Mul_s a c)
                                      (Tr.ast (q_Add_s (q_Mul a b) (q_Mul a c))
                                        (Tr.ast t5
                                          (Tr.ast (q_Add_s a b)
                                            (Tr.ast (q_Sub_s (q_Add a b) b)
                                              (Tr.ast (q_Cmp_s (q_Sub (q_Add a b) b) a)
                                                (Tr.br t7
                                                  (Tr.ast (q_Sub_s a a)
                                                    (Tr.ast (q_Sign_s (q_Sub a a))
                                                      (Tr.ast (q_Mul_s a b)
                                                        (Tr.ast (q_Div_s (q_Mul a b) b)
                                                          (Tr.ast (q_Sign_s b)
                                                            (Tr.br t4 (Tr.br l3_works (Tr.leaf false) (Tr.leaf false))
                                                              (Tr.br l3_works (Tr.leaf false) (Tr.leaf false))))))))
                                                  (Tr.ast (q_Mul_s a b)
                                                    (Tr.ast (q_Div_s (q_Mul a b) b)
                                                      (Tr.ast (q_Sign_s b)
                                                        (Tr.br t4 (Tr.br l3_works (Tr.leaf false) (Tr.leaf false))
                                                          (Tr.br l3_works (Tr.leaf false)
                                                            (Tr.leaf false)))))))))))))))))))))))))))))
def l_RatioField_t (a : RR) (b : RR) (c : RR) : Tr (Bool) := l_RatioField_T l3_works l3_works_s l3_small l3_small_s q_Add q_Add_s q_Cmp q_Cmp_s q_Mul q_Mul_s q_Sub q_Sub_s q_Sign q_Sign_s q_Div q_Div_s a b c
def l_RatioField (a : RR) (b : RR) (c : RR) : Bool := (l_RatioField_t a b c).val
def l_RatioField_s (a : RR) (b : RR) (c : RR) : Bool := (l_RatioField_t a b c).safe
def l_RatioMost_L1_T (q_Cmp : RR → RR → Int) (q_Cmp_s : RR → RR → Bool) (v0 : List (List Cv)) (_v3 : Bool) (_v6 : Bool) (v7 : Int) (_h0_0 : Bool) (_h0_1 : List Int) (_h0_2 : List Int) (v9 : Int) : Tr ((Int) ⊕ ((Int) ⊕ (Bool))) :=
  let t0 : Bool := decide (v9 < (v0.length : Int));
  let t1 : Bool := decide (0 < (v0.length : Int));
  let t2 : Bool := decide (0 ≤ v7) && decide (v7 < (v0.length : Int));
  let t3 : Bool := decide (0 ≤ v9) && t0;
  let t4 : RR :=
    RR.mk ((v0.getD v9.toNat []).headD (Cv.i 0)).bool ((v0.getD v9.toNat []).tail.headD (Cv.i 0)).ints
      ((v0.getD v9.toNat []).tail.tail.headD (Cv.i 0)).ints;
  let t5 : RR :=
    RR.mk ((v0.getD v7.toNat []).headD (Cv.i 0)).bool ((v0.getD v7.toNat []).tail.headD (Cv.i 0)).ints
      ((v0.getD v7.toNat []).tail.tail.headD (Cv.i 0)).ints;
  let t6 : RR :=
    RR.mk ((v0.getD (Int.toNat 0) []).headD (Cv.i 0)).bool ((v0.getD (Int.toNat 0) []).tail.headD (Cv.i 0)).ints
      ((v0.getD (Int.toNat 0) []).tail.tail.headD (Cv.i 0)).ints;
  let t7 : Bool := q_Cmp_s t5 t4;
  let t8 : Int := q_Cmp t5 t4;
  let t9 : Int := q_Cmp t6 t5;
  let t10 : Int := q_Cmp t6 t4;
  Tr.br t0
    (Tr.ast t2
      (Tr.ast t3
        (Tr.ast t7
          (Tr.ast t3
            (Tr.ast t2
              (Tr.ast (q_Cmp_s t4 t5)
                (Tr.br (t8 != IntKind.i64.wrap (0 - q_Cmp t4 t5)) (Tr.leaf (Sum.inr (Sum.inr false)))
                  (Tr.ast t2
                    (Tr.ast t3
                      (Tr.ast t7
                        (Tr.br (decide (t8 < 0))
                          (Tr.ast t1
                            (Tr.ast t2
                              (Tr.ast (q_Cmp_s t6 t5)
                                (Tr.br (decide (t9 < 0))
                                  (Tr.ast t1
                                    (Tr.ast t3
                                      (Tr.ast (q_Cmp_s t6 t4)
                                        (Tr.br (decide (t10 ≥ 0)) (Tr.leaf (Sum.inr (Sum.inr false)))
                                          (Tr.leaf (Sum.inl (IntKind.i64.wrap (v9 + 1))))))))
                                  (Tr.leaf (Sum.inl (IntKind.i64.wrap (v9 + 1))))))))
                          (Tr.leaf (Sum.inl (IntKind.i64.wrap (v9 + 1)))))))))))))))
    (Tr.leaf (Sum.inr (Sum.inl v9)))
def l_RatioMost_L1_step (p : (List (List Cv)) × Bool × Bool × Int × Bool × (List Int) × (List Int)) (x : Int) : Tr ((Int) ⊕ ((Int) ⊕ (Bool))) := l_RatioMost_L1_T q_Cmp q_Cmp_s p.1 p.2.1 p.2.2.1 p.2.2.2.1 p.2.2.2.2.1 p.2.2.2.2.2.1 p.2.2.2.2.2.2 x
def l_RatioMost_L1_r (p : (List (List Cv)) × Bool × Bool × Int × Bool × (List Int) × (List Int)) (x : Int) : Option ((Int) ⊕ (Bool)) := runB (l_RatioMost_L1_step p) x
def l_RatioMost_L1_rt (p : (List (List Cv)) × Bool × Bool × Int × Bool × (List Int) × (List Int)) (x : Int) : Bool := isR (l_RatioMost_L1_r p x)
def l_RatioMost_L1_v (p : (List (List Cv)) × Bool × Bool × Int × Bool × (List Int) × (List Int)) (x : Int) : Int := outL_ x (l_RatioMost_L1_r p x)
def l_RatioMost_L1_rv (p : (List (List Cv)) × Bool × Bool × Int × Bool × (List Int) × (List Int)) (x : Int) : Bool := outR_ false (l_RatioMost_L1_r p x)
def l_RatioMost_L1_ok (p : (List (List Cv)) × Bool × Bool × Int × Bool × (List Int) × (List Int)) (x : Int) : Bool := (l_RatioMost_L1_r p x).isSome
def l_RatioMost_L0_T (q_Cmp : RR → RR → Int) (q_Cmp_s : RR → RR → Bool) (l_RatioMost_L1_ok : ((List (List Cv)) × Bool × Bool × Int × Bool × (List Int) × (List Int)) → Int → Bool) (l_RatioMost_L1_rt : ((List (List Cv)) × Bool × Bool × Int × Bool × (List Int) × (List Int)) → Int → Bool) (l_RatioMost_L1_rv : ((List (List Cv)) × Bool × Bool × Int × Bool × (List Int) × (List Int)) → Int → Bool) (v0 : List (List Cv)) (v3 : Bool) (h0_0 : Bool) (h0_1 : List Int) (h0_2 : List Int) (v6 : Bool) (v7 : Int) : Tr ((Bool × Int) ⊕ ((Bool × Int) ⊕ (Bool))) :=
  Tr.br (decide (v7 < (v0.length : Int)))
    (Tr.ast (decide (0 ≤ v7) && decide (v7 < (v0.length : Int)))
      (Tr.ast
        (q_Cmp_s (RR.mk h0_0 h0_1 h0_2)
          (RR.mk ((v0.getD v7.toNat []).headD (Cv.i 0)).bool ((v0.getD v7.toNat []).tail.headD (Cv.i 0)).ints
            ((v0.getD v7.toNat []).tail.tail.headD (Cv.i 0)).ints))
        (Tr.br
          (decide
            (q_Cmp (RR.mk h0_0 h0_1 h0_2)
                (RR.mk ((v0.getD v7.toNat []).headD (Cv.i 0)).bool ((v0.getD v7.toNat []).tail.headD (Cv.i 0)).ints
                  ((v0.getD v7.toNat []).tail.tail.headD (Cv.i 0)).ints) <
              0))
          (Tr.leaf (Sum.inr (Sum.inr false)))
          (Tr.br v6
            (Tr.ast (l_RatioMost_L1_ok (v0, v3, true, v7, h0_0, h0_1, h0_2) 0)
              (Tr.br (l_RatioMost_L1_rt (v0, v3, true, v7, h0_0, h0_1, h0_2) 0)
                (Tr.leaf (Sum.inr (Sum.inr (l_RatioMost_L1_rv (v0, v3, true, v7, h0_0, h0_1, h0_2) 0))))
                (Tr.leaf (Sum.inl (true, IntKind.i64.wrap (v7 + 1))))))
            (Tr.ast
              (l_RatioMost_L1_ok
                (v0, v3,
                  q_Cmp (RR.mk h0_0 h0_1 h0_2)
                      (RR.mk ((v0.getD v7.toNat []).headD (Cv.i 0)).bool ((v0.getD v7.toNat []).tail.headD (Cv.i 0)).ints
                        ((v0.getD v7.toNat []).tail.tail.headD (Cv.i 0)).ints) ==
                    0,
                  v7, h0_0, h0_1, h0_2)
                0)
              (Tr.br
                (l_RatioMost_L1_rt
                  (v0, v3,
                    q_Cmp (RR.mk h0_0 h0_1 h0_2)
                        (RR.mk ((v0.getD v7.toNat []).headD (Cv.i 0)).bool
                          ((v0.getD v7.toNat []).tail.headD (Cv.i 0)).ints
                          ((v0.getD v7.toNat []).tail.tail.headD (Cv.i 0)).ints) ==
                      0,
                    v7, h0_0, h0_1, h0_2)
                  0)
                (Tr.leaf
                  (Sum.inr
                    (Sum.inr
                      (l_RatioMost_L1_rv
                        (v0, v3,
                          q_Cmp (RR.mk h0_0 h0_1 h0_2)
                              (RR.mk ((v0.getD v7.toNat []).headD (Cv.i 0)).bool
                                ((v0.getD v7.toNat []).tail.headD (Cv.i 0)).ints
                                ((v0.getD v7.toNat []).tail.tail.headD (Cv.i 0)).ints) ==
                            0,
                          v7, h0_0, h0_1, h0_2)
                        0))))
                (Tr.leaf
                  (Sum.inl
                    (q_Cmp (RR.mk h0_0 h0_1 h0_2)
                          (RR.mk ((v0.getD v7.toNat []).headD (Cv.i 0)).bool
                            ((v0.getD v7.toNat []).tail.headD (Cv.i 0)).ints
                            ((v0.getD v7.toNat []).tail.tail.headD (Cv.i 0)).ints) ==
                        0,
                      IntKind.i64.wrap (v7 + 1))))))))))
    (Tr.leaf (Sum.inr (Sum.inl (v6, v7))))
def l_RatioMost_L0_step (p : (List (List Cv)) × Bool × Bool × (List Int) × (List Int)) (x : Bool × Int) : Tr ((Bool × Int) ⊕ ((Bool × Int) ⊕ (Bool))) := l_RatioMost_L0_T q_Cmp q_Cmp_s l_RatioMost_L1_ok l_RatioMost_L1_rt l_RatioMost_L1_rv p.1 p.2.1 p.2.2.1 p.2.2.2.1 p.2.2.2.2 x.1 x.2
def l_RatioMost_L0_r (p : (List (List Cv)) × Bool × Bool × (List Int) × (List Int)) (x : Bool × Int) : Option ((Bool × Int) ⊕ (Bool)) := runB (l_RatioMost_L0_step p) x
def l_RatioMost_L0_rt (p : (List (List Cv)) × Bool × Bool × (List Int) × (List Int)) (x : Bool × Int) : Bool := isR (l_RatioMost_L0_r p x)
def l_RatioMost_L0_v (p : (List (List Cv)) × Bool × Bool × (List Int) × (List Int)) (x : Bool × Int) : Bool × Int := outL_ x (l_RatioMost_L0_r p x)
def l_RatioMost_L0_rv (p : (List (List Cv)) × Bool × Bool × (List Int) × (List Int)) (x : Bool × Int) : Bool := outR_ false (l_RatioMost_L0_r p x)
def l_RatioMost_L0_ok (p : (List (List Cv)) × Bool × Bool × (List Int) × (List Int)) (x : Bool × Int) : Bool := (l_RatioMost_L0_r p x).isSome
def l_RatioMost_T (l3_works : Bool) (l3_works_s : Bool) (l3_small : (List (List Cv)) → Bool) (l3_small_s : (List (List Cv)) → Bool) (q_Max : (List (List Cv)) → RR) (q_Max_s : (List (List Cv)) → Bool) (q_Sign : RR → Int) (q_Sign_s : RR → Bool) (l_RatioMost_L0_ok : ((List (List Cv)) × Bool × Bool × (List Int) × (List Int)) → (Bool × Int) → Bool) (l_RatioMost_L0_rt : ((List (List Cv)) × Bool × Bool × (List Int) × (List Int)) → (Bool × Int) → Bool) (l_RatioMost_L0_v : ((List (List Cv)) × Bool × Bool × (List Int) × (List Int)) → (Bool × Int) → Bool × Int) (l_RatioMost_L0_rv : ((List (List Cv)) × Bool × Bool × (List Int) × (List Int)) → (Bool × Int) → Bool) (l : List (List Cv)) : Tr (Bool) :=
  Tr.ast l3_works_s
    (Tr.br (!l3_works) (Tr.leaf false)
      (Tr.br (decide (((id l).length : Int) > 8)) (Tr.leaf l3_works)
        (Tr.ast (l3_small_s (id (id l)))
          (Tr.br (!l3_small (id (id l))) (Tr.leaf l3_works)
            (Tr.ast (q_Max_s (id (id l)))
              (Tr.br (((id l).length : Int) == 0)
                (Tr.br l3_works (Tr.ast (q_Sign_s (q_Max (id (id l)))) (Tr.leaf (q_Sign (q_Max (id (id l))) == 0)))
                  (Tr.leaf false))
                (Tr.ast
                  (l_RatioMost_L0_ok
                    (id l, l3_works, (q_Max (id (id l))).neg, (q_Max (id (id l))).num, (q_Max (id (id l))).den)
                    (false, 0))
                  (Tr.br
                    (l_RatioMost_L0_rt
                      (id l, l3_works, (q_Max (id (id l))).neg, (q_Max (id (id l))).num, (q_Max (id (id l))).den)
                      (false, 0))
                    (Tr.leaf
                      (l_RatioMost_L0_rv
                        (id l, l3_works, (q_Max (id (id l))).neg, (q_Max (id (id l))).num, (q_Max (id (id l))).den)
                        (false, 0)))
                    (Tr.br l3_works
                      (Tr.leaf
                        (l_RatioMost_L0_v
                            (id l, l3_works, (q_Max (id (id l))).neg, (q_Max (id (id l))).num, (q_Max (id (id l))).den)
                            (false, 0)).fst)
                      (Tr.leaf false))))))))))
def l_RatioMost_t (l : List (List Cv)) : Tr (Bool) := l_RatioMost_T l3_works l3_works_s l3_small l3_small_s q_Max q_Max_s q_Sign q_Sign_s l_RatioMost_L0_ok l_RatioMost_L0_rt l_RatioMost_L0_v l_RatioMost_L0_rv l
def l_RatioMost (l : List (List Cv)) : Bool := (l_RatioMost_t l).val
def l_RatioMost_s (l : List (List Cv)) : Bool := (l_RatioMost_t l).safe
end Go.Fb
