/- Spans: what the functions compute, as definitions. Conditions: none. -/
import Derived.Test.YtdkbeajkedffeaaGreatSd
namespace Go.Fb
open Go.Ev
def sp_inf_T (p_Inf : Bool → Int)  : Tr (Int) :=
  Tr.leaf (p_Inf false)
def sp_inf_t  : Tr (Int) := sp_inf_T p_Inf 
def sp_inf  : Int := (sp_inf_t ).val
def sp_ninf_T (p_Inf : Bool → Int)  : Tr (Int) :=
  Tr.leaf (p_Inf true)
def sp_ninf_t  : Tr (Int) := sp_ninf_T p_Inf 
def sp_ninf  : Int := (sp_ninf_t ).val
def sp_none_T   : Tr (SP) :=
  Tr.leaf (SP.mk true 0 0)
def sp_none_t  : Tr (SP) := sp_none_T  
def sp_none  : SP := (sp_none_t ).val
def sp_atMost_T (p_Cmp : Int → Int → Int × Bool) (a : Int) (b : Int) : Tr (Bool) :=
  Tr.br (p_Cmp a b).snd (Tr.leaf (decide ((p_Cmp a b).fst ≤ 0))) (Tr.leaf false)
def sp_atMost_t (a : Int) (b : Int) : Tr (Bool) := sp_atMost_T p_Cmp a b
def sp_atMost (a : Int) (b : Int) : Bool := (sp_atMost_t a b).val
def sp_norm_T (sp_atMost : Int → Int → Bool) (sp_inf : Int) (sp_ninf : Int) (sp_none : SP) (p_Class : Int → Int) (s : SP) : Tr (SP) :=
  Tr.br s.empty (Tr.leaf sp_none)
    (Tr.br (!sp_atMost s.lo s.hi) (Tr.leaf sp_none)
      (Tr.br (s.lo == sp_inf) (Tr.leaf sp_none)
        (Tr.br (s.hi == sp_ninf) (Tr.leaf sp_none)
          (Tr.br (p_Class s.lo == 0)
            (Tr.br (p_Class s.hi == 0) (Tr.leaf (SP.mk s.empty 0 0)) (Tr.leaf (SP.mk s.empty 0 s.hi)))
            (Tr.br (p_Class s.hi == 0) (Tr.leaf (SP.mk s.empty s.lo 0)) (Tr.leaf s))))))
def sp_norm_t (s : SP) : Tr (SP) := sp_norm_T sp_atMost sp_inf sp_ninf sp_none p_Class s
def sp_norm (s : SP) : SP := (sp_norm_t s).val
def sp_Make_T (sp_norm : SP → SP) (lo : Int) (hi : Int) : Tr (SP) :=
  Tr.leaf (sp_norm (SP.mk false lo hi))
def sp_Make_t (lo : Int) (hi : Int) : Tr (SP) := sp_Make_T sp_norm lo hi
def sp_Make (lo : Int) (hi : Int) : SP := (sp_Make_t lo hi).val
def sp_Point_T (sp_Make : Int → Int → SP) (f : Int) : Tr (SP) :=
  Tr.leaf (sp_Make f f)
def sp_Point_t (f : Int) : Tr (SP) := sp_Point_T sp_Make f
def sp_Point (f : Int) : SP := (sp_Point_t f).val
def sp_All_T (sp_ninf : Int) (sp_inf : Int) (sp_Make : Int → Int → SP)  : Tr (SP) :=
  Tr.leaf (sp_Make sp_ninf sp_inf)
def sp_All_t  : Tr (SP) := sp_All_T sp_ninf sp_inf sp_Make 
def sp_All  : SP := (sp_All_t ).val
def sp_Inside_T (sp_norm : SP → SP) (sp_atMost : Int → Int → Bool) (a : SP) (b : SP) : Tr (Bool) :=
  Tr.br (sp_norm a).empty (Tr.leaf true)
    (Tr.br (!(sp_norm b).empty)
      (Tr.br (sp_atMost (sp_norm b).lo (sp_norm a).lo) (Tr.leaf (sp_atMost (sp_norm a).hi (sp_norm b).hi))
        (Tr.leaf false))
      (Tr.leaf false))
def sp_Inside_t (a : SP) (b : SP) : Tr (Bool) := sp_Inside_T sp_norm sp_atMost a b
def sp_Inside (a : SP) (b : SP) : Bool := (sp_Inside_t a b).val
def sp_Has_T (p_Class : Int → Int) (sp_Point : Int → SP) (sp_Inside : SP → SP → Bool) (s : SP) (f : Int) : Tr (Bool) :=
  Tr.br (p_Class f != 3) (Tr.br (!(sp_Point f).empty) (Tr.leaf (sp_Inside (sp_Point f) s)) (Tr.leaf false))
    (Tr.leaf false)
def sp_Has_t (s : SP) (f : Int) : Tr (Bool) := sp_Has_T p_Class sp_Point sp_Inside s f
def sp_Has (s : SP) (f : Int) : Bool := (sp_Has_t s f).val
def sp_Join_L0_T (sp_norm : SP → SP) (p_Min : (List Int) → Int) (p_Min_s : (List Int) → Bool) (p_Max : (List Int) → Int) (p_Max_s : (List Int) → Bool) (sp_Make : Int → Int → SP) (v7 : List (List Cv)) (v8 : Int) (_h0_0 : Bool) (_h0_1 : Int) (_h0_2 : Int) (v9 : Int) (h1_0 : Bool) (h1_1 : Int) (h1_2 : Int) : Tr ((Int × Bool × Int × Int) ⊕ (Int × Bool × Int × Int)) :=
  Tr.br (decide (v9 < v8))
    (Tr.ast (decide (0 ≤ v9) && decide (v9 < (v7.length : Int)))
      (Tr.br
        (sp_norm
            (SP.mk ((v7.getD v9.toNat []).headD (Cv.i 0)).bool ((v7.getD v9.toNat []).tail.headD (Cv.i 0)).int
              ((v7.getD v9.toNat []).tail.tail.headD (Cv.i 0)).int)).empty
        (Tr.leaf (Sum.inl (IntKind.i64.wrap (v9 + 1), h1_0, h1_1, h1_2)))
        (Tr.br h1_0
          (Tr.leaf
            (Sum.inl
              (IntKind.i64.wrap (v9 + 1),
                (sp_norm
                    (SP.mk ((v7.getD v9.toNat []).headD (Cv.i 0)).bool ((v7.getD v9.toNat []).tail.headD (Cv.i 0)).int
                      ((v7.getD v9.toNat []).tail.tail.headD (Cv.i 0)).int)).empty,
                (sp_norm
                    (SP.mk ((v7.getD v9.toNat []).headD (Cv.i 0)).bool ((v7.getD v9.toNat []).tail.headD (Cv.i 0)).int
                      ((v7.getD v9.toNat []).tail.tail.headD (Cv.i 0)).int)).lo,
                (sp_norm
                    (SP.mk ((v7.getD v9.toNat []).headD (Cv.i 0)).bool ((v7.getD v9.toNat []).tail.headD (Cv.i 0)).int
                      ((v7.getD v9.toNat []).tail.tail.headD (Cv.i 0)).int)).hi)))
          (Tr.ast
            (p_Min_s
              [h1_1,
                (sp_norm
                    (SP.mk ((v7.getD v9.toNat []).headD (Cv.i 0)).bool ((v7.getD v9.toNat []).tail.headD (Cv.i 0)).int
                      ((v7.getD v9.toNat []).tail.tail.headD (Cv.i 0)).int)).lo])
            (Tr.ast
              (p_Max_s
                [h1_2,
                  (sp_norm
                      (SP.mk ((v7.getD v9.toNat []).headD (Cv.i 0)).bool ((v7.getD v9.toNat []).tail.headD (Cv.i 0)).int
                        ((v7.getD v9.toNat []).tail.tail.headD (Cv.i 0)).int)).hi])
              (Tr.leaf
                (Sum.inl
                  (IntKind.i64.wrap (v9 + 1),
                    (sp_Make
                        (p_Min
                          [h1_1,
                            (sp_norm
                                (SP.mk ((v7.getD v9.toNat []).headD (Cv.i 0)).bool
                                  ((v7.getD v9.toNat []).tail.headD (Cv.i 0)).int
                                  ((v7.getD v9.toNat []).tail.tail.headD (Cv.i 0)).int)).lo])
                        (p_Max
                          [h1_2,
                            (sp_norm
                                (SP.mk ((v7.getD v9.toNat []).headD (Cv.i 0)).bool
                                  ((v7.getD v9.toNat []).tail.headD (Cv.i 0)).int
                                  ((v7.getD v9.toNat []).tail.tail.headD (Cv.i 0)).int)).hi])).empty,
                    (sp_Make
                        (p_Min
                          [h1_1,
                            (sp_norm
                                (SP.mk ((v7.getD v9.toNat []).headD (Cv.i 0)).bool
                                  ((v7.getD v9.toNat []).tail.headD (Cv.i 0)).int
                                  ((v7.getD v9.toNat []).tail.tail.headD (Cv.i 0)).int)).lo])
                        (p_Max
                          [h1_2,
                            (sp_norm
                                (SP.mk ((v7.getD v9.toNat []).headD (Cv.i 0)).bool
                                  ((v7.getD v9.toNat []).tail.headD (Cv.i 0)).int
                                  ((v7.getD v9.toNat []).tail.tail.headD (Cv.i 0)).int)).hi])).lo,
                    (sp_Make
                        (p_Min
                          [h1_1,
                            (sp_norm
                                (SP.mk ((v7.getD v9.toNat []).headD (Cv.i 0)).bool
                                  ((v7.getD v9.toNat []).tail.headD (Cv.i 0)).int
                                  ((v7.getD v9.toNat []).tail.tail.headD (Cv.i 0)).int)).lo])
                        (p_Max
                          [h1_2,
                            (sp_norm
                                (SP.mk ((v7.getD v9.toNat []).headD (Cv.i 0)).bool
                                  ((v7.getD v9.toNat []).tail.headD (Cv.i 0)).int
                                  ((v7.getD v9.toNat []).tail.tail.headD (Cv.i 0)).int)).hi])).hi))))))))
    (Tr.leaf (Sum.inr (v9, h1_0, h1_1, h1_2)))
def sp_Join_L0_step (p : (List (List Cv)) × Int × Bool × Int × Int) (x : Int × Bool × Int × Int) : Tr ((Int × Bool × Int × Int) ⊕ (Int × Bool × Int × Int)) := sp_Join_L0_T sp_norm p_Min p_Min_s p_Max p_Max_s sp_Make p.1 p.2.1 p.2.2.1 p.2.2.2.1 p.2.2.2.2 x.1 x.2.1 x.2.2.1 x.2.2.2
def sp_Join_L0_r (p : (List (List Cv)) × Int × Bool × Int × Int) (x : Int × Bool × Int × Int) : Option (Int × Bool × Int × Int) := runB (sp_Join_L0_step p) x
def sp_Join_L0_v (p : (List (List Cv)) × Int × Bool × Int × Int) (x : Int × Bool × Int × Int) : Int × Bool × Int × Int := (sp_Join_L0_r p x).getD x
def sp_Join_L0_ok (p : (List (List Cv)) × Int × Bool × Int × Int) (x : Int × Bool × Int × Int) : Bool := (sp_Join_L0_r p x).isSome
def sp_Join_T (sp_none : SP) (sp_Join_L0_ok : ((List (List Cv)) × Int × Bool × Int × Int) → (Int × Bool × Int × Int) → Bool) (sp_Join_L0_v : ((List (List Cv)) × Int × Bool × Int × Int) → (Int × Bool × Int × Int) → Int × Bool × Int × Int) (l : List (List Cv)) : Tr (SP) :=
  Tr.ast (sp_Join_L0_ok (id l, ((id l).length : Int), false, 0, 0) (0, sp_none.empty, sp_none.lo, sp_none.hi))
    (Tr.leaf
      (SP.mk (sp_Join_L0_v (id l, ((id l).length : Int), false, 0, 0) (0, sp_none.empty, sp_none.lo, sp_none.hi)).snd.fst
        (sp_Join_L0_v (id l, ((id l).length : Int), false, 0, 0) (0, sp_none.empty, sp_none.lo, sp_none.hi)).snd.snd.fst
        (sp_Join_L0_v (id l, ((id l).length : Int), false, 0, 0) (0, sp_none.empty, sp_none.lo, sp_none.hi)).snd.snd.snd))
def sp_Join_t (l : List (List Cv)) : Tr (SP) := sp_Join_T sp_none sp_Join_L0_ok sp_Join_L0_v l
def sp_Join (l : List (List Cv)) : SP := (sp_Join_t l).val
def sp_Join_s (l : List (List Cv)) : Bool := (sp_Join_t l).safe
def sp_Meet_T (sp_norm : SP → SP) (sp_none : SP) (p_Max : (List Int) → Int) (p_Max_s : (List Int) → Bool) (p_Min : (List Int) → Int) (p_Min_s : (List Int) → Bool) (sp_Make : Int → Int → SP) (a : SP) (b : SP) : Tr (SP) :=
  Tr.br (sp_norm a).empty (Tr.leaf sp_none)
    (Tr.br (sp_norm b).empty (Tr.leaf sp_none)
      (Tr.ast (p_Max_s [(sp_norm a).lo, (sp_norm b).lo])
        (Tr.ast (p_Min_s [(sp_norm a).hi, (sp_norm b).hi])
          (Tr.leaf (sp_Make (p_Max [(sp_norm a).lo, (sp_norm b).lo]) (p_Min [(sp_norm a).hi, (sp_norm b).hi]))))))
def sp_Meet_t (a : SP) (b : SP) : Tr (SP) := sp_Meet_T sp_norm sp_none p_Max p_Max_s p_Min p_Min_s sp_Make a b
def sp_Meet (a : SP) (b : SP) : SP := (sp_Meet_t a b).val
def sp_Meet_s (a : SP) (b : SP) : Bool := (sp_Meet_t a b).safe
def sp_Neg_T (sp_norm : SP → SP) (p_Neg : Int → Int) (sp_Make : Int → Int → SP) (a : SP) : Tr (SP) :=
  Tr.br (sp_norm a).empty (Tr.leaf (sp_norm a)) (Tr.leaf (sp_Make (p_Neg (sp_norm a).hi) (p_Neg (sp_norm a).lo)))
def sp_Neg_t (a : SP) : Tr (SP) := sp_Neg_T sp_norm p_Neg sp_Make a
def sp_Neg (a : SP) : SP := (sp_Neg_t a).val
def sp_Abs_T (sp_norm : SP → SP) (sp_atMost : Int → Int → Bool) (sp_Neg : SP → SP) (p_Neg : Int → Int) (p_Max : (List Int) → Int) (p_Max_s : (List Int) → Bool) (sp_Make : Int → Int → SP) (a : SP) : Tr (SP) :=
  Tr.br (sp_norm a).empty (Tr.leaf (sp_norm a))
    (Tr.br (sp_atMost 0 (sp_norm a).lo) (Tr.leaf (sp_norm a))
      (Tr.br (sp_atMost (sp_norm a).hi 0) (Tr.leaf (sp_Neg (sp_norm a)))
        (Tr.ast (p_Max_s [p_Neg (sp_norm a).lo, (sp_norm a).hi])
          (Tr.leaf (sp_Make 0 (p_Max [p_Neg (sp_norm a).lo, (sp_norm a).hi]))))))
def sp_Abs_t (a : SP) : Tr (SP) := sp_Abs_T sp_norm sp_atMost sp_Neg p_Neg p_Max p_Max_s sp_Make a
def sp_Abs (a : SP) : SP := (sp_Abs_t a).val
def sp_Abs_s (a : SP) : Bool := (sp_Abs_t a).safe
def sp_Most_T (sp_Abs : SP → SP) (sp_Abs_s : SP → Bool) (a : SP) : Tr (Int) :=
  Tr.ast (sp_Abs_s a) (Tr.leaf (sp_Abs a).hi)
def sp_Most_t (a : SP) : Tr (Int) := sp_Most_T sp_Abs sp_Abs_s a
def sp_Most (a : SP) : Int := (sp_Most_t a).val
def sp_Most_s (a : SP) : Bool := (sp_Most_t a).safe
def sp_side_T (p_Class : Int → Int) (p_Next : Int → Int) (p_Prev : Int → Int) (sp_inf : Int) (sp_Make : Int → Int → SP) (sp_Meet : SP → SP → SP) (sp_Meet_s : SP → SP → Bool) (sp_ninf : Int) (a : SP) (f : Int) (up : Bool) (strict : Bool) : Tr (SP) :=
  Tr.br up
    (Tr.br strict
      (Tr.br (p_Class f != 3)
        (Tr.br up (Tr.ast (sp_Meet_s a (sp_Make (p_Next f) sp_inf)) (Tr.leaf (sp_Meet a (sp_Make (p_Next f) sp_inf))))
          (Tr.ast (sp_Meet_s a (sp_Make sp_ninf (p_Next f))) (Tr.leaf (sp_Meet a (sp_Make sp_ninf (p_Next f))))))
        (Tr.br strict
          (Tr.br (p_Class f != 3)
            (Tr.br up (Tr.ast (sp_Meet_s a (sp_Make (p_Prev f) sp_inf)) (Tr.leaf (sp_Meet a (sp_Make (p_Prev f) sp_inf))))
              (Tr.ast (sp_Meet_s a (sp_Make sp_ninf (p_Prev f))) (Tr.leaf (sp_Meet a (sp_Make sp_ninf (p_Prev f))))))
            (Tr.br up (Tr.ast (sp_Meet_s a (sp_Make f sp_inf)) (Tr.leaf (sp_Meet a (sp_Make f sp_inf))))
              (Tr.ast (sp_Meet_s a (sp_Make sp_ninf f)) (Tr.leaf (sp_Meet a (sp_Make sp_ninf f))))))
          (Tr.br up (Tr.ast (sp_Meet_s a (sp_Make f sp_inf)) (Tr.leaf (sp_Meet a (sp_Make f sp_inf))))
            (Tr.ast (sp_Meet_s a (sp_Make sp_ninf f)) (Tr.leaf (sp_Meet a (sp_Make sp_ninf f)))))))
      (Tr.br strict
        (Tr.br (p_Class f != 3)
          (Tr.br up (Tr.ast (sp_Meet_s a (sp_Make (p_Prev f) sp_inf)) (Tr.leaf (sp_Meet a (sp_Make (p_Prev f) sp_inf))))
            (Tr.ast (sp_Meet_s a (sp_Make sp_ninf (p_Prev f))) (Tr.leaf (sp_Meet a (sp_Make sp_ninf (p_Prev f))))))
          (Tr.br up (Tr.ast (sp_Meet_s a (sp_Make f sp_inf)) (Tr.leaf (sp_Meet a (sp_Make f sp_inf))))
            (Tr.ast (sp_Meet_s a (sp_Make sp_ninf f)) (Tr.leaf (sp_Meet a (sp_Make sp_ninf f))))))
        (Tr.br up (Tr.ast (sp_Meet_s a (sp_Make f sp_inf)) (Tr.leaf (sp_Meet a (sp_Make f sp_inf))))
          (Tr.ast (sp_Meet_s a (sp_Make sp_ninf f)) (Tr.leaf (sp_Meet a (sp_Make sp_ninf f)))))))
    (Tr.br strict
      (Tr.br (p_Class f != 3)
        (Tr.br up (Tr.ast (sp_Meet_s a (sp_Make (p_Prev f) sp_inf)) (Tr.leaf (sp_Meet a (sp_Make (p_Prev f) sp_inf))))
          (Tr.ast (sp_Meet_s a (sp_Make sp_ninf (p_Prev f))) (Tr.leaf (sp_Meet a (sp_Make sp_ninf (p_Prev f))))))
        (Tr.br up (Tr.ast (sp_Meet_s a (sp_Make f sp_inf)) (Tr.leaf (sp_Meet a (sp_Make f sp_inf))))
          (Tr.ast (sp_Meet_s a (sp_Make sp_ninf f)) (Tr.leaf (sp_Meet a (sp_Make sp_ninf f))))))
      (Tr.br up (Tr.ast (sp_Meet_s a (sp_Make f sp_inf)) (Tr.leaf (sp_Meet a (sp_Make f sp_inf))))
        (Tr.ast (sp_Meet_s a (sp_Make sp_ninf f)) (Tr.leaf (sp_Meet a (sp_Make sp_ninf f))))))
def sp_side_t (a : SP) (f : Int) (up : Bool) (strict : Bool) : Tr (SP) := sp_side_T p_Class p_Next p_Prev sp_inf sp_Make sp_Meet sp_Meet_s sp_ninf a f up strict
def sp_side (a : SP) (f : Int) (up : Bool) (strict : Bool) : SP := (sp_side_t a f up strict).val
def sp_side_s (a : SP) (f : Int) (up : Bool) (strict : Bool) : Bool := (sp_side_t a f up strict).safe
def sp_without_T (sp_side : SP → Int → Bool → Bool → SP) (sp_side_s : SP → Int → Bool → Bool → Bool) (a : SP) (point : SP) : Tr (SP) :=
  Tr.br (point.lo != point.hi) (Tr.leaf a)
    (Tr.br (a.lo == point.lo)
      (Tr.ast (sp_side_s a point.lo true true)
        (Tr.br ((sp_side a point.lo true true).hi == point.lo)
          (Tr.br (!(sp_side a point.lo true true).empty)
            (Tr.ast (sp_side_s (sp_side a point.lo true true) point.lo false true)
              (Tr.leaf (sp_side (sp_side a point.lo true true) point.lo false true)))
            (Tr.leaf (sp_side a point.lo true true)))
          (Tr.leaf (sp_side a point.lo true true))))
      (Tr.br (a.hi == point.lo)
        (Tr.br (!a.empty) (Tr.ast (sp_side_s a point.lo false true) (Tr.leaf (sp_side a point.lo false true)))
          (Tr.leaf a))
        (Tr.leaf a)))
def sp_without_t (a : SP) (point : SP) : Tr (SP) := sp_without_T sp_side sp_side_s a point
def sp_without (a : SP) (point : SP) : SP := (sp_without_t a point).val
def sp_without_s (a : SP) (point : SP) : Bool := (sp_without_t a point).safe
def sp_Test_T (sp_norm : SP → SP) (sp_none : SP) (sp_side : SP → Int → Bool → Bool → SP) (sp_side_s : SP → Int → Bool → Bool → Bool) (sp_Meet : SP → SP → SP) (sp_Meet_s : SP → SP → Bool) (sp_without : SP → SP → SP) (sp_without_s : SP → SP → Bool) (op : Int) (a : SP) (b : SP) : Tr (SP × SP) :=
  let t0 : SP := sp_side (sp_norm b) (sp_norm a).lo true true;
  let t1 : SP := sp_side (sp_norm b) (sp_norm a).hi false true;
  let t2 : SP := sp_side (sp_norm a) (sp_norm b).lo true true;
  let t3 : SP := sp_side (sp_norm a) (sp_norm b).hi false true;
  let t4 : Bool := op == 10;
  let t5 : Bool := op == 13;
  let t6 : Bool := op == 14;
  let t7 : Bool := op == 9;
  let t8 : SP := sp_side (sp_norm b) (sp_norm a).hi false t5;
  let t9 : SP := sp_side (sp_norm a) (sp_norm b).lo true t5;
  let t10 : SP := sp_side (sp_norm a) (sp_norm b).hi false t5;
  let t11 : SP := sp_side (sp_norm b) (sp_norm a).lo true t5;
  Tr.br (sp_norm a).empty (Tr.leaf (sp_none, sp_none))
    (Tr.br (sp_norm b).empty (Tr.leaf (sp_none, sp_none))
      (Tr.br t7
        (Tr.br t7
          (Tr.ast (sp_side_s (sp_norm a) (sp_norm b).hi false true)
            (Tr.ast (sp_side_s (sp_norm b) (sp_norm a).lo true true)
              (Tr.br t3.empty (Tr.leaf (sp_none, sp_none))
                (Tr.br t0.empty (Tr.leaf (sp_none, sp_none)) (Tr.leaf (t3, t0))))))
          (Tr.br t4
            (Tr.ast (sp_side_s (sp_norm a) (sp_norm b).hi false true)
              (Tr.ast (sp_side_s (sp_norm b) (sp_norm a).lo true true)
                (Tr.br t3.empty (Tr.leaf (sp_none, sp_none))
                  (Tr.br t0.empty (Tr.leaf (sp_none, sp_none)) (Tr.leaf (t3, t0))))))
            (Tr.br t5
              (Tr.ast (sp_side_s (sp_norm a) (sp_norm b).lo true true)
                (Tr.ast (sp_side_s (sp_norm b) (sp_norm a).hi false true)
                  (Tr.br t2.empty (Tr.leaf (sp_none, sp_none))
                    (Tr.br t1.empty (Tr.leaf (sp_none, sp_none)) (Tr.leaf (t2, t1))))))
              (Tr.br t6
                (Tr.ast (sp_side_s (sp_norm a) (sp_norm b).lo true true)
                  (Tr.ast (sp_side_s (sp_norm b) (sp_norm a).hi false true)
                    (Tr.br t2.empty (Tr.leaf (sp_none, sp_none))
                      (Tr.br t1.empty (Tr.leaf (sp_none, sp_none)) (Tr.leaf (t2, t1))))))
                (Tr.br (op == 11)
                  (Tr.ast (sp_Meet_s (sp_norm a) (sp_norm b))
                    (Tr.br (sp_Meet (sp_norm a) (sp_norm b)).empty (Tr.leaf (sp_none, sp_none))
                      (Tr.br (sp_Meet (sp_norm a) (sp_norm b)).empty (Tr.leaf (sp_none, sp_none))
                        (Tr.leaf (sp_Meet (sp_norm a) (sp_norm b), sp_Meet (sp_norm a) (sp_norm b))))))
                  (Tr.br (op == 12)
                    (Tr.ast (sp_without_s (sp_norm a) (sp_norm b))
                      (Tr.ast (sp_without_s (sp_norm b) (sp_norm a))
                        (Tr.br (sp_without (sp_norm a) (sp_norm b)).empty (Tr.leaf (sp_none, sp_none))
                          (Tr.br (sp_without (sp_norm b) (sp_norm a)).empty (Tr.leaf (sp_none, sp_none))
                            (Tr.leaf (sp_without (sp_norm a) (sp_norm b), sp_without (sp_norm b) (sp_norm a)))))))
                    (Tr.br (sp_norm a).empty (Tr.leaf (sp_none, sp_none))
                      (Tr.br (sp_norm b).empty (Tr.leaf (sp_none, sp_none)) (Tr.leaf (sp_norm a, sp_norm b))))))))))
        (Tr.br t7
          (Tr.ast (sp_side_s (sp_norm a) (sp_norm b).hi false t5)
            (Tr.ast (sp_side_s (sp_norm b) (sp_norm a).lo true t5)
              (Tr.br t10.empty (Tr.leaf (sp_none, sp_none))
                (Tr.br t11.empty (Tr.leaf (sp_none, sp_none)) (Tr.leaf (t10, t11))))))
          (Tr.br t4
            (Tr.ast (sp_side_s (sp_norm a) (sp_norm b).hi false t5)
              (Tr.ast (sp_side_s (sp_norm b) (sp_norm a).lo true t5)
                (Tr.br t10.empty (Tr.leaf (sp_none, sp_none))
                  (Tr.br t11.empty (Tr.leaf (sp_none, sp_none)) (Tr.leaf (t10, t11))))))
            (Tr.br t5
              (Tr.ast (sp_side_s (sp_norm a) (sp_norm b).lo true t5)
                (Tr.ast (sp_side_s (sp_norm b) (sp_norm a).hi false t5)
                  (Tr.br t9.empty (Tr.leaf (sp_none, sp_none))
                    (Tr.br t8.empty (Tr.leaf (sp_none, sp_none)) (Tr.leaf (t9, t8))))))
              (Tr.br t6
                (Tr.ast (sp_side_s (sp_norm a) (sp_norm b).lo true t5)
                  (Tr.ast (sp_side_s (sp_norm b) (sp_norm a).hi false t5)
                    (Tr.br t9.empty (Tr.leaf (sp_none, sp_none))
                      (Tr.br t8.empty (Tr.leaf (sp_none, sp_none)) (Tr.leaf (t9, t8))))))
                (Tr.br (op == 11)
                  (Tr.ast (sp_Meet_s (sp_norm a) (sp_norm b))
                    (Tr.br (sp_Meet (sp_norm a) (sp_norm b)).empty (Tr.leaf (sp_none, sp_none))
                      (Tr.br (sp_Meet (sp_norm a) (sp_norm b)).empty (Tr.leaf (sp_none, sp_none))
                        (Tr.leaf (sp_Meet (sp_norm a) (sp_norm b), sp_Meet (sp_norm a) (sp_norm b))))))
                  (Tr.br (op == 12)
                    (Tr.ast (sp_without_s (sp_norm a) (sp_norm b))
                      (Tr.ast (sp_without_s (sp_norm b) (sp_norm a))
                        (Tr.br (sp_without (sp_norm a) (sp_norm b)).empty (Tr.leaf (sp_none, sp_none))
                          (Tr.br (sp_without (sp_norm b) (sp_norm a)).empty (Tr.leaf (sp_none, sp_none))
                            (Tr.leaf (sp_without (sp_norm a) (sp_norm b), sp_without (sp_norm b) (sp_norm a)))))))
                    (Tr.br (sp_norm a).empty (Tr.leaf (sp_none, sp_none))
                      (Tr.br (sp_norm b).empty (Tr.leaf (sp_none, sp_none)) (Tr.leaf (sp_norm a, sp_norm b))))))))))))
def sp_Test_t (op : Int) (a : SP) (b : SP) : Tr (SP × SP) := sp_Test_T sp_norm sp_none sp_side sp_side_s sp_Meet sp_Meet_s sp_without sp_without_s op a b
def sp_Test (op : Int) (a : SP) (b : SP) : SP × SP := (sp_Test_t op a b).val
def sp_Test_s (op : Int) (a : SP) (b : SP) : Bool := (sp_Test_t op a b).safe
def sp_Add_T (sp_norm : SP → SP) (sp_none : SP) (s_Add : Int → Int → Int → Int × Int) (s_Add_s : Int → Int → Int → Bool) (sp_Make : Int → Int → SP) (a : SP) (b : SP) : Tr (SP) :=
  Tr.br (sp_norm a).empty (Tr.leaf sp_none)
    (Tr.br (sp_norm b).empty (Tr.leaf sp_none)
      (Tr.ast (s_Add_s (sp_norm a).lo (sp_norm b).lo 2)
        (Tr.ast (s_Add_s (sp_norm a).hi (sp_norm b).hi 1)
          (Tr.leaf (sp_Make (s_Add (sp_norm a).lo (sp_norm b).lo 2).fst (s_Add (sp_norm a).hi (sp_norm b).hi 1).fst)))))
def sp_Add_t (a : SP) (b : SP) : Tr (SP) := sp_Add_T sp_norm sp_none s_Add s_Add_s sp_Make a b
def sp_Add (a : SP) (b : SP) : SP := (sp_Add_t a b).val
def sp_Add_s (a : SP) (b : SP) : Bool := (sp_Add_t a b).safe
def sp_Sub_T (sp_Neg : SP → SP) (sp_Add : SP → SP → SP) (sp_Add_s : SP → SP → Bool) (a : SP) (b : SP) : Tr (SP) :=
  Tr.ast (sp_Add_s a (sp_Neg b)) (Tr.leaf (sp_Add a (sp_Neg b)))
def sp_Sub_t (a : SP) (b : SP) : Tr (SP) := sp_Sub_T sp_Neg sp_Add sp_Add_s a b
def sp_Sub (a : SP) (b : SP) : SP := (sp_Sub_t a b).val
def sp_Sub_s (a : SP) (b : SP) : Bool := (sp_Sub_t a b).safe
def sp_zero_T (p_Class : Int → Int) (f : Int) : Tr (Bool) :=
  Tr.leaf (p_Class f == 0)
def sp_zero_t (f : Int) : Tr (Bool) := sp_zero_T p_Class f
def sp_zero (f : Int) : Bool := (sp_zero_t f).val
def sp_outer_T (sp_inf : Int) (p_Prev : Int → Int) (sp_ninf : Int) (p_Next : Int → Int) (sp_Make : Int → Int → SP) (lo : Int) (hi : Int) : Tr (SP) :=
  Tr.br (lo == sp_inf) (Tr.leaf (sp_Make (p_Prev lo) hi))
    (Tr.br (hi == sp_ninf) (Tr.leaf (sp_Make lo (p_Next hi))) (Tr.leaf (sp_Make lo hi)))
def sp_outer_t (lo : Int) (hi : Int) : Tr (SP) := sp_outer_T sp_inf p_Prev sp_ninf p_Next sp_Make lo hi
def sp_outer (lo : Int) (hi : Int) : SP := (sp_outer_t lo hi).val
def sp_Mul1_T (sp_zero : Int → Bool) (s_Mul : Int → Int → Int → Int × Int) (s_Mul_s : Int → Int → Int → Bool) (x : Int) (y : Int) (mode : Int) : Tr (Int) :=
  Tr.br (sp_zero x) (Tr.leaf 0) (Tr.br (sp_zero y) (Tr.leaf 0) (Tr.ast (s_Mul_s x y mode) (Tr.leaf (s_Mul x y mode).fst)))
def sp_Mul1_t (x : Int) (y : Int) (mode : Int) : Tr (Int) := sp_Mul1_T sp_zero s_Mul s_Mul_s x y mode
def sp_Mul1 (x : Int) (y : Int) (mode : Int) : Int := (sp_Mul1_t x y mode).val
def sp_Mul1_s (x : Int) (y : Int) (mode : Int) : Bool := (sp_Mul1_t x y mode).safe
def sp_above1_T (p_Class : Int → Int) (sp_zero : Int → Bool) (p_Inf : Bool → Int) (s_Div : Int → Int → Int → Int × Int) (s_Div_s : Int → Int → Int → Bool) (x : Int) (y : Int) (mode : Int) : Tr (Int) :=
  Tr.br (sp_zero x) (Tr.leaf 0)
    (Tr.br (p_Class y == 3)
      (Tr.br (p_Class x != 3) (Tr.leaf 0)
        (Tr.br (p_Class y == 3) (Tr.leaf (p_Inf (shrI IntKind.u64 x 63 == 1)))
          (Tr.br (sp_zero y) (Tr.leaf (p_Inf (shrI IntKind.u64 x 63 == 1)))
            (Tr.ast (s_Div_s x y mode) (Tr.leaf (s_Div x y mode).fst)))))
      (Tr.br (p_Class y == 3) (Tr.leaf (p_Inf (shrI IntKind.u64 x 63 == 1)))
        (Tr.br (sp_zero y) (Tr.leaf (p_Inf (shrI IntKind.u64 x 63 == 1)))
          (Tr.ast (s_Div_s x y mode) (Tr.leaf (s_Div x y mode).fst)))))
def sp_above1_t (x : Int) (y : Int) (mode : Int) : Tr (Int) := sp_above1_T p_Class sp_zero p_Inf s_Div s_Div_s x y mode
def sp_above1 (x : Int) (y : Int) (mode : Int) : Int := (sp_above1_t x y mode).val
def sp_above1_s (x : Int) (y : Int) (mode : Int) : Bool := (sp_above1_t x y mode).safe
def sp_cornersM_T (sp_none : SP) (sp_outer : Int → Int → SP) (sp_Join : (List (List Cv)) → SP) (sp_Join_s : (List (List Cv)) → Bool) (sp_Mul1 : Int → Int → Int → Int) (sp_Mul1_s : Int → Int → Int → Bool) (a : SP) (b : SP) (_fn : Unit) : Tr (SP) :=
  let t0 : SP := sp_outer (sp_Mul1 a.hi b.lo 2) (sp_Mul1 a.hi b.lo 1);
  let t1 : SP := sp_outer (sp_Mul1 a.lo b.hi 2) (sp_Mul1 a.lo b.hi 1);
  let t2 : SP := sp_outer (sp_Mul1 a.hi b.hi 2) (sp_Mul1 a.hi b.hi 1);
  let t3 : SP := sp_outer (sp_Mul1 a.lo b.lo 2) (sp_Mul1 a.lo b.lo 1);
  let t4 : List (List Cv) :=
    id [[Cv.b sp_none.empty, Cv.i sp_none.lo, Cv.i sp_none.hi], [Cv.b t3.empty, Cv.i t3.lo, Cv.i t3.hi]];
  let t5 : SP := sp_Join t4;
  let t6 : List (List Cv) := id [[Cv.b t5.empty, Cv.i t5.lo, Cv.i t5.hi], [Cv.b t1.empty, Cv.i t1.lo, Cv.i t1.hi]];
  let t7 : SP := sp_Join t6;
  let t8 : List (List Cv) := id [[Cv.b t7.empty, Cv.i t7.lo, Cv.i t7.hi], [Cv.b t0.empty, Cv.i t0.lo, Cv.i t0.hi]];
  let t9 : SP := sp_Join t8;
  let t10 : List (List Cv) := id [[Cv.b t9.empty, Cv.i t9.lo, Cv.i t9.hi], [Cv.b t2.empty, Cv.i t2.lo, Cv.i t2.hi]];
  Tr.ast (sp_Mul1_s a.lo b.lo 2)
    (Tr.ast (sp_Mul1_s a.lo b.lo 1)
      (Tr.ast (sp_Join_s t4)
        (Tr.ast (sp_Mul1_s a.lo b.hi 2)
          (Tr.ast (sp_Mul1_s a.lo b.hi 1)
            (Tr.ast (sp_Join_s t6)
              (Tr.ast (sp_Mul1_s a.hi b.lo 2)
                (Tr.ast (sp_Mul1_s a.hi b.lo 1)
                  (Tr.ast (sp_Join_s t8)
                    (Tr.ast (sp_Mul1_s a.hi b.hi 2)
                      (Tr.ast (sp_Mul1_s a.hi b.hi 1) (Tr.ast (sp_Join_s t10) (Tr.leaf (sp_Join t10)))))))))))))
def sp_cornersM_t (a : SP) (b : SP) (fn : Unit) : Tr (SP) := sp_cornersM_T sp_none sp_outer sp_Join sp_Join_s sp_Mul1 sp_Mul1_s a b fn
def sp_cornersM (a : SP) (b : SP) (fn : Unit) : SP := (sp_cornersM_t a b fn).val
def sp_cornersM_s (a : SP) (b : SP) (fn : Unit) : Bool := (sp_cornersM_t a b fn).safe
def sp_cornersD_T (sp_none : SP) (sp_outer : Int → Int → SP) (sp_Join : (List (List Cv)) → SP) (sp_Join_s : (List (List Cv)) → Bool) (sp_above1 : Int → Int → Int → Int) (sp_above1_s : Int → Int → Int → Bool) (a : SP) (b : SP) (_fn : Unit) : Tr (SP) :=
  let t0 : SP := sp_outer (sp_above1 a.lo b.hi 2) (sp_above1 a.lo b.hi 1);
  let t1 : SP := sp_outer (sp_above1 a.lo b.lo 2) (sp_above1 a.lo b.lo 1);
  let t2 : SP := sp_outer (sp_above1 a.hi b.hi 2) (sp_above1 a.hi b.hi 1);
  let t3 : SP := sp_outer (sp_above1 a.hi b.lo 2) (sp_above1 a.hi b.lo 1);
  let t4 : List (List Cv) :=
    id [[Cv.b sp_none.empty, Cv.i sp_none.lo, Cv.i sp_none.hi], [Cv.b t1.empty, Cv.i t1.lo, Cv.i t1.hi]];
  let t5 : SP := sp_Join t4;
  let t6 : List (List Cv) := id [[Cv.b t5.empty, Cv.i t5.lo, Cv.i t5.hi], [Cv.b t0.empty, Cv.i t0.lo, Cv.i t0.hi]];
  let t7 : SP := sp_Join t6;
  let t8 : List (List Cv) := id [[Cv.b t7.empty, Cv.i t7.lo, Cv.i t7.hi], [Cv.b t3.empty, Cv.i t3.lo, Cv.i t3.hi]];
  let t9 : SP := sp_Join t8;
  let t10 : List (List Cv) := id [[Cv.b t9.empty, Cv.i t9.lo, Cv.i t9.hi], [Cv.b t2.empty, Cv.i t2.lo, Cv.i t2.hi]];
  Tr.ast (sp_above1_s a.lo b.lo 2)
    (Tr.ast (sp_above1_s a.lo b.lo 1)
      (Tr.ast (sp_Join_s t4)
        (Tr.ast (sp_above1_s a.lo b.hi 2)
          (Tr.ast (sp_above1_s a.lo b.hi 1)
            (Tr.ast (sp_Join_s t6)
              (Tr.ast (sp_above1_s a.hi b.lo 2)
                (Tr.ast (sp_above1_s a.hi b.lo 1)
                  (Tr.ast (sp_Join_s t8)
                    (Tr.ast (sp_above1_s a.hi b.hi 2)
                      (Tr.ast (sp_above1_s a.hi b.hi 1) (Tr.ast (sp_Join_s t10) (Tr.leaf (sp_Join t10)))))))))))))
def sp_cornersD_t (a : SP) (b : SP) (fn : Unit) : Tr (SP) := sp_cornersD_T sp_none sp_outer sp_Join sp_Join_s sp_above1 sp_above1_s a b fn
def sp_cornersD (a : SP) (b : SP) (fn : Unit) : SP := (sp_cornersD_t a b fn).val
def sp_cornersD_s (a : SP) (b : SP) (fn : Unit) : Bool := (sp_cornersD_t a b fn).safe
def sp_Mul_T (sp_norm : SP → SP) (sp_none : SP) (sp_cornersM : SP → SP → Unit → SP) (sp_cornersM_s : SP → SP → Unit → Bool) (a : SP) (b : SP) : Tr (SP) :=
  Tr.br (sp_norm a).empty (Tr.leaf sp_none)
    (Tr.br (sp_norm b).empty (Tr.leaf sp_none)
      (Tr.ast (sp_cornersM_s (sp_norm a) (sp_norm b) ()) (Tr.leaf (sp_cornersM (sp_norm a) (sp_norm b) ()))))
def sp_Mul_t (a : SP) (b : SP) : Tr (SP) := sp_Mul_T sp_norm sp_none sp_cornersM sp_cornersM_s a b
def sp_Mul (a : SP) (b : SP) : SP := (sp_Mul_t a b).val
def sp_Mul_s (a : SP) (b : SP) : Bool := (sp_Mul_t a b).safe
def sp_above_T (sp_cornersD : SP → SP → Unit → SP) (sp_cornersD_s : SP → SP → Unit → Bool) (a : SP) (b : SP) : Tr (SP) :=
  Tr.ast (sp_cornersD_s a b ()) (Tr.leaf (sp_cornersD a b ()))
def sp_above_t (a : SP) (b : SP) : Tr (SP) := sp_above_T sp_cornersD sp_cornersD_s a b
def sp_above (a : SP) (b : SP) : SP := (sp_above_t a b).val
def sp_above_s (a : SP) (b : SP) : Bool := (sp_above_t a b).safe
def sp_Div_T (sp_norm : SP → SP) (sp_none : SP) (sp_atMost : Int → Int → Bool) (sp_inf : Int) (sp_Make : Int → Int → SP) (sp_Meet : SP → SP → SP) (sp_Meet_s : SP → SP → Bool) (sp_above : SP → SP → SP) (sp_above_s : SP → SP → Bool) (sp_ninf : Int) (sp_Neg : SP → SP) (sp_Join : (List (List Cv)) → SP) (sp_Join_s : (List (List Cv)) → Bool) (a : SP) (b : SP) : Tr (SP) :=
  Tr.br (sp_norm a).empty (Tr.leaf sp_none)
    (Tr.br (sp_norm b).empty (Tr.leaf sp_none)
      (Tr.br (!sp_atMost (sp_norm b).hi 0)
        (Tr.ast (sp_Meet_s (sp_norm b) (sp_Make 0 sp_inf))
          (Tr.ast (sp_above_s (sp_norm a) (sp_Meet (sp_norm b) (sp_Make 0 sp_inf)))
            (Tr.br (!sp_atMost 0 (sp_norm b).lo)
              (Tr.ast (sp_Meet_s (sp_norm b) (sp_Make sp_ninf 0))
                (Tr.ast (sp_above_s (sp_norm a) (sp_Neg (sp_Meet (sp_norm b) (sp_Make sp_ninf 0))))
                  (Tr.ast
                    (sp_Join_s
                      (id
                        [[Cv.b (sp_above (sp_norm a) (sp_Meet (sp_norm b) (sp_Make 0 sp_inf))).empty,
                            Cv.i (sp_above (sp_norm a) (sp_Meet (sp_norm b) (sp_Make 0 sp_inf))).lo,
                            Cv.i (sp_above (sp_norm a) (sp_Meet (sp_norm b) (sp_Make 0 sp_inf))).hi],
                          [Cv.b (sp_Neg (sp_above (sp_norm a) (sp_Neg (sp_Meet (sp_norm b) (sp_Make sp_ninf 0))))).empty,
                            Cv.i (sp_Neg (sp_above (sp_norm a) (sp_Neg (sp_Meet (sp_norm b) (sp_Make sp_ninf 0))))).lo,
                            Cv.i (sp_Neg (sp_above (sp_norm a) (sp_Neg (sp_Meet (sp_norm b) (sp_Make sp_ninf 0))))).hi]]))
                    (Tr.leaf
                      (sp_Join
                        (id
                          [[Cv.b (sp_above (sp_norm a) (sp_Meet (sp_norm b) (sp_Make 0 sp_inf))).empty,
                              Cv.i (sp_above (sp_norm a) (sp_Meet (sp_norm b) (sp_Make 0 sp_inf))).lo,
                              Cv.i (sp_above (sp_norm a) (sp_Meet (sp_norm b) (sp_Make 0 sp_inf))).hi],
                            [Cv.b
                                (sp_Neg (sp_above (sp_norm a) (sp_Neg (sp_Meet (sp_norm b) (sp_Make sp_ninf 0))))).empty,
                              Cv.i (sp_Neg (sp_above (sp_norm a) (sp_Neg (sp_Meet (sp_norm b) (sp_Make sp_ninf 0))))).lo,
                              Cv.i
                                (sp_Neg
                                    (sp_above (sp_norm a) (sp_Neg (sp_Meet (sp_norm b) (sp_Make sp_ninf 0))))).hi]]))))))
              (Tr.leaf (sp_above (sp_norm a) (sp_Meet (sp_norm b) (sp_Make 0 sp_inf)))))))
        (Tr.br (!sp_atMost 0 (sp_norm b).lo)
          (Tr.ast (sp_Meet_s (sp_norm b) (sp_Make sp_ninf 0))
            (Tr.ast (sp_above_s (sp_norm a) (sp_Neg (sp_Meet (sp_norm b) (sp_Make sp_ninf 0))))
              (Tr.ast
                (sp_Join_s
                  (id
                    [[Cv.b sp_none.empty, Cv.i sp_none.lo, Cv.i sp_none.hi],
                      [Cv.b (sp_Neg (sp_above (sp_norm a) (sp_Neg (sp_Meet (sp_norm b) (sp_Make sp_ninf 0))))).empty,
                        Cv.i (sp_Neg (sp_above (sp_norm a) (sp_Neg (sp_Meet (sp_norm b) (sp_Make sp_ninf 0))))).lo,
                        Cv.i (sp_Neg (sp_above (sp_norm a) (sp_Neg (sp_Meet (sp_norm b) (sp_Make sp_ninf 0))))).hi]]))
                (Tr.leaf
                  (sp_Join
                    (id
                      [[Cv.b sp_none.empty, Cv.i sp_none.lo, Cv.i sp_none.hi],
                        [Cv.b (sp_Neg (sp_above (sp_norm a) (sp_Neg (sp_Meet (sp_norm b) (sp_Make sp_ninf 0))))).empty,
                          Cv.i (sp_Neg (sp_above (sp_norm a) (sp_Neg (sp_Meet (sp_norm b) (sp_Make sp_ninf 0))))).lo,
                          Cv.i
                            (sp_Neg (sp_above (sp_norm a) (sp_Neg (sp_Meet (sp_norm b) (sp_Make sp_ninf 0))))).hi]]))))))
          (Tr.leaf sp_none))))
def sp_Div_t (a : SP) (b : SP) : Tr (SP) := sp_Div_T sp_norm sp_none sp_atMost sp_inf sp_Make sp_Meet sp_Meet_s sp_above sp_above_s sp_ninf sp_Neg sp_Join sp_Join_s a b
def sp_Div (a : SP) (b : SP) : SP := (sp_Div_t a b).val
def sp_Div_s (a : SP) (b : SP) : Bool := (sp_Div_t a b).safe
def r16_le_T (r4_Cmp : Int → Int → Int × Bool) (a : Int) (b : Int) : Tr (Bool) :=
  Tr.br (r4_Cmp a b).snd (Tr.leaf (decide ((r4_Cmp a b).fst ≤ 0))) (Tr.leaf false)
def r16_le_t (a : Int) (b : Int) : Tr (Bool) := r16_le_T r4_Cmp a b
def r16_le (a : Int) (b : Int) : Bool := (r16_le_t a b).val
def r16_Norm_T (r16_le : Int → Int → Bool) (s : SP) : Tr (SP) :=
  Tr.br s.empty (Tr.leaf (SP.mk true 0 0))
    (Tr.br (!r16_le s.lo s.hi) (Tr.leaf (SP.mk true 0 0))
      (Tr.br (s.lo == 9218868437227405312) (Tr.leaf (SP.mk true 0 0))
        (Tr.br (s.hi == 18442240474082181120) (Tr.leaf (SP.mk true 0 0))
          (Tr.br (s.lo == 9223372036854775808)
            (Tr.br (s.hi == 9223372036854775808) (Tr.leaf (SP.mk s.empty 0 0)) (Tr.leaf (SP.mk s.empty 0 s.hi)))
            (Tr.br (s.hi == 9223372036854775808) (Tr.leaf (SP.mk s.empty s.lo 0)) (Tr.leaf s))))))
def r16_Norm_t (s : SP) : Tr (SP) := r16_Norm_T r16_le s
def r16_Norm (s : SP) : SP := (r16_Norm_t s).val
def r16_Make_T (r16_Norm : SP → SP) (lo : Int) (hi : Int) : Tr (SP) :=
  Tr.leaf (r16_Norm (SP.mk false lo hi))
def r16_Make_t (lo : Int) (hi : Int) : Tr (SP) := r16_Make_T r16_Norm lo hi
def r16_Make (lo : Int) (hi : Int) : SP := (r16_Make_t lo hi).val
def r16_Join_T (r16_Norm : SP → SP) (r16_le : Int → Int → Bool) (a : SP) (b : SP) : Tr (SP) :=
  Tr.br (r16_Norm a).empty (Tr.leaf (r16_Norm b))
    (Tr.br (r16_Norm b).empty (Tr.leaf (r16_Norm a))
      (Tr.br (r16_le (r16_Norm b).lo (r16_Norm a).lo)
        (Tr.br (r16_le (r16_Norm a).hi (r16_Norm b).hi)
          (Tr.leaf (SP.mk (r16_Norm a).empty (r16_Norm b).lo (r16_Norm b).hi))
          (Tr.leaf (SP.mk (r16_Norm a).empty (r16_Norm b).lo (r16_Norm a).hi)))
        (Tr.br (r16_le (r16_Norm a).hi (r16_Norm b).hi)
          (Tr.leaf (SP.mk (r16_Norm a).empty (r16_Norm a).lo (r16_Norm b).hi)) (Tr.leaf (r16_Norm a)))))
def r16_Join_t (a : SP) (b : SP) : Tr (SP) := r16_Join_T r16_Norm r16_le a b
def r16_Join (a : SP) (b : SP) : SP := (r16_Join_t a b).val
def r16_minus_T  (f : Int) : Tr (Int) :=
  Tr.leaf (bitsI BinOp.xor IntKind.u64 f 9223372036854775808)
def r16_minus_t (f : Int) : Tr (Int) := r16_minus_T  f
def r16_minus (f : Int) : Int := (r16_minus_t f).val
def r16_Neg_T (r16_Norm : SP → SP) (r16_minus : Int → Int) (r16_Make : Int → Int → SP) (a : SP) : Tr (SP) :=
  Tr.br (r16_Norm a).empty (Tr.leaf (r16_Norm a))
    (Tr.leaf (r16_Make (r16_minus (r16_Norm a).hi) (r16_minus (r16_Norm a).lo)))
def r16_Neg_t (a : SP) : Tr (SP) := r16_Neg_T r16_Norm r16_minus r16_Make a
def r16_Neg (a : SP) : SP := (r16_Neg_t a).val
def r16_Abs_T (r16_Norm : SP → SP) (r16_le : Int → Int → Bool) (r16_Neg : SP → SP) (r16_Join : SP → SP → SP) (r16_Make : Int → Int → SP) (a : SP) : Tr (SP) :=
  Tr.br (r16_Norm a).empty (Tr.leaf (r16_Norm a))
    (Tr.br (r16_le 0 (r16_Norm a).lo) (Tr.leaf (r16_Norm a))
      (Tr.br (r16_le (r16_Norm a).hi 0) (Tr.leaf (r16_Neg (r16_Norm a)))
        (Tr.leaf (r16_Make 0 (r16_Join (r16_Norm a) (r16_Neg (r16_Norm a))).hi))))
def r16_Abs_t (a : SP) : Tr (SP) := r16_Abs_T r16_Norm r16_le r16_Neg r16_Join r16_Make a
def r16_Abs (a : SP) : SP := (r16_Abs_t a).val
end Go.Fb
namespace Go.Fb
open Go.Ev
def r16_Add_T (r16_Norm : SP → SP) (r6_Add : Int → Int → Int → Int × Int) (r6_Add_s : Int → Int → Int → Bool) (r16_Make : Int → Int → SP) (a : SP) (b : SP) : Tr (SP) :=
  Tr.br (r16_Norm a).empty (Tr.leaf (SP.mk true 0 0))
    (Tr.br (r16_Norm b).empty (Tr.leaf (SP.mk true 0 0))
      (Tr.ast (r6_Add_s (r16_Norm a).lo (r16_Norm b).lo 2)
        (Tr.ast (r6_Add_s (r16_Norm a).hi (r16_Norm b).hi 1)
          (Tr.leaf
            (r16_Make (r6_Add (r16_Norm a).lo (r16_Norm b).lo 2).fst (r6_Add (r16_Norm a).hi (r16_Norm b).hi 1).fst)))))
def r16_Add_t (a : SP) (b : SP) : Tr (SP) := r16_Add_T r16_Norm r6_Add r6_Add_s r16_Make a b
def r16_Add (a : SP) (b : SP) : SP := (r16_Add_t a b).val
def r16_Add_s (a : SP) (b : SP) : Bool := (r16_Add_t a b).safe
def r16_times_T (r4_Class : Int → Int) (r6_Mul : Int → Int → Int → Int × Int) (r6_Mul_s : Int → Int → Int → Bool) (a : Int) (b : Int) (m : Int) : Tr (Int) :=
  Tr.br (r4_Class a == 0) (Tr.leaf 0)
    (Tr.br (r4_Class b == 0) (Tr.leaf 0) (Tr.ast (r6_Mul_s a b m) (Tr.leaf (r6_Mul a b m).fst)))
def r16_times_t (a : Int) (b : Int) (m : Int) : Tr (Int) := r16_times_T r4_Class r6_Mul r6_Mul_s a b m
def r16_times (a : Int) (b : Int) (m : Int) : Int := (r16_times_t a b m).val
def r16_times_s (a : Int) (b : Int) (m : Int) : Bool := (r16_times_t a b m).safe
def r16_lesser_T (r16_le : Int → Int → Bool) (a : Int) (b : Int) : Tr (Int) :=
  Tr.br (r16_le a b) (Tr.leaf a) (Tr.leaf b)
def r16_lesser_t (a : Int) (b : Int) : Tr (Int) := r16_lesser_T r16_le a b
def r16_lesser (a : Int) (b : Int) : Int := (r16_lesser_t a b).val
def r16_greater_T (r16_le : Int → Int → Bool) (a : Int) (b : Int) : Tr (Int) :=
  Tr.br (r16_le a b) (Tr.leaf b) (Tr.leaf a)
def r16_greater_t (a : Int) (b : Int) : Tr (Int) := r16_greater_T r16_le a b
def r16_greater (a : Int) (b : Int) : Int := (r16_greater_t a b).val
def r16_Mul_T (r16_Norm : SP → SP) (r16_times : Int → Int → Int → Int) (r16_times_s : Int → Int → Int → Bool) (r16_lesser : Int → Int → Int) (r16_greater : Int → Int → Int) (r16_Make : Int → Int → SP) (a : SP) (b : SP) : Tr (SP) :=
  Tr.br (r16_Norm a).empty (Tr.leaf (SP.mk true 0 0))
    (Tr.br (r16_Norm b).empty (Tr.leaf (SP.mk true 0 0))
      (Tr.ast (r16_times_s (r16_Norm a).lo (r16_Norm b).lo 2)
        (Tr.ast (r16_times_s (r16_Norm a).lo (r16_Norm b).lo 1)
          (Tr.ast (r16_times_s (r16_Norm a).lo (r16_Norm b).hi 2)
            (Tr.ast (r16_times_s (r16_Norm a).lo (r16_Norm b).hi 1)
              (Tr.ast (r16_times_s (r16_Norm a).hi (r16_Norm b).lo 2)
                (Tr.ast (r16_times_s (r16_Norm a).hi (r16_Norm b).lo 1)
                  (Tr.ast (r16_times_s (r16_Norm a).hi (r16_Norm b).hi 2)
                    (Tr.ast (r16_times_s (r16_Norm a).hi (r16_Norm b).hi 1)
                      (Tr.leaf
                        (r16_Make
                          (r16_lesser
                            (r16_lesser
                              (r16_lesser (r16_lesser 9218868437227405312 (r16_times (r16_Norm a).lo (r16_Norm b).lo 2))
                                (r16_times (r16_Norm a).lo (r16_Norm b).hi 2))
                              (r16_times (r16_Norm a).hi (r16_Norm b).lo 2))
                            (r16_times (r16_Norm a).hi (r16_Norm b).hi 2))
                          (r16_greater
                            (r16_greater
                              (r16_greater
                                (r16_greater 18442240474082181120 (r16_times (r16_Norm a).lo (r16_Norm b).lo 1))
                                (r16_times (r16_Norm a).lo (r16_Norm b).hi 1))
                              (r16_times (r16_Norm a).hi (r16_Norm b).lo 1))
                            (r16_times (r16_Norm a).hi (r16_Norm b).hi 1)))))))))))))
def r16_Mul_t (a : SP) (b : SP) : Tr (SP) := r16_Mul_T r16_Norm r16_times r16_times_s r16_lesser r16_greater r16_Make a b
def r16_Mul (a : SP) (b : SP) : SP := (r16_Mul_t a b).val
def r16_Mul_s (a : SP) (b : SP) : Bool := (r16_Mul_t a b).safe
def r16_over_T (r4_Class : Int → Int) (r6_Div : Int → Int → Int → Int × Int) (r6_Div_s : Int → Int → Int → Bool) (a : Int) (b : Int) (m : Int) : Tr (Int) :=
  Tr.br (shrI IntKind.u64 a 63 == 1)
    (Tr.br (r4_Class a == 0) (Tr.leaf 0)
      (Tr.br (r4_Class a == 3) (Tr.leaf 18442240474082181120)
        (Tr.br (b == 0) (Tr.leaf 18442240474082181120)
          (Tr.br (b == 9218868437227405312) (Tr.leaf 0) (Tr.ast (r6_Div_s a b m) (Tr.leaf (r6_Div a b m).fst))))))
    (Tr.br (r4_Class a == 0) (Tr.leaf 0)
      (Tr.br (r4_Class a == 3) (Tr.leaf 9218868437227405312)
        (Tr.br (b == 0) (Tr.leaf 9218868437227405312)
          (Tr.br (b == 9218868437227405312) (Tr.leaf 0) (Tr.ast (r6_Div_s a b m) (Tr.leaf (r6_Div a b m).fst))))))
def r16_over_t (a : Int) (b : Int) (m : Int) : Tr (Int) := r16_over_T r4_Class r6_Div r6_Div_s a b m
def r16_over (a : Int) (b : Int) (m : Int) : Int := (r16_over_t a b m).val
def r16_over_s (a : Int) (b : Int) (m : Int) : Bool := (r16_over_t a b m).safe
def r16_above_T (r16_over : Int → Int → Int → Int) (r16_over_s : Int → Int → Int → Bool) (r16_lesser : Int → Int → Int) (r16_greater : Int → Int → Int) (r16_Make : Int → Int → SP) (x : SP) (lo : Int) (hi : Int) : Tr (SP) :=
  Tr.ast (r16_over_s x.lo lo 2)
    (Tr.ast (r16_over_s x.lo lo 1)
      (Tr.ast (r16_over_s x.lo hi 2)
        (Tr.ast (r16_over_s x.lo hi 1)
          (Tr.ast (r16_over_s x.hi lo 2)
            (Tr.ast (r16_over_s x.hi lo 1)
              (Tr.ast (r16_over_s x.hi hi 2)
                (Tr.ast (r16_over_s x.hi hi 1)
                  (Tr.leaf
                    (r16_Make
                      (r16_lesser
                        (r16_lesser
                          (r16_lesser (r16_lesser 9218868437227405312 (r16_over x.lo lo 2)) (r16_over x.lo hi 2))
                          (r16_over x.hi lo 2))
                        (r16_over x.hi hi 2))
                      (r16_greater
                        (r16_greater
                          (r16_greater (r16_greater 18442240474082181120 (r16_over x.lo lo 1)) (r16_over x.lo hi 1))
                          (r16_over x.hi lo 1))
                        (r16_over x.hi hi 1)))))))))))
def r16_above_t (x : SP) (lo : Int) (hi : Int) : Tr (SP) := r16_above_T r16_over r16_over_s r16_lesser r16_greater r16_Make x lo hi
def r16_above (x : SP) (lo : Int) (hi : Int) : SP := (r16_above_t x lo hi).val
def r16_above_s (x : SP) (lo : Int) (hi : Int) : Bool := (r16_above_t x lo hi).safe
def r16_flip_T (r4_Class : Int → Int) (r16_minus : Int → Int) (f : Int) : Tr (Int) :=
  Tr.br (r4_Class f == 0) (Tr.leaf 0) (Tr.leaf (r16_minus f))
def r16_flip_t (f : Int) : Tr (Int) := r16_flip_T r4_Class r16_minus f
def r16_flip (f : Int) : Int := (r16_flip_t f).val
def r16_Div_T (r16_Norm : SP → SP) (r16_le : Int → Int → Bool) (r16_above : SP → Int → Int → SP) (r16_above_s : SP → Int → Int → Bool) (r16_flip : Int → Int) (r16_minus : Int → Int) (r16_Neg : SP → SP) (r16_Join : SP → SP → SP) (a : SP) (b : SP) : Tr (SP) :=
  Tr.br (r16_Norm a).empty (Tr.leaf (SP.mk true 0 0))
    (Tr.br (r16_Norm b).empty (Tr.leaf (SP.mk true 0 0))
      (Tr.br (!r16_le (r16_Norm b).hi 0)
        (Tr.br (r16_le (r16_Norm b).lo 0)
          (Tr.ast (r16_above_s (r16_Norm a) 0 (r16_Norm b).hi)
            (Tr.br (!r16_le 0 (r16_Norm b).lo)
              (Tr.br (r16_le 0 (r16_Norm b).hi)
                (Tr.ast (r16_above_s (r16_Norm a) (r16_flip 0) (r16_minus (r16_Norm b).lo))
                  (Tr.leaf
                    (r16_Join (r16_above (r16_Norm a) 0 (r16_Norm b).hi)
                      (r16_Neg (r16_above (r16_Norm a) (r16_flip 0) (r16_minus (r16_Norm b).lo))))))
                (Tr.ast (r16_above_s (r16_Norm a) (r16_flip (r16_Norm b).hi) (r16_minus (r16_Norm b).lo))
                  (Tr.leaf
                    (r16_Join (r16_above (r16_Norm a) 0 (r16_Norm b).hi)
                      (r16_Neg (r16_above (r16_Norm a) (r16_flip (r16_Norm b).hi) (r16_minus (r16_Norm b).lo)))))))
              (Tr.leaf (r16_above (r16_Norm a) 0 (r16_Norm b).hi))))
          (Tr.ast (r16_above_s (r16_Norm a) (r16_Norm b).lo (r16_Norm b).hi)
            (Tr.br (!r16_le 0 (r16_Norm b).lo)
              (Tr.br (r16_le 0 (r16_Norm b).hi)
                (Tr.ast (r16_above_s (r16_Norm a) (r16_flip 0) (r16_minus (r16_Norm b).lo))
                  (Tr.leaf
                    (r16_Join (r16_above (r16_Norm a) (r16_Norm b).lo (r16_Norm b).hi)
                      (r16_Neg (r16_above (r16_Norm a) (r16_flip 0) (r16_minus (r16_Norm b).lo))))))
                (Tr.ast (r16_above_s (r16_Norm a) (r16_flip (r16_Norm b).hi) (r16_minus (r16_Norm b).lo))
                  (Tr.leaf
                    (r16_Join (r16_above (r16_Norm a) (r16_Norm b).lo (r16_Norm b).hi)
                      (r16_Neg (r16_above (r16_Norm a) (r16_flip (r16_Norm b).hi) (r16_minus (r16_Norm b).lo)))))))
              (Tr.leaf (r16_above (r16_Norm a) (r16_Norm b).lo (r16_Norm b).hi)))))
        (Tr.br (!r16_le 0 (r16_Norm b).lo)
          (Tr.br (r16_le 0 (r16_Norm b).hi)
            (Tr.ast (r16_above_s (r16_Norm a) (r16_flip 0) (r16_minus (r16_Norm b).lo))
              (Tr.leaf
                (r16_Join (SP.mk true 0 0) (r16_Neg (r16_above (r16_Norm a) (r16_flip 0) (r16_minus (r16_Norm b).lo))))))
            (Tr.ast (r16_above_s (r16_Norm a) (r16_flip (r16_Norm b).hi) (r16_minus (r16_Norm b).lo))
              (Tr.leaf
                (r16_Join (SP.mk true 0 0)
                  (r16_Neg (r16_above (r16_Norm a) (r16_flip (r16_Norm b).hi) (r16_minus (r16_Norm b).lo)))))))
          (Tr.leaf (SP.mk true 0 0)))))
def r16_Div_t (a : SP) (b : SP) : Tr (SP) := r16_Div_T r16_Norm r16_le r16_above r16_above_s r16_flip r16_minus r16_Neg r16_Join a b
def r16_Div (a : SP) (b : SP) : SP := (r16_Div_t a b).val
def r16_Div_s (a : SP) (b : SP) : Bool := (r16_Div_t a b).safe
end Go.Fb
