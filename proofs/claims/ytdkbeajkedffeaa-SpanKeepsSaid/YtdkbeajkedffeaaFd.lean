/- Spans: what the functions compute, as definitions. Conditions: none. -/
import Derived.Test.YtdkbeajkedffeaaSd
namespace Go.Fb
open Go.Ev
def sp_inf_T (p_Inf : Bool → Int)  : Tr (Int) :=
  Tr.leaf (p_Inf false)
def sp_inf_t  : Tr (Int) := sp_inf_T p_Inf 
def sp_inf  : Int := (sp_inf_t ).val
def sp_ninf_T (p_Inf : Bool → Int)  : Tr (Int) :=
  Tr.leaf (p_Inf true)
def sp_ninf_t  : Tr (Int) := sp_ninf_T p_Inf 
def sp_ninf  : Int := (sp_ninf_t ).val
def sp_none_T   : Tr (SP) :=
  Tr.leaf (SP.mk true 0 0)
def sp_none_t  : Tr (SP) := sp_none_T  
def sp_none  : SP := (sp_none_t ).val
def sp_atMost_T (p_Cmp : Int → Int → Int × Bool) (a : Int) (b : Int) : Tr (Bool) :=
  Tr.br (p_Cmp a b).snd (Tr.leaf (decide ((p_Cmp a b).fst ≤ 0))) (Tr.leaf false)
def sp_atMost_t (a : Int) (b : Int) : Tr (Bool) := sp_atMost_T p_Cmp a b
def sp_atMost (a : Int) (b : Int) : Bool := (sp_atMost_t a b).val
def sp_norm_T (sp_atMost : Int → Int → Bool) (sp_inf : Int) (sp_ninf : Int) (sp_none : SP) (p_Class : Int → Int) (s : SP) : Tr (SP) :=
  Tr.br s.empty (Tr.leaf sp_none)
    (Tr.br (!sp_atMost s.lo s.hi) (Tr.leaf sp_none)
      (Tr.br (s.lo == sp_inf) (Tr.leaf sp_none)
        (Tr.br (s.hi == sp_ninf) (Tr.leaf sp_none)
          (Tr.br (p_Class s.lo == 0)
            (Tr.br (p_Class s.hi == 0) (Tr.leaf (SP.mk s.empty 0 0)) (Tr.leaf (SP.mk s.empty 0 s.hi)))
            (Tr.br (p_Class s.hi == 0) (Tr.leaf (SP.mk s.empty s.lo 0)) (Tr.leaf s))))))
def sp_norm_t (s : SP) : Tr (SP) := sp_norm_T sp_atMost sp_inf sp_ninf sp_none p_Class s
def sp_norm (s : SP) : SP := (sp_norm_t s).val
def sp_Make_T (sp_norm : SP → SP) (lo : Int) (hi : Int) : Tr (SP) :=
  Tr.leaf (sp_norm (SP.mk false lo hi))
def sp_Make_t (lo : Int) (hi : Int) : Tr (SP) := sp_Make_T sp_norm lo hi
def sp_Make (lo : Int) (hi : Int) : SP := (sp_Make_t lo hi).val
def sp_Point_T (sp_Make : Int → Int → SP) (f : Int) : Tr (SP) :=
  Tr.leaf (sp_Make f f)
def sp_Point_t (f : Int) : Tr (SP) := sp_Point_T sp_Make f
def sp_Point (f : Int) : SP := (sp_Point_t f).val
def sp_All_T (sp_ninf : Int) (sp_inf : Int) (sp_Make : Int → Int → SP)  : Tr (SP) :=
  Tr.leaf (sp_Make sp_ninf sp_inf)
def sp_All_t  : Tr (SP) := sp_All_T sp_ninf sp_inf sp_Make 
def sp_All  : SP := (sp_All_t ).val
def sp_Inside_T (sp_norm : SP → SP) (sp_atMost : Int → Int → Bool) (a : SP) (b : SP) : Tr (Bool) :=
  Tr.br (sp_norm a).empty (Tr.leaf true)
    (Tr.br (!(sp_norm b).empty)
      (Tr.br (sp_atMost (sp_norm b).lo (sp_norm a).lo) (Tr.leaf (sp_atMost (sp_norm a).hi (sp_norm b).hi))
        (Tr.leaf false))
      (Tr.leaf false))
def sp_Inside_t (a : SP) (b : SP) : Tr (Bool) := sp_Inside_T sp_norm sp_atMost a b
def sp_Inside (a : SP) (b : SP) : Bool := (sp_Inside_t a b).val
def sp_Has_T (p_Class : Int → Int) (sp_Point : Int → SP) (sp_Inside : SP → SP → Bool) (s : SP) (f : Int) : Tr (Bool) :=
  Tr.br (p_Class f != 3) (Tr.br (!(sp_Point f).empty) (Tr.leaf (sp_Inside (sp_Point f) s)) (Tr.leaf false))
    (Tr.leaf false)
def sp_Has_t (s : SP) (f : Int) : Tr (Bool) := sp_Has_T p_Class sp_Point sp_Inside s f
def sp_Has (s : SP) (f : Int) : Bool := (sp_Has_t s f).val
def sp_Join_L0_T (sp_norm : SP → SP) (p_Min : (List Int) → Int) (p_Min_s : (List Int) → Bool) (p_Max : (List Int) → Int) (p_Max_s : (List Int) → Bool) (sp_Make : Int → Int → SP) (v7 : List (List Cv)) (v8 : Int) (_h0_0 : Bool) (_h0_1 : Int) (_h0_2 : Int) (v9 : Int) (h1_0 : Bool) (h1_1 : Int) (h1_2 : Int) : Tr ((Int × Bool × Int × Int) ⊕ (Int × Bool × Int × Int)) :=
  Tr.br (decide (v9 < v8))
    (Tr.ast (decide (0 ≤ v9) && decide (v9 < (v7.length : Int)))
      (Tr.br
        (sp_norm
            (SP.mk ((v7.getD v9.toNat []).headD (Cv.i 0)).bool ((v7.getD v9.toNat []).tail.headD (Cv.i 0)).int
              ((v7.getD v9.toNat []).tail.tail.headD (Cv.i 0)).int)).empty
        (Tr.leaf (Sum.inl (IntKind.i64.wrap (v9 + 1), h1_0, h1_1, h1_2)))
        (Tr.br h1_0
          (Tr.leaf
            (Sum.inl
              (IntKind.i64.wrap (v9 + 1),
                (sp_norm
                    (SP.mk ((v7.getD v9.toNat []).headD (Cv.i 0)).bool ((v7.getD v9.toNat []).tail.headD (Cv.i 0)).int
                      ((v7.getD v9.toNat []).tail.tail.headD (Cv.i 0)).int)).empty,
                (sp_norm
                    (SP.mk ((v7.getD v9.toNat []).headD (Cv.i 0)).bool ((v7.getD v9.toNat []).tail.headD (Cv.i 0)).int
                      ((v7.getD v9.toNat []).tail.tail.headD (Cv.i 0)).int)).lo,
                (sp_norm
                    (SP.mk ((v7.getD v9.toNat []).headD (Cv.i 0)).bool ((v7.getD v9.toNat []).tail.headD (Cv.i 0)).int
                      ((v7.getD v9.toNat []).tail.tail.headD (Cv.i 0)).int)).hi)))
          (Tr.ast
            (p_Min_s
              [h1_1,
                (sp_norm
                    (SP.mk ((v7.getD v9.toNat []).headD (Cv.i 0)).bool ((v7.getD v9.toNat []).tail.headD (Cv.i 0)).int
                      ((v7.getD v9.toNat []).tail.tail.headD (Cv.i 0)).int)).lo])
            (Tr.ast
              (p_Max_s
                [h1_2,
                  (sp_norm
                      (SP.mk ((v7.getD v9.toNat []).headD (Cv.i 0)).bool ((v7.getD v9.toNat []).tail.headD (Cv.i 0)).int
                        ((v7.getD v9.toNat []).tail.tail.headD (Cv.i 0)).int)).hi])
              (Tr.leaf
                (Sum.inl
                  (IntKind.i64.wrap (v9 + 1),
                    (sp_Make
                        (p_Min
                          [h1_1,
                            (sp_norm
                                (SP.mk ((v7.getD v9.toNat []).headD (Cv.i 0)).bool
                                  ((v7.getD v9.toNat []).tail.headD (Cv.i 0)).int
                                  ((v7.getD v9.toNat []).tail.tail.headD (Cv.i 0)).int)).lo])
                        (p_Max
                          [h1_2,
                            (sp_norm
                                (SP.mk ((v7.getD v9.toNat []).headD (Cv.i 0)).bool
                                  ((v7.getD v9.toNat []).tail.headD (Cv.i 0)).int
                                  ((v7.getD v9.toNat []).tail.tail.headD (Cv.i 0)).int)).hi])).empty,
                    (sp_Make
                        (p_Min
                          [h1_1,
                            (sp_norm
                                (SP.mk ((v7.getD v9.toNat []).headD (Cv.i 0)).bool
                                  ((v7.getD v9.toNat []).tail.headD (Cv.i 0)).int
                                  ((v7.getD v9.toNat []).tail.tail.headD (Cv.i 0)).int)).lo])
                        (p_Max
                          [h1_2,
                            (sp_norm
                                (SP.mk ((v7.getD v9.toNat []).headD (Cv.i 0)).bool
                                  ((v7.getD v9.toNat []).tail.headD (Cv.i 0)).int
                                  ((v7.getD v9.toNat []).tail.tail.headD (Cv.i 0)).int)).hi])).lo,
                    (sp_Make
                        (p_Min
                          [h1_1,
                            (sp_norm
                                (SP.mk ((v7.getD v9.toNat []).headD (Cv.i 0)).bool
                                  ((v7.getD v9.toNat []).tail.headD (Cv.i 0)).int
                                  ((v7.getD v9.toNat []).tail.tail.headD (Cv.i 0)).int)).lo])
                        (p_Max
                          [h1_2,
                            (sp_norm
                                (SP.mk ((v7.getD v9.toNat []).headD (Cv.i 0)).bool
                                  ((v7.getD v9.toNat []).tail.headD (Cv.i 0)).int
                                  ((v7.getD v9.toNat []).tail.tail.headD (Cv.i 0)).int)).hi])).hi))))))))
    (Tr.leaf (Sum.inr (v9, h1_0, h1_1, h1_2)))
def sp_Join_L0_step (p : (List (List Cv)) × Int × Bool × Int × Int) (x : Int × Bool × Int × Int) : Tr ((Int × Bool × Int × Int) ⊕ (Int × Bool × Int × Int)) := sp_Join_L0_T sp_norm p_Min p_Min_s p_Max p_Max_s sp_Make p.1 p.2.1 p.2.2.1 p.2.2.2.1 p.2.2.2.2 x.1 x.2.1 x.2.2.1 x.2.2.2
def sp_Join_L0_r (p : (List (List Cv)) × Int × Bool × Int × Int) (x : Int × Bool × Int × Int) : Option (Int × Bool × Int × Int) := runB (sp_Join_L0_step p) x
def sp_Join_L0_v (p : (List (List Cv)) × Int × Bool × Int × Int) (x : Int × Bool × Int × Int) : Int × Bool × Int × Int := (sp_Join_L0_r p x).getD x
def sp_Join_L0_ok (p : (List (List Cv)) × Int × Bool × Int × Int) (x : Int × Bool × Int × Int) : Bool := (sp_Join_L0_r p x).isSome
def sp_Join_T (sp_none : SP) (sp_Join_L0_ok : ((List (List Cv)) × Int × Bool × Int × Int) → (Int × Bool × Int × Int) → Bool) (sp_Join_L0_v : ((List (List Cv)) × Int × Bool × Int × Int) → (Int × Bool × Int × Int) → Int × Bool × Int × Int) (l : List (List Cv)) : Tr (SP) :=
  Tr.ast (sp_Join_L0_ok (id l, ((id l).length : Int), false, 0, 0) (0, sp_none.empty, sp_none.lo, sp_none.hi))
    (Tr.leaf
      (SP.mk (sp_Join_L0_v (id l, ((id l).length : Int), false, 0, 0) (0, sp_none.empty, sp_none.lo, sp_none.hi)).snd.fst
        (sp_Join_L0_v (id l, ((id l).length : Int), false, 0, 0) (0, sp_none.empty, sp_none.lo, sp_none.hi)).snd.snd.fst
        (sp_Join_L0_v (id l, ((id l).length : Int), false, 0, 0) (0, sp_none.empty, sp_none.lo, sp_none.hi)).snd.snd.snd))
def sp_Join_t (l : List (List Cv)) : Tr (SP) := sp_Join_T sp_none sp_Join_L0_ok sp_Join_L0_v l
def sp_Join (l : List (List Cv)) : SP := (sp_Join_t l).val
def sp_Join_s (l : List (List Cv)) : Bool := (sp_Join_t l).safe
def sp_Meet_T (sp_norm : SP → SP) (sp_none : SP) (p_Max : (List Int) → Int) (p_Max_s : (List Int) → Bool) (p_Min : (List Int) → Int) (p_Min_s : (List Int) → Bool) (sp_Make : Int → Int → SP) (a : SP) (b : SP) : Tr (SP) :=
  Tr.br (sp_norm a).empty (Tr.leaf sp_none)
    (Tr.br (sp_norm b).empty (Tr.leaf sp_none)
      (Tr.ast (p_Max_s [(sp_norm a).lo, (sp_norm b).lo])
        (Tr.ast (p_Min_s [(sp_norm a).hi, (sp_norm b).hi])
          (Tr.leaf (sp_Make (p_Max [(sp_norm a).lo, (sp_norm b).lo]) (p_Min [(sp_norm a).hi, (sp_norm b).hi]))))))
def sp_Meet_t (a : SP) (b : SP) : Tr (SP) := sp_Meet_T sp_norm sp_none p_Max p_Max_s p_Min p_Min_s sp_Make a b
def sp_Meet (a : SP) (b : SP) : SP := (sp_Meet_t a b).val
def sp_Meet_s (a : SP) (b : SP) : Bool := (sp_Meet_t a b).safe
def sp_Neg_T (sp_norm : SP → SP) (p_Neg : Int → Int) (sp_Make : Int → Int → SP) (a : SP) : Tr (SP) :=
  Tr.br (sp_norm a).empty (Tr.leaf (sp_norm a)) (Tr.leaf (sp_Make (p_Neg (sp_norm a).hi) (p_Neg (sp_norm a).lo)))
def sp_Neg_t (a : SP) : Tr (SP) := sp_Neg_T sp_norm p_Neg sp_Make a
def sp_Neg (a : SP) : SP := (sp_Neg_t a).val
def sp_Abs_T (sp_norm : SP → SP) (sp_atMost : Int → Int → Bool) (sp_Neg : SP → SP) (p_Neg : Int → Int) (p_Max : (List Int) → Int) (p_Max_s : (List Int) → Bool) (sp_Make : Int → Int → SP) (a : SP) : Tr (SP) :=
  Tr.br (sp_norm a).empty (Tr.leaf (sp_norm a))
    (Tr.br (sp_atMost 0 (sp_norm a).lo) (Tr.leaf (sp_norm a))
      (Tr.br (sp_atMost (sp_norm a).hi 0) (Tr.leaf (sp_Neg (sp_norm a)))
        (Tr.ast (p_Max_s [p_Neg (sp_norm a).lo, (sp_norm a).hi])
          (Tr.leaf (sp_Make 0 (p_Max [p_Neg (sp_norm a).lo, (sp_norm a).hi]))))))
def sp_Abs_t (a : SP) : Tr (SP) := sp_Abs_T sp_norm sp_atMost sp_Neg p_Neg p_Max p_Max_s sp_Make a
def sp_Abs (a : SP) : SP := (sp_Abs_t a).val
def sp_Abs_s (a : SP) : Bool := (sp_Abs_t a).safe
def sp_Most_T (sp_Abs : SP → SP) (sp_Abs_s : SP → Bool) (a : SP) : Tr (Int) :=
  Tr.ast (sp_Abs_s a) (Tr.leaf (sp_Abs a).hi)
def sp_Most_t (a : SP) : Tr (Int) := sp_Most_T sp_Abs sp_Abs_s a
def sp_Most (a : SP) : Int := (sp_Most_t a).val
def sp_Most_s (a : SP) : Bool := (sp_Most_t a).safe
def sp_Widen_L0_T (sp_atMost : Int → Int → Bool) (v24 : List Int) (v25 : Int) (_h0_0 : Bool) (_h0_1 : Int) (_h0_2 : Int) (_h1_0 : Bool) (_h1_1 : Int) (_h1_2 : Int) (_h2_0 : Bool) (h2_1 : Int) (h2_2 : Int) (v8 : Int) (v9 : Int) (v26 : Int) : Tr ((Int × Int × Int) ⊕ (Int × Int × Int)) :=
  Tr.br (decide (v26 < v25))
    (Tr.ast (decide (0 ≤ v26) && decide (v26 < (v24.length : Int)))
      (Tr.br (sp_atMost (v24.getD v26.toNat 0) h2_1)
        (Tr.br (sp_atMost v8 (v24.getD v26.toNat 0))
          (Tr.br (sp_atMost h2_2 (v24.getD v26.toNat 0))
            (Tr.br (sp_atMost (v24.getD v26.toNat 0) v9)
              (Tr.leaf (Sum.inl (v24.getD v26.toNat 0, v24.getD v26.toNat 0, IntKind.i64.wrap (v26 + 1))))
              (Tr.leaf (Sum.inl (v24.getD v26.toNat 0, v9, IntKind.i64.wrap (v26 + 1)))))
            (Tr.leaf (Sum.inl (v24.getD v26.toNat 0, v9, IntKind.i64.wrap (v26 + 1)))))
          (Tr.br (sp_atMost h2_2 (v24.getD v26.toNat 0))
            (Tr.br (sp_atMost (v24.getD v26.toNat 0) v9)
              (Tr.leaf (Sum.inl (v8, v24.getD v26.toNat 0, IntKind.i64.wrap (v26 + 1))))
              (Tr.leaf (Sum.inl (v8, v9, IntKind.i64.wrap (v26 + 1)))))
            (Tr.leaf (Sum.inl (v8, v9, IntKind.i64.wrap (v26 + 1))))))
        (Tr.br (sp_atMost h2_2 (v24.getD v26.toNat 0))
          (Tr.br (sp_atMost (v24.getD v26.toNat 0) v9)
            (Tr.leaf (Sum.inl (v8, v24.getD v26.toNat 0, IntKind.i64.wrap (v26 + 1))))
            (Tr.leaf (Sum.inl (v8, v9, IntKind.i64.wrap (v26 + 1)))))
          (Tr.leaf (Sum.inl (v8, v9, IntKind.i64.wrap (v26 + 1)))))))
    (Tr.leaf (Sum.inr (v8, v9, v26)))
def sp_Widen_L0_step (p : (List Int) × Int × Bool × Int × Int × Bool × Int × Int × Bool × Int × Int) (x : Int × Int × Int) : Tr ((Int × Int × Int) ⊕ (Int × Int × Int)) := sp_Widen_L0_T sp_atMost p.1 p.2.1 p.2.2.1 p.2.2.2.1 p.2.2.2.2.1 p.2.2.2.2.2.1 p.2.2.2.2.2.2.1 p.2.2.2.2.2.2.2.1 p.2.2.2.2.2.2.2.2.1 p.2.2.2.2.2.2.2.2.2.1 p.2.2.2.2.2.2.2.2.2.2 x.1 x.2.1 x.2.2
def sp_Widen_L0_r (p : (List Int) × Int × Bool × Int × Int × Bool × Int × Int × Bool × Int × Int) (x : Int × Int × Int) : Option (Int × Int × Int) := runB (sp_Widen_L0_step p) x
def sp_Widen_L0_v (p : (List Int) × Int × Bool × Int × Int × Bool × Int × Int × Bool × Int × Int) (x : Int × Int × Int) : Int × Int × Int := (sp_Widen_L0_r p x).getD x
def sp_Widen_L0_ok (p : (List Int) × Int × Bool × Int × Int × Bool × Int × Int × Bool × Int × Int) (x : Int × Int × Int) : Bool := (sp_Widen_L0_r p x).isSome
def sp_Widen_T (sp_norm : SP → SP) (sp_Join : (List (List Cv)) → SP) (sp_Join_s : (List (List Cv)) → Bool) (sp_ninf : Int) (sp_inf : Int) (sp_atMost : Int → Int → Bool) (sp_Make : Int → Int → SP) (sp_Widen_L0_ok : ((List Int) × Int × Bool × Int × Int × Bool × Int × Int × Bool × Int × Int) → (Int × Int × Int) → Bool) (sp_Widen_L0_v : ((List Int) × Int × Bool × Int × Int × Bool × Int × Int × Bool × Int × Int) → (Int × Int × Int) → Int × Int × Int) (old : SP) (now : SP) (steps : List Int) : Tr (SP) :=
  let t0 : Int × Int × Int := (sp_ninf, sp_inf, 0);
  let t1 : List (List Cv) :=
    id
      [[Cv.b (sp_norm old).empty, Cv.i (sp_norm old).lo, Cv.i (sp_norm old).hi],
        [Cv.b now.empty, Cv.i now.lo, Cv.i now.hi]];
  let t2 : SP := sp_Join t1;
  let t3 : Int := t2.hi;
  let t4 : Int := t2.lo;
  let t5 : Bool := sp_atMost t3 (sp_norm old).hi;
  let t6 : List Int × Int × Bool × Int × Int × Bool × Int × Int × Bool × Int × Int :=
    (steps, (steps.length : Int), (sp_norm old).empty, (sp_norm old).lo, (sp_norm old).hi, false, 0, 0, t2.empty, t4, t3);
  let t7 : Int × Int × Int := sp_Widen_L0_v t6 t0;
  let t8 : Int := t7.fst;
  let t9 : Int := t7.snd.fst;
  Tr.br (sp_norm old).empty (Tr.leaf (sp_norm now))
    (Tr.ast (sp_Join_s t1)
      (Tr.ast (sp_Widen_L0_ok t6 t0)
        (Tr.br (sp_atMost (sp_norm old).lo t4) (Tr.br t5 (Tr.leaf (sp_Make t4 t3)) (Tr.leaf (sp_Make t4 t9)))
          (Tr.br t5 (Tr.leaf (sp_Make t8 t3)) (Tr.leaf (sp_Make t8 t9))))))
def sp_Widen_t (old : SP) (now : SP) (steps : List Int) : Tr (SP) := sp_Widen_T sp_norm sp_Join sp_Join_s sp_ninf sp_inf sp_atMost sp_Make sp_Widen_L0_ok sp_Widen_L0_v old now steps
def sp_Widen (old : SP) (now : SP) (steps : List Int) : SP := (sp_Widen_t old now steps).val
def sp_Widen_s (old : SP) (now : SP) (steps : List Int) : Bool := (sp_Widen_t old now steps).safe
def sp_side_T (p_Class : Int → Int) (p_Next : Int → Int) (p_Prev : Int → Int) (sp_inf : Int) (sp_Make : Int → Int → SP) (sp_Meet : SP → SP → SP) (sp_Meet_s : SP → SP → Bool) (sp_ninf : Int) (a : SP) (f : Int) (up : Bool) (strict : Bool) : Tr (SP) :=
  Tr.br up
    (Tr.br strict
      (Tr.br (p_Class f != 3)
        (Tr.br up (Tr.ast (sp_Meet_s a (sp_Make (p_Next f) sp_inf)) (Tr.leaf (sp_Meet a (sp_Make (p_Next f) sp_inf))))
          (Tr.ast (sp_Meet_s a (sp_Make sp_ninf (p_Next f))) (Tr.leaf (sp_Meet a (sp_Make sp_ninf (p_Next f))))))
        (Tr.br strict
          (Tr.br (p_Class f != 3)
            (Tr.br up (Tr.ast (sp_Meet_s a (sp_Make (p_Prev f) sp_inf)) (Tr.leaf (sp_Meet a (sp_Make (p_Prev f) sp_inf))))
              (Tr.ast (sp_Meet_s a (sp_Make sp_ninf (p_Prev f))) (Tr.leaf (sp_Meet a (sp_Make sp_ninf (p_Prev f))))))
            (Tr.br up (Tr.ast (sp_Meet_s a (sp_Make f sp_inf)) (Tr.leaf (sp_Meet a (sp_Make f sp_inf))))
              (Tr.ast (sp_Meet_s a (sp_Make sp_ninf f)) (Tr.leaf (sp_Meet a (sp_Make sp_ninf f))))))
          (Tr.br up (Tr.ast (sp_Meet_s a (sp_Make f sp_inf)) (Tr.leaf (sp_Meet a (sp_Make f sp_inf))))
            (Tr.ast (sp_Meet_s a (sp_Make sp_ninf f)) (Tr.leaf (sp_Meet a (sp_Make sp_ninf f)))))))
      (Tr.br strict
        (Tr.br (p_Class f != 3)
          (Tr.br up (Tr.ast (sp_Meet_s a (sp_Make (p_Prev f) sp_inf)) (Tr.leaf (sp_Meet a (sp_Make (p_Prev f) sp_inf))))
            (Tr.ast (sp_Meet_s a (sp_Make sp_ninf (p_Prev f))) (Tr.leaf (sp_Meet a (sp_Make sp_ninf (p_Prev f))))))
          (Tr.br up (Tr.ast (sp_Meet_s a (sp_Make f sp_inf)) (Tr.leaf (sp_Meet a (sp_Make f sp_inf))))
            (Tr.ast (sp_Meet_s a (sp_Make sp_ninf f)) (Tr.leaf (sp_Meet a (sp_Make sp_ninf f))))))
        (Tr.br up (Tr.ast (sp_Meet_s a (sp_Make f sp_inf)) (Tr.leaf (sp_Meet a (sp_Make f sp_inf))))
          (Tr.ast (sp_Meet_s a (sp_Make sp_ninf f)) (Tr.leaf (sp_Meet a (sp_Make sp_ninf f)))))))
    (Tr.br strict
      (Tr.br (p_Class f != 3)
        (Tr.br up (Tr.ast (sp_Meet_s a (sp_Make (p_Prev f) sp_inf)) (Tr.leaf (sp_Meet a (sp_Make (p_Prev f) sp_inf))))
          (Tr.ast (sp_Meet_s a (sp_Make sp_ninf (p_Prev f))) (Tr.leaf (sp_Meet a (sp_Make sp_ninf (p_Prev f))))))
        (Tr.br up (Tr.ast (sp_Meet_s a (sp_Make f sp_inf)) (Tr.leaf (sp_Meet a (sp_Make f sp_inf))))
          (Tr.ast (sp_Meet_s a (sp_Make sp_ninf f)) (Tr.leaf (sp_Meet a (sp_Make sp_ninf f))))))
      (Tr.br up (Tr.ast (sp_Meet_s a (sp_Make f sp_inf)) (Tr.leaf (sp_Meet a (sp_Make f sp_inf))))
        (Tr.ast (sp_Meet_s a (sp_Make sp_ninf f)) (Tr.leaf (sp_Meet a (sp_Make sp_ninf f))))))
def sp_side_t (a : SP) (f : Int) (up : Bool) (strict : Bool) : Tr (SP) := sp_side_T p_Class p_Next p_Prev sp_inf sp_Make sp_Meet sp_Meet_s sp_ninf a f up strict
def sp_side (a : SP) (f : Int) (up : Bool) (strict : Bool) : SP := (sp_side_t a f up strict).val
def sp_side_s (a : SP) (f : Int) (up : Bool) (strict : Bool) : Bool := (sp_side_t a f up strict).safe
def sp_without_T (sp_side : SP → Int → Bool → Bool → SP) (sp_side_s : SP → Int → Bool → Bool → Bool) (a : SP) (point : SP) : Tr (SP) :=
  Tr.br (point.lo != point.hi) (Tr.leaf a)
    (Tr.br (a.lo == point.lo)
      (Tr.ast (sp_side_s a point.lo true true)
        (Tr.br ((sp_side a point.lo true true).hi == point.lo)
          (Tr.br (!(sp_side a point.lo true true).empty)
            (Tr.ast (sp_side_s (sp_side a point.lo true true) point.lo false true)
              (Tr.leaf (sp_side (sp_side a point.lo true true) point.lo false true)))
            (Tr.leaf (sp_side a point.lo true true)))
          (Tr.leaf (sp_side a point.lo true true))))
      (Tr.br (a.hi == point.lo)
        (Tr.br (!a.empty) (Tr.ast (sp_side_s a point.lo false true) (Tr.leaf (sp_side a point.lo false true)))
          (Tr.leaf a))
        (Tr.leaf a)))
def sp_without_t (a : SP) (point : SP) : Tr (SP) := sp_without_T sp_side sp_side_s a point
def sp_without (a : SP) (point : SP) : SP := (sp_without_t a point).val
def sp_without_s (a : SP) (point : SP) : Bool := (sp_without_t a point).safe
def sp_Test_T (sp_norm : SP → SP) (sp_none : SP) (sp_side : SP → Int → Bool → Bool → SP) (sp_side_s : SP → Int → Bool → Bool → Bool) (sp_Meet : SP → SP → SP) (sp_Meet_s : SP → SP → Bool) (sp_without : SP → SP → SP) (sp_without_s : SP → SP → Bool) (op : Int) (a : SP) (b : SP) : Tr (SP × SP) :=
  let t0 : SP := sp_side (sp_norm b) (sp_norm a).lo true true;
  let t1 : SP := sp_side (sp_norm b) (sp_norm a).hi false true;
  let t2 : SP := sp_side (sp_norm a) (sp_norm b).lo true true;
  let t3 : SP := sp_side (sp_norm a) (sp_norm b).hi false true;
  let t4 : Bool := op == 10;
  let t5 : Bool := op == 13;
  let t6 : Bool := op == 14;
  let t7 : Bool := op == 9;
  let t8 : SP := sp_side (sp_norm b) (sp_norm a).hi false t5;
  let t9 : SP := sp_side (sp_norm a) (sp_norm b).lo true t5;
  let t10 : SP := sp_side (sp_norm a) (sp_norm b).hi false t5;
  let t11 : SP := sp_side (sp_norm b) (sp_norm a).lo true t5;
  Tr.br (sp_norm a).empty (Tr.leaf (sp_none, sp_none))
    (Tr.br (sp_norm b).empty (Tr.leaf (sp_none, sp_none))
      (Tr.br t7
        (Tr.br t7
          (Tr.ast (sp_side_s (sp_norm a) (sp_norm b).hi false true)
            (Tr.ast (sp_side_s (sp_norm b) (sp_norm a).lo true true)
              (Tr.br t3.empty (Tr.leaf (sp_none, sp_none))
                (Tr.br t0.empty (Tr.leaf (sp_none, sp_none)) (Tr.leaf (t3, t0))))))
          (Tr.br t4
            (Tr.ast (sp_side_s (sp_norm a) (sp_norm b).hi false true)
              (Tr.ast (sp_side_s (sp_norm b) (sp_norm a).lo true true)
                (Tr.br t3.empty (Tr.leaf (sp_none, sp_none))
                  (Tr.br t0.empty (Tr.leaf (sp_none, sp_none)) (Tr.leaf (t3, t0))))))
            (Tr.br t5
              (Tr.ast (sp_side_s (sp_norm a) (sp_norm b).lo true true)
                (Tr.ast (sp_side_s (sp_norm b) (sp_norm a).hi false true)
                  (Tr.br t2.empty (Tr.leaf (sp_none, sp_none))
                    (Tr.br t1.empty (Tr.leaf (sp_none, sp_none)) (Tr.leaf (t2, t1))))))
              (Tr.br t6
                (Tr.ast (sp_side_s (sp_norm a) (sp_norm b).lo true true)
                  (Tr.ast (sp_side_s (sp_norm b) (sp_norm a).hi false true)
                    (Tr.br t2.empty (Tr.leaf (sp_none, sp_none))
                      (Tr.br t1.empty (Tr.leaf (sp_none, sp_none)) (Tr.leaf (t2, t1))))))
                (Tr.br (op == 11)
                  (Tr.ast (sp_Meet_s (sp_norm a) (sp_norm b))
                    (Tr.br (sp_Meet (sp_norm a) (sp_norm b)).empty (Tr.leaf (sp_none, sp_none))
                      (Tr.br (sp_Meet (sp_norm a) (sp_norm b)).empty (Tr.leaf (sp_none, sp_none))
                        (Tr.leaf (sp_Meet (sp_norm a) (sp_norm b), sp_Meet (sp_norm a) (sp_norm b))))))
                  (Tr.br (op == 12)
                    (Tr.ast (sp_without_s (sp_norm a) (sp_norm b))
                      (Tr.ast (sp_without_s (sp_norm b) (sp_norm a))
                        (Tr.br (sp_without (sp_norm a) (sp_norm b)).empty (Tr.leaf (sp_none, sp_none))
                          (Tr.br (sp_without (sp_norm b) (sp_norm a)).empty (Tr.leaf (sp_none, sp_none))
                            (Tr.leaf (sp_without (sp_norm a) (sp_norm b), sp_without (sp_norm b) (sp_norm a)))))))
                    (Tr.br (sp_norm a).empty (Tr.leaf (sp_none, sp_none))
                      (Tr.br (sp_norm b).empty (Tr.leaf (sp_none, sp_none)) (Tr.leaf (sp_norm a, sp_norm b))))))))))
        (Tr.br t7
          (Tr.ast (sp_side_s (sp_norm a) (sp_norm b).hi false t5)
            (Tr.ast (sp_side_s (sp_norm b) (sp_norm a).lo true t5)
              (Tr.br t10.empty (Tr.leaf (sp_none, sp_none))
                (Tr.br t11.empty (Tr.leaf (sp_none, sp_none)) (Tr.leaf (t10, t11))))))
          (Tr.br t4
            (Tr.ast (sp_side_s (sp_norm a) (sp_norm b).hi false t5)
              (Tr.ast (sp_side_s (sp_norm b) (sp_norm a).lo true t5)
                (Tr.br t10.empty (Tr.leaf (sp_none, sp_none))
                  (Tr.br t11.empty (Tr.leaf (sp_none, sp_none)) (Tr.leaf (t10, t11))))))
            (Tr.br t5
              (Tr.ast (sp_side_s (sp_norm a) (sp_norm b).lo true t5)
                (Tr.ast (sp_side_s (sp_norm b) (sp_norm a).hi false t5)
                  (Tr.br t9.empty (Tr.leaf (sp_none, sp_none))
                    (Tr.br t8.empty (Tr.leaf (sp_none, sp_none)) (Tr.leaf (t9, t8))))))
              (Tr.br t6
                (Tr.ast (sp_side_s (sp_norm a) (sp_norm b).lo true t5)
                  (Tr.ast (sp_side_s (sp_norm b) (sp_norm a).hi false t5)
                    (Tr.br t9.empty (Tr.leaf (sp_none, sp_none))
                      (Tr.br t8.empty (Tr.leaf (sp_none, sp_none)) (Tr.leaf (t9, t8))))))
                (Tr.br (op == 11)
                  (Tr.ast (sp_Meet_s (sp_norm a) (sp_norm b))
                    (Tr.br (sp_Meet (sp_norm a) (sp_norm b)).empty (Tr.leaf (sp_none, sp_none))
                      (Tr.br (sp_Meet (sp_norm a) (sp_norm b)).empty (Tr.leaf (sp_none, sp_none))
                        (Tr.leaf (sp_Meet (sp_norm a) (sp_norm b), sp_Meet (sp_norm a) (sp_norm b))))))
                  (Tr.br (op == 12)
                    (Tr.ast (sp_without_s (sp_norm a) (sp_norm b))
                      (Tr.ast (sp_without_s (sp_norm b) (sp_norm a))
                        (Tr.br (sp_without (sp_norm a) (sp_norm b)).empty (Tr.leaf (sp_none, sp_none))
                          (Tr.br (sp_without (sp_norm b) (sp_norm a)).empty (Tr.leaf (sp_none, sp_none))
                            (Tr.leaf (sp_without (sp_norm a) (sp_norm b), sp_without (sp_norm b) (sp_norm a)))))))
                    (Tr.br (sp_norm a).empty (Tr.leaf (sp_none, sp_none))
                      (Tr.br (sp_norm b).empty (Tr.leaf (sp_none, sp_none)) (Tr.leaf (sp_norm a, sp_norm b))))))))))))
def sp_Test_t (op : Int) (a : SP) (b : SP) : Tr (SP × SP) := sp_Test_T sp_norm sp_none sp_side sp_side_s sp_Meet sp_Meet_s sp_without sp_without_s op a b
def sp_Test (op : Int) (a : SP) (b : SP) : SP × SP := (sp_Test_t op a b).val
def sp_Test_s (op : Int) (a : SP) (b : SP) : Bool := (sp_Test_t op a b).safe
def sp_zero_T (p_Class : Int → Int) (f : Int) : Tr (Bool) :=
  Tr.leaf (p_Class f == 0)
def sp_zero_t (f : Int) : Tr (Bool) := sp_zero_T p_Class f
def sp_zero (f : Int) : Bool := (sp_zero_t f).val
def sp_outer_T (sp_inf : Int) (p_Prev : Int → Int) (sp_ninf : Int) (p_Next : Int → Int) (sp_Make : Int → Int → SP) (lo : Int) (hi : Int) : Tr (SP) :=
  Tr.br (lo == sp_inf) (Tr.leaf (sp_Make (p_Prev lo) hi))
    (Tr.br (hi == sp_ninf) (Tr.leaf (sp_Make lo (p_Next hi))) (Tr.leaf (sp_Make lo hi)))
def sp_outer_t (lo : Int) (hi : Int) : Tr (SP) := sp_outer_T sp_inf p_Prev sp_ninf p_Next sp_Make lo hi
def sp_outer (lo : Int) (hi : Int) : SP := (sp_outer_t lo hi).val
def sp_Mul1_T (sp_zero : Int → Bool) (s_Mul : Int → Int → Int → Int × Int) (s_Mul_s : Int → Int → Int → Bool) (x : Int) (y : Int) (mode : Int) : Tr (Int) :=
  Tr.br (sp_zero x) (Tr.leaf 0) (Tr.br (sp_zero y) (Tr.leaf 0) (Tr.ast (s_Mul_s x y mode) (Tr.leaf (s_Mul x y mode).fst)))
def sp_Mul1_t (x : Int) (y : Int) (mode : Int) : Tr (Int) := sp_Mul1_T sp_zero s_Mul s_Mul_s x y mode
def sp_Mul1 (x : Int) (y : Int) (mode : Int) : Int := (sp_Mul1_t x y mode).val
def sp_Mul1_s (x : Int) (y : Int) (mode : Int) : Bool := (sp_Mul1_t x y mode).safe
def sp_above1_T (p_Class : Int → Int) (sp_zero : Int → Bool) (p_Inf : Bool → Int) (s_Div : Int → Int → Int → Int × Int) (s_Div_s : Int → Int → Int → Bool) (x : Int) (y : Int) (mode : Int) : Tr (Int) :=
  Tr.br (sp_zero x) (Tr.leaf 0)
    (Tr.br (p_Class y == 3)
      (Tr.br (p_Class x != 3) (Tr.leaf 0)
        (Tr.br (p_Class y == 3) (Tr.leaf (p_Inf (shrI IntKind.u64 x 63 == 1)))
          (Tr.br (sp_zero y) (Tr.leaf (p_Inf (shrI IntKind.u64 x 63 == 1)))
            (Tr.ast (s_Div_s x y mode) (Tr.leaf (s_Div x y mode).fst)))))
      (Tr.br (p_Class y == 3) (Tr.leaf (p_Inf (shrI IntKind.u64 x 63 == 1)))
        (Tr.br (sp_zero y) (Tr.leaf (p_Inf (shrI IntKind.u64 x 63 == 1)))
          (Tr.ast (s_Div_s x y mode) (Tr.leaf (s_Div x y mode).fst)))))
def sp_above1_t (x : Int) (y : Int) (mode : Int) : Tr (Int) := sp_above1_T p_Class sp_zero p_Inf s_Div s_Div_s x y mode
def sp_above1 (x : Int) (y : Int) (mode : Int) : Int := (sp_above1_t x y mode).val
def sp_above1_s (x : Int) (y : Int) (mode : Int) : Bool := (sp_above1_t x y mode).safe
def sp_cornersM_T (sp_none : SP) (sp_outer : Int → Int → SP) (sp_Join : (List (List Cv)) → SP) (sp_Join_s : (List (List Cv)) → Bool) (sp_Mul1 : Int → Int → Int → Int) (sp_Mul1_s : Int → Int → Int → Bool) (a : SP) (b : SP) (_fn : Unit) : Tr (SP) :=
  let t0 : SP := sp_outer (sp_Mul1 a.hi b.lo 2) (sp_Mul1 a.hi b.lo 1);
  let t1 : SP := sp_outer (sp_Mul1 a.lo b.hi 2) (sp_Mul1 a.lo b.hi 1);
  let t2 : SP := sp_outer (sp_Mul1 a.hi b.hi 2) (sp_Mul1 a.hi b.hi 1);
  let t3 : SP := sp_outer (sp_Mul1 a.lo b.lo 2) (sp_Mul1 a.lo b.lo 1);
  let t4 : List (List Cv) :=
    id [[Cv.b sp_none.empty, Cv.i sp_none.lo, Cv.i sp_none.hi], [Cv.b t3.empty, Cv.i t3.lo, Cv.i t3.hi]];
  let t5 : SP := sp_Join t4;
  let t6 : List (List Cv) := id [[Cv.b t5.empty, Cv.i t5.lo, Cv.i t5.hi], [Cv.b t1.empty, Cv.i t1.lo, Cv.i t1.hi]];
  let t7 : SP := sp_Join t6;
  let t8 : List (List Cv) := id [[Cv.b t7.empty, Cv.i t7.lo, Cv.i t7.hi], [Cv.b t0.empty, Cv.i t0.lo, Cv.i t0.hi]];
  let t9 : SP := sp_Join t8;
  let t10 : List (List Cv) := id [[Cv.b t9.empty, Cv.i t9.lo, Cv.i t9.hi], [Cv.b t2.empty, Cv.i t2.lo, Cv.i t2.hi]];
  Tr.ast (sp_Mul1_s a.lo b.lo 2)
    (Tr.ast (sp_Mul1_s a.lo b.lo 1)
      (Tr.ast (sp_Join_s t4)
        (Tr.ast (sp_Mul1_s a.lo b.hi 2)
          (Tr.ast (sp_Mul1_s a.lo b.hi 1)
            (Tr.ast (sp_Join_s t6)
              (Tr.ast (sp_Mul1_s a.hi b.lo 2)
                (Tr.ast (sp_Mul1_s a.hi b.lo 1)
                  (Tr.ast (sp_Join_s t8)
                    (Tr.ast (sp_Mul1_s a.hi b.hi 2)
                      (Tr.ast (sp_Mul1_s a.hi b.hi 1) (Tr.ast (sp_Join_s t10) (Tr.leaf (sp_Join t10)))))))))))))
def sp_cornersM_t (a : SP) (b : SP) (fn : Unit) : Tr (SP) := sp_cornersM_T sp_none sp_outer sp_Join sp_Join_s sp_Mul1 sp_Mul1_s a b fn
def sp_cornersM (a : SP) (b : SP) (fn : Unit) : SP := (sp_cornersM_t a b fn).val
def sp_cornersM_s (a : SP) (b : SP) (fn : Unit) : Bool := (sp_cornersM_t a b fn).safe
def sp_cornersD_T (sp_none : SP) (sp_outer : Int → Int → SP) (sp_Join : (List (List Cv)) → SP) (sp_Join_s : (List (List Cv)) → Bool) (sp_above1 : Int → Int → Int → Int) (sp_above1_s : Int → Int → Int → Bool) (a : SP) (b : SP) (_fn : Unit) : Tr (SP) :=
  let t0 : SP := sp_outer (sp_above1 a.lo b.hi 2) (sp_above1 a.lo b.hi 1);
  let t1 : SP := sp_outer (sp_above1 a.lo b.lo 2) (sp_above1 a.lo b.lo 1);
  let t2 : SP := sp_outer (sp_above1 a.hi b.hi 2) (sp_above1 a.hi b.hi 1);
  let t3 : SP := sp_outer (sp_above1 a.hi b.lo 2) (sp_above1 a.hi b.lo 1);
  let t4 : List (List Cv) :=
    id [[Cv.b sp_none.empty, Cv.i sp_none.lo, Cv.i sp_none.hi], [Cv.b t1.empty, Cv.i t1.lo, Cv.i t1.hi]];
  let t5 : SP := sp_Join t4;
  let t6 : List (List Cv) := id [[Cv.b t5.empty, Cv.i t5.lo, Cv.i t5.hi], [Cv.b t0.empty, Cv.i t0.lo, Cv.i t0.hi]];
  let t7 : SP := sp_Join t6;
  let t8 : List (List Cv) := id [[Cv.b t7.empty, Cv.i t7.lo, Cv.i t7.hi], [Cv.b t3.empty, Cv.i t3.lo, Cv.i t3.hi]];
  let t9 : SP := sp_Join t8;
  let t10 : List (List Cv) := id [[Cv.b t9.empty, Cv.i t9.lo, Cv.i t9.hi], [Cv.b t2.empty, Cv.i t2.lo, Cv.i t2.hi]];
  Tr.ast (sp_above1_s a.lo b.lo 2)
    (Tr.ast (sp_above1_s a.lo b.lo 1)
      (Tr.ast (sp_Join_s t4)
        (Tr.ast (sp_above1_s a.lo b.hi 2)
          (Tr.ast (sp_above1_s a.lo b.hi 1)
            (Tr.ast (sp_Join_s t6)
              (Tr.ast (sp_above1_s a.hi b.lo 2)
                (Tr.ast (sp_above1_s a.hi b.lo 1)
                  (Tr.ast (sp_Join_s t8)
                    (Tr.ast (sp_above1_s a.hi b.hi 2)
                      (Tr.ast (sp_above1_s a.hi b.hi 1) (Tr.ast (sp_Join_s t10) (Tr.leaf (sp_Join t10)))))))))))))
def sp_cornersD_t (a : SP) (b : SP) (fn : Unit) : Tr (SP) := sp_cornersD_T sp_none sp_outer sp_Join sp_Join_s sp_above1 sp_above1_s a b fn
def sp_cornersD (a : SP) (b : SP) (fn : Unit) : SP := (sp_cornersD_t a b fn).val
def sp_cornersD_s (a : SP) (b : SP) (fn : Unit) : Bool := (sp_cornersD_t a b fn).safe
def sp_Mul_T (sp_norm : SP → SP) (sp_none : SP) (sp_cornersM : SP → SP → Unit → SP) (sp_cornersM_s : SP → SP → Unit → Bool) (a : SP) (b : SP) : Tr (SP) :=
  Tr.br (sp_norm a).empty (Tr.leaf sp_none)
    (Tr.br (sp_norm b).empty (Tr.leaf sp_none)
      (Tr.ast (sp_cornersM_s (sp_norm a) (sp_norm b) ()) (Tr.leaf (sp_cornersM (sp_norm a) (sp_norm b) ()))))
def sp_Mul_t (a : SP) (b : SP) : Tr (SP) := sp_Mul_T sp_norm sp_none sp_cornersM sp_cornersM_s a b
def sp_Mul (a : SP) (b : SP) : SP := (sp_Mul_t a b).val
def sp_Mul_s (a : SP) (b : SP) : Bool := (sp_Mul_t a b).safe
def sp_above_T (sp_cornersD : SP → SP → Unit → SP) (sp_cornersD_s : SP → SP → Unit → Bool) (a : SP) (b : SP) : Tr (SP) :=
  Tr.ast (sp_cornersD_s a b ()) (Tr.leaf (sp_cornersD a b ()))
def sp_above_t (a : SP) (b : SP) : Tr (SP) := sp_above_T sp_cornersD sp_cornersD_s a b
def sp_above (a : SP) (b : SP) : SP := (sp_above_t a b).val
def sp_above_s (a : SP) (b : SP) : Bool := (sp_above_t a b).safe
def sp_Div_T (sp_norm : SP → SP) (sp_none : SP) (sp_atMost : Int → Int → Bool) (sp_inf : Int) (sp_Make : Int → Int → SP) (sp_Meet : SP → SP → SP) (sp_Meet_s : SP → SP → Bool) (sp_above : SP → SP → SP) (sp_above_s : SP → SP → Bool) (sp_ninf : Int) (sp_Neg : SP → SP) (sp_Join : (List (List Cv)) → SP) (sp_Join_s : (List (List Cv)) → Bool) (a : SP) (b : SP) : Tr (SP) :=
  Tr.br (sp_norm a).empty (Tr.leaf sp_none)
    (Tr.br (sp_norm b).empty (Tr.leaf sp_none)
      (Tr.br (!sp_atMost (sp_norm b).hi 0)
        (Tr.ast (sp_Meet_s (sp_norm b) (sp_Make 0 sp_inf))
          (Tr.ast (sp_above_s (sp_norm a) (sp_Meet (sp_norm b) (sp_Make 0 sp_inf)))
            (Tr.br (!sp_atMost 0 (sp_norm b).lo)
              (Tr.ast (sp_Meet_s (sp_norm b) (sp_Make sp_ninf 0))
                (Tr.ast (sp_above_s (sp_norm a) (sp_Neg (sp_Meet (sp_norm b) (sp_Make sp_ninf 0))))
                  (Tr.ast
                    (sp_Join_s
                      (id
                        [[Cv.b (sp_above (sp_norm a) (sp_Meet (sp_norm b) (sp_Make 0 sp_inf))).empty,
                            Cv.i (sp_above (sp_norm a) (sp_Meet (sp_norm b) (sp_Make 0 sp_inf))).lo,
                            Cv.i (sp_above (sp_norm a) (sp_Meet (sp_norm b) (sp_Make 0 sp_inf))).hi],
                          [Cv.b (sp_Neg (sp_above (sp_norm a) (sp_Neg (sp_Meet (sp_norm b) (sp_Make sp_ninf 0))))).empty,
                            Cv.i (sp_Neg (sp_above (sp_norm a) (sp_Neg (sp_Meet (sp_norm b) (sp_Make sp_ninf 0))))).lo,
                            Cv.i (sp_Neg (sp_above (sp_norm a) (sp_Neg (sp_Meet (sp_norm b) (sp_Make sp_ninf 0))))).hi]]))
                    (Tr.leaf
                      (sp_Join
                        (id
                          [[Cv.b (sp_above (sp_norm a) (sp_Meet (sp_norm b) (sp_Make 0 sp_inf))).empty,
                              Cv.i (sp_above (sp_norm a) (sp_Meet (sp_norm b) (sp_Make 0 sp_inf))).lo,
                              Cv.i (sp_above (sp_norm a) (sp_Meet (sp_norm b) (sp_Make 0 sp_inf))).hi],
                            [Cv.b
                                (sp_Neg (sp_above (sp_norm a) (sp_Neg (sp_Meet (sp_norm b) (sp_Make sp_ninf 0))))).empty,
                              Cv.i (sp_Neg (sp_above (sp_norm a) (sp_Neg (sp_Meet (sp_norm b) (sp_Make sp_ninf 0))))).lo,
                              Cv.i
                                (sp_Neg
                                    (sp_above (sp_norm a) (sp_Neg (sp_Meet (sp_norm b) (sp_Make sp_ninf 0))))).hi]]))))))
              (Tr.leaf (sp_above (sp_norm a) (sp_Meet (sp_norm b) (sp_Make 0 sp_inf)))))))
        (Tr.br (!sp_atMost 0 (sp_norm b).lo)
          (Tr.ast (sp_Meet_s (sp_norm b) (sp_Make sp_ninf 0))
            (Tr.ast (sp_above_s (sp_norm a) (sp_Neg (sp_Meet (sp_norm b) (sp_Make sp_ninf 0))))
              (Tr.ast
                (sp_Join_s
                  (id
                    [[Cv.b sp_none.empty, Cv.i sp_none.lo, Cv.i sp_none.hi],
                      [Cv.b (sp_Neg (sp_above (sp_norm a) (sp_Neg (sp_Meet (sp_norm b) (sp_Make sp_ninf 0))))).empty,
                        Cv.i (sp_Neg (sp_above (sp_norm a) (sp_Neg (sp_Meet (sp_norm b) (sp_Make sp_ninf 0))))).lo,
                        Cv.i (sp_Neg (sp_above (sp_norm a) (sp_Neg (sp_Meet (sp_norm b) (sp_Make sp_ninf 0))))).hi]]))
                (Tr.leaf
                  (sp_Join
                    (id
                      [[Cv.b sp_none.empty, Cv.i sp_none.lo, Cv.i sp_none.hi],
                        [Cv.b (sp_Neg (sp_above (sp_norm a) (sp_Neg (sp_Meet (sp_norm b) (sp_Make sp_ninf 0))))).empty,
                          Cv.i (sp_Neg (sp_above (sp_norm a) (sp_Neg (sp_Meet (sp_norm b) (sp_Make sp_ninf 0))))).lo,
                          Cv.i
                            (sp_Neg (sp_above (sp_norm a) (sp_Neg (sp_Meet (sp_norm b) (sp_Make sp_ninf 0))))).hi]]))))))
          (Tr.leaf sp_none))))
def sp_Div_t (a : SP) (b : SP) : Tr (SP) := sp_Div_T sp_norm sp_none sp_atMost sp_inf sp_Make sp_Meet sp_Meet_s sp_above sp_above_s sp_ninf sp_Neg sp_Join sp_Join_s a b
def sp_Div (a : SP) (b : SP) : SP := (sp_Div_t a b).val
def sp_Div_s (a : SP) (b : SP) : Bool := (sp_Div_t a b).safe
def r16_le_T (r4_Cmp : Int → Int → Int × Bool) (a : Int) (b : Int) : Tr (Bool) :=
  Tr.br (r4_Cmp a b).snd (Tr.leaf (decide ((r4_Cmp a b).fst ≤ 0))) (Tr.leaf false)
def r16_le_t (a : Int) (b : Int) : Tr (Bool) := r16_le_T r4_Cmp a b
def r16_le (a : Int) (b : Int) : Bool := (r16_le_t a b).val
def r16_Norm_T (r16_le : Int → Int → Bool) (s : SP) : Tr (SP) :=
  Tr.br s.empty (Tr.leaf (SP.mk true 0 0))
    (Tr.br (!r16_le s.lo s.hi) (Tr.leaf (SP.mk true 0 0))
      (Tr.br (s.lo == 9218868437227405312) (Tr.leaf (SP.mk true 0 0))
        (Tr.br (s.hi == 18442240474082181120) (Tr.leaf (SP.mk true 0 0))
          (Tr.br (s.lo == 9223372036854775808)
            (Tr.br (s.hi == 9223372036854775808) (Tr.leaf (SP.mk s.empty 0 0)) (Tr.leaf (SP.mk s.empty 0 s.hi)))
            (Tr.br (s.hi == 9223372036854775808) (Tr.leaf (SP.mk s.empty s.lo 0)) (Tr.leaf s))))))
def r16_Norm_t (s : SP) : Tr (SP) := r16_Norm_T r16_le s
def r16_Norm (s : SP) : SP := (r16_Norm_t s).val
def r16_Make_T (r16_Norm : SP → SP) (lo : Int) (hi : Int) : Tr (SP) :=
  Tr.leaf (r16_Norm (SP.mk false lo hi))
def r16_Make_t (lo : Int) (hi : Int) : Tr (SP) := r16_Make_T r16_Norm lo hi
def r16_Make (lo : Int) (hi : Int) : SP := (r16_Make_t lo hi).val
def r16_Has_T (r16_Norm : SP → SP) (r4_Finite : Int → Bool) (r16_le : Int → Int → Bool) (s : SP) (f : Int) : Tr (Bool) :=
  Tr.br (!(r16_Norm s).empty)
    (Tr.br (r4_Finite f) (Tr.br (r16_le (r16_Norm s).lo f) (Tr.leaf (r16_le f (r16_Norm s).hi)) (Tr.leaf false))
      (Tr.leaf false))
    (Tr.leaf false)
def r16_Has_t (s : SP) (f : Int) : Tr (Bool) := r16_Has_T r16_Norm r4_Finite r16_le s f
def r16_Has (s : SP) (f : Int) : Bool := (r16_Has_t s f).val
def r16_Inside_T (r16_Norm : SP → SP) (r16_le : Int → Int → Bool) (a : SP) (b : SP) : Tr (Bool) :=
  Tr.br (r16_Norm a).empty (Tr.leaf (r16_Norm a).empty)
    (Tr.br (r16_Norm b).empty (Tr.leaf (r16_Norm a).empty)
      (Tr.br (r16_le (r16_Norm b).lo (r16_Norm a).lo) (Tr.leaf (r16_le (r16_Norm a).hi (r16_Norm b).hi)) (Tr.leaf false)))
def r16_Inside_t (a : SP) (b : SP) : Tr (Bool) := r16_Inside_T r16_Norm r16_le a b
def r16_Inside (a : SP) (b : SP) : Bool := (r16_Inside_t a b).val
def r16_Join_T (r16_Norm : SP → SP) (r16_le : Int → Int → Bool) (a : SP) (b : SP) : Tr (SP) :=
  Tr.br (r16_Norm a).empty (Tr.leaf (r16_Norm b))
    (Tr.br (r16_Norm b).empty (Tr.leaf (r16_Norm a))
      (Tr.br (r16_le (r16_Norm b).lo (r16_Norm a).lo)
        (Tr.br (r16_le (r16_Norm a).hi (r16_Norm b).hi)
          (Tr.leaf (SP.mk (r16_Norm a).empty (r16_Norm b).lo (r16_Norm b).hi))
          (Tr.leaf (SP.mk (r16_Norm a).empty (r16_Norm b).lo (r16_Norm a).hi)))
        (Tr.br (r16_le (r16_Norm a).hi (r16_Norm b).hi)
          (Tr.leaf (SP.mk (r16_Norm a).empty (r16_Norm a).lo (r16_Norm b).hi)) (Tr.leaf (r16_Norm a)))))
def r16_Join_t (a : SP) (b : SP) : Tr (SP) := r16_Join_T r16_Norm r16_le a b
def r16_Join (a : SP) (b : SP) : SP := (r16_Join_t a b).val
def r16_Meet_T (r16_Norm : SP → SP) (r16_le : Int → Int → Bool) (a : SP) (b : SP) : Tr (SP) :=
  Tr.br (r16_Norm a).empty (Tr.leaf (SP.mk true 0 0))
    (Tr.br (r16_Norm b).empty (Tr.leaf (SP.mk true 0 0))
      (Tr.br (r16_le (r16_Norm a).lo (r16_Norm b).lo)
        (Tr.br (r16_le (r16_Norm b).hi (r16_Norm a).hi)
          (Tr.leaf (r16_Norm (SP.mk (r16_Norm a).empty (r16_Norm b).lo (r16_Norm b).hi)))
          (Tr.leaf (r16_Norm (SP.mk (r16_Norm a).empty (r16_Norm b).lo (r16_Norm a).hi))))
        (Tr.br (r16_le (r16_Norm b).hi (r16_Norm a).hi)
          (Tr.leaf (r16_Norm (SP.mk (r16_Norm a).empty (r16_Norm a).lo (r16_Norm b).hi)))
          (Tr.leaf (r16_Norm (r16_Norm a))))))
def r16_Meet_t (a : SP) (b : SP) : Tr (SP) := r16_Meet_T r16_Norm r16_le a b
def r16_Meet (a : SP) (b : SP) : SP := (r16_Meet_t a b).val
def r16_minus_T  (f : Int) : Tr (Int) :=
  Tr.leaf (bitsI BinOp.xor IntKind.u64 f 9223372036854775808)
def r16_minus_t (f : Int) : Tr (Int) := r16_minus_T  f
def r16_minus (f : Int) : Int := (r16_minus_t f).val
def r16_Neg_T (r16_Norm : SP → SP) (r16_minus : Int → Int) (r16_Make : Int → Int → SP) (a : SP) : Tr (SP) :=
  Tr.br (r16_Norm a).empty (Tr.leaf (r16_Norm a))
    (Tr.leaf (r16_Make (r16_minus (r16_Norm a).hi) (r16_minus (r16_Norm a).lo)))
def r16_Neg_t (a : SP) : Tr (SP) := r16_Neg_T r16_Norm r16_minus r16_Make a
def r16_Neg (a : SP) : SP := (r16_Neg_t a).val
def r16_Abs_T (r16_Norm : SP → SP) (r16_le : Int → Int → Bool) (r16_Neg : SP → SP) (r16_Join : SP → SP → SP) (r16_Make : Int → Int → SP) (a : SP) : Tr (SP) :=
  Tr.br (r16_Norm a).empty (Tr.leaf (r16_Norm a))
    (Tr.br (r16_le 0 (r16_Norm a).lo) (Tr.leaf (r16_Norm a))
      (Tr.br (r16_le (r16_Norm a).hi 0) (Tr.leaf (r16_Neg (r16_Norm a)))
        (Tr.leaf (r16_Make 0 (r16_Join (r16_Norm a) (r16_Neg (r16_Norm a))).hi))))
def r16_Abs_t (a : SP) : Tr (SP) := r16_Abs_T r16_Norm r16_le r16_Neg r16_Join r16_Make a
def r16_Abs (a : SP) : SP := (r16_Abs_t a).val
def r16_Most_T (r16_Abs : SP → SP) (a : SP) : Tr (Int) :=
  Tr.br (r16_Abs a).empty (Tr.leaf 0) (Tr.leaf (r16_Abs a).hi)
def r16_Most_t (a : SP) : Tr (Int) := r16_Most_T r16_Abs a
def r16_Most (a : SP) : Int := (r16_Most_t a).val
def r16_Widen_L0_T (r16_le : Int → Int → Bool) (v2 : List Int) (_h0_0 : Bool) (_h0_1 : Int) (_h0_2 : Int) (_h1_0 : Bool) (_h1_1 : Int) (_h1_2 : Int) (_h2_0 : Bool) (h2_1 : Int) (_h2_2 : Int) (v10 : Int) (v11 : Int) : Tr ((Int × Int) ⊕ (Int × Int)) :=
  Tr.br (decide (v11 < (v2.length : Int)))
    (Tr.ast (decide (0 ≤ v11) && decide (v11 < (v2.length : Int)))
      (Tr.br (r16_le (v2.getD v11.toNat 0) h2_1)
        (Tr.ast (decide (0 ≤ v11) && decide (v11 < (v2.length : Int)))
          (Tr.br (r16_le v10 (v2.getD v11.toNat 0))
            (Tr.ast (decide (0 ≤ v11) && decide (v11 < (v2.length : Int)))
              (Tr.leaf (Sum.inl (v2.getD v11.toNat 0, IntKind.i64.wrap (v11 + 1)))))
            (Tr.leaf (Sum.inl (v10, IntKind.i64.wrap (v11 + 1))))))
        (Tr.leaf (Sum.inl (v10, IntKind.i64.wrap (v11 + 1))))))
    (Tr.leaf (Sum.inr (v10, v11)))
def r16_Widen_L0_step (p : (List Int) × Bool × Int × Int × Bool × Int × Int × Bool × Int × Int) (x : Int × Int) : Tr ((Int × Int) ⊕ (Int × Int)) := r16_Widen_L0_T r16_le p.1 p.2.1 p.2.2.1 p.2.2.2.1 p.2.2.2.2.1 p.2.2.2.2.2.1 p.2.2.2.2.2.2.1 p.2.2.2.2.2.2.2.1 p.2.2.2.2.2.2.2.2.1 p.2.2.2.2.2.2.2.2.2 x.1 x.2
def r16_Widen_L0_r (p : (List Int) × Bool × Int × Int × Bool × Int × Int × Bool × Int × Int) (x : Int × Int) : Option (Int × Int) := runB (r16_Widen_L0_step p) x
def r16_Widen_L0_v (p : (List Int) × Bool × Int × Int × Bool × Int × Int × Bool × Int × Int) (x : Int × Int) : Int × Int := (r16_Widen_L0_r p x).getD x
def r16_Widen_L0_ok (p : (List Int) × Bool × Int × Int × Bool × Int × Int × Bool × Int × Int) (x : Int × Int) : Bool := (r16_Widen_L0_r p x).isSome
def r16_Widen_L1_T (r16_le : Int → Int → Bool) (v2 : List Int) (_h0_0 : Bool) (_h0_1 : Int) (_h0_2 : Int) (_h1_0 : Bool) (_h1_1 : Int) (h1_2 : Int) (v12 : Int) (v13 : Int) : Tr ((Int × Int) ⊕ (Int × Int)) :=
  Tr.br (decide (v13 < (v2.length : Int)))
    (Tr.ast (decide (0 ≤ v13) && decide (v13 < (v2.length : Int)))
      (Tr.br (r16_le h1_2 (v2.getD v13.toNat 0))
        (Tr.ast (decide (0 ≤ v13) && decide (v13 < (v2.length : Int)))
          (Tr.br (r16_le (v2.getD v13.toNat 0) v12)
            (Tr.ast (decide (0 ≤ v13) && decide (v13 < (v2.length : Int)))
              (Tr.leaf (Sum.inl (v2.getD v13.toNat 0, IntKind.i64.wrap (v13 + 1)))))
            (Tr.leaf (Sum.inl (v12, IntKind.i64.wrap (v13 + 1))))))
        (Tr.leaf (Sum.inl (v12, IntKind.i64.wrap (v13 + 1))))))
    (Tr.leaf (Sum.inr (v12, v13)))
def r16_Widen_L1_step (p : (List Int) × Bool × Int × Int × Bool × Int × Int) (x : Int × Int) : Tr ((Int × Int) ⊕ (Int × Int)) := r16_Widen_L1_T r16_le p.1 p.2.1 p.2.2.1 p.2.2.2.1 p.2.2.2.2.1 p.2.2.2.2.2.1 p.2.2.2.2.2.2 x.1 x.2
def r16_Widen_L1_r (p : (List Int) × Bool × Int × Int × Bool × Int × Int) (x : Int × Int) : Option (Int × Int) := runB (r16_Widen_L1_step p) x
def r16_Widen_L1_v (p : (List Int) × Bool × Int × Int × Bool × Int × Int) (x : Int × Int) : Int × Int := (r16_Widen_L1_r p x).getD x
def r16_Widen_L1_ok (p : (List Int) × Bool × Int × Int × Bool × Int × Int) (x : Int × Int) : Bool := (r16_Widen_L1_r p x).isSome
def r16_Widen_T (r16_Norm : SP → SP) (r16_Join : SP → SP → SP) (r16_le : Int → Int → Bool) (r16_Widen_L0_ok : ((List Int) × Bool × Int × Int × Bool × Int × Int × Bool × Int × Int) → (Int × Int) → Bool) (r16_Widen_L0_v : ((List Int) × Bool × Int × Int × Bool × Int × Int × Bool × Int × Int) → (Int × Int) → Int × Int) (r16_Widen_L1_ok : ((List Int) × Bool × Int × Int × Bool × Int × Int) → (Int × Int) → Bool) (r16_Widen_L1_v : ((List Int) × Bool × Int × Int × Bool × Int × Int) → (Int × Int) → Int × Int) (old : SP) (now : SP) (steps : List Int) : Tr (SP) :=
  Tr.br (r16_Norm old).empty (Tr.leaf (r16_Norm now))
    (Tr.br (!r16_le (r16_Norm old).lo (r16_Join (r16_Norm old) (r16_Norm now)).lo)
      (Tr.ast
        (r16_Widen_L0_ok
          (steps, false, 0, 0, (r16_Norm old).empty, (r16_Norm old).lo, (r16_Norm old).hi,
            (r16_Join (r16_Norm old) (r16_Norm now)).empty, (r16_Join (r16_Norm old) (r16_Norm now)).lo,
            (r16_Join (r16_Norm old) (r16_Norm now)).hi)
          (18442240474082181120, 0))
        (Tr.br (!r16_le (r16_Join (r16_Norm old) (r16_Norm now)).hi (r16_Norm old).hi)
          (Tr.ast
            (r16_Widen_L1_ok
              (steps, false, 0, 0, (r16_Join (r16_Norm old) (r16_Norm now)).empty,
                (r16_Widen_L0_v
                    (steps, false, 0, 0, (r16_Norm old).empty, (r16_Norm old).lo, (r16_Norm old).hi,
                      (r16_Join (r16_Norm old) (r16_Norm now)).empty, (r16_Join (r16_Norm old) (r16_Norm now)).lo,
                      (r16_Join (r16_Norm old) (r16_Norm now)).hi)
                    (18442240474082181120, 0)).fst,
                (r16_Join (r16_Norm old) (r16_Norm now)).hi)
              (9218868437227405312, 0))
            (Tr.leaf
              (r16_Norm
                (SP.mk (r16_Join (r16_Norm old) (r16_Norm now)).empty
                  (r16_Widen_L0_v
                      (steps, false, 0, 0, (r16_Norm old).empty, (r16_Norm old).lo, (r16_Norm old).hi,
                        (r16_Join (r16_Norm old) (r16_Norm now)).empty, (r16_Join (r16_Norm old) (r16_Norm now)).lo,
                        (r16_Join (r16_Norm old) (r16_Norm now)).hi)
                      (18442240474082181120, 0)).fst
                  (r16_Widen_L1_v
                      (steps, false, 0, 0, (r16_Join (r16_Norm old) (r16_Norm now)).empty,
                        (r16_Widen_L0_v
                            (steps, false, 0, 0, (r16_Norm old).empty, (r16_Norm old).lo, (r16_Norm old).hi,
                              (r16_Join (r16_Norm old) (r16_Norm now)).empty, (r16_Join (r16_Norm old) (r16_Norm now)).lo,
                              (r16_Join (r16_Norm old) (r16_Norm now)).hi)
                            (18442240474082181120, 0)).fst,
                        (r16_Join (r16_Norm old) (r16_Norm now)).hi)
                      (9218868437227405312, 0)).fst))))
          (Tr.leaf
            (r16_Norm
              (SP.mk (r16_Join (r16_Norm old) (r16_Norm now)).empty
                (r16_Widen_L0_v
                    (steps, false, 0, 0, (r16_Norm old).empty, (r16_Norm old).lo, (r16_Norm old).hi,
                      (r16_Join (r16_Norm old) (r16_Norm now)).empty, (r16_Join (r16_Norm old) (r16_Norm now)).lo,
                      (r16_Join (r16_Norm old) (r16_Norm now)).hi)
                    (18442240474082181120, 0)).fst
                (r16_Join (r16_Norm old) (r16_Norm now)).hi)))))
      (Tr.br (!r16_le (r16_Join (r16_Norm old) (r16_Norm now)).hi (r16_Norm old).hi)
        (Tr.ast
          (r16_Widen_L1_ok
            (steps, false, 0, 0, (r16_Join (r16_Norm old) (r16_Norm now)).empty,
              (r16_Join (r16_Norm old) (r16_Norm now)).lo, (r16_Join (r16_Norm old) (r16_Norm now)).hi)
            (9218868437227405312, 0))
          (Tr.leaf
            (r16_Norm
              (SP.mk (r16_Join (r16_Norm old) (r16_Norm now)).empty (r16_Join (r16_Norm old) (r16_Norm now)).lo
                (r16_Widen_L1_v
                    (steps, false, 0, 0, (r16_Join (r16_Norm old) (r16_Norm now)).empty,
                      (r16_Join (r16_Norm old) (r16_Norm now)).lo, (r16_Join (r16_Norm old) (r16_Norm now)).hi)
                    (9218868437227405312, 0)).fst))))
        (Tr.leaf (r16_Norm (r16_Join (r16_Norm old) (r16_Norm now))))))
def r16_Widen_t (old : SP) (now : SP) (steps : List Int) : Tr (SP) := r16_Widen_T r16_Norm r16_Join r16_le r16_Widen_L0_ok r16_Widen_L0_v r16_Widen_L1_ok r16_Widen_L1_v old now steps
def r16_Widen (old : SP) (now : SP) (steps : List Int) : SP := (r16_Widen_t old now steps).val
def r16_Widen_s (old : SP) (now : SP) (steps : List Int) : Bool := (r16_Widen_t old now steps).safe
def r16_below_T (r4_Finite : Int → Bool) (r4_Prev : Int → Int) (r16_Meet : SP → SP → SP) (a : SP) (hi : Int) (strict : Bool) : Tr (SP) :=
  Tr.br strict
    (Tr.br (r4_Finite hi) (Tr.leaf (r16_Meet a (SP.mk false 18442240474082181120 (r4_Prev hi))))
      (Tr.leaf (r16_Meet a (SP.mk false 18442240474082181120 hi))))
    (Tr.leaf (r16_Meet a (SP.mk false 18442240474082181120 hi)))
def r16_below_t (a : SP) (hi : Int) (strict : Bool) : Tr (SP) := r16_below_T r4_Finite r4_Prev r16_Meet a hi strict
def r16_below (a : SP) (hi : Int) (strict : Bool) : SP := (r16_below_t a hi strict).val
def r16_from_T (r4_Finite : Int → Bool) (r4_Next : Int → Int) (r16_Meet : SP → SP → SP) (a : SP) (lo : Int) (strict : Bool) : Tr (SP) :=
  Tr.br strict
    (Tr.br (r4_Finite lo) (Tr.leaf (r16_Meet a (SP.mk false (r4_Next lo) 9218868437227405312)))
      (Tr.leaf (r16_Meet a (SP.mk false lo 9218868437227405312))))
    (Tr.leaf (r16_Meet a (SP.mk false lo 9218868437227405312)))
def r16_from_t (a : SP) (lo : Int) (strict : Bool) : Tr (SP) := r16_from_T r4_Finite r4_Next r16_Meet a lo strict
def r16_from (a : SP) (lo : Int) (strict : Bool) : SP := (r16_from_t a lo strict).val
def r16_without_T (r16_from : SP → Int → Bool → SP) (r16_below : SP → Int → Bool → SP) (a : SP) (f : Int) : Tr (SP) :=
  Tr.br (a.lo == f)
    (Tr.br (a.hi == f) (Tr.leaf (SP.mk true 0 0))
      (Tr.br (a.lo == f) (Tr.leaf (r16_from a f true)) (Tr.br (a.hi == f) (Tr.leaf (r16_below a f true)) (Tr.leaf a))))
    (Tr.br (a.lo == f) (Tr.leaf (r16_from a f true)) (Tr.br (a.hi == f) (Tr.leaf (r16_below a f true)) (Tr.leaf a)))
def r16_without_t (a : SP) (f : Int) : Tr (SP) := r16_without_T r16_from r16_below a f
def r16_without (a : SP) (f : Int) : SP := (r16_without_t a f).val
def r16_Test_T (r16_Norm : SP → SP) (r16_below : SP → Int → Bool → SP) (r16_from : SP → Int → Bool → SP) (r16_Meet : SP → SP → SP) (r16_without : SP → Int → SP) (op : Int) (a : SP) (b : SP) : Tr (SP × SP) :=
  Tr.br (r16_Norm a).empty (Tr.leaf (SP.mk true 0 0, SP.mk true 0 0))
    (Tr.br (r16_Norm b).empty (Tr.leaf (SP.mk true 0 0, SP.mk true 0 0))
      (Tr.br (op == 9)
        (Tr.br (r16_below (r16_Norm a) (r16_Norm b).hi (op == 9)).empty (Tr.leaf (SP.mk true 0 0, SP.mk true 0 0))
          (Tr.br (r16_from (r16_Norm b) (r16_Norm a).lo (op == 9)).empty (Tr.leaf (SP.mk true 0 0, SP.mk true 0 0))
            (Tr.leaf
              (r16_below (r16_Norm a) (r16_Norm b).hi (op == 9), r16_from (r16_Norm b) (r16_Norm a).lo (op == 9)))))
        (Tr.br (op == 10)
          (Tr.br (r16_below (r16_Norm a) (r16_Norm b).hi (op == 9)).empty (Tr.leaf (SP.mk true 0 0, SP.mk true 0 0))
            (Tr.br (r16_from (r16_Norm b) (r16_Norm a).lo (op == 9)).empty (Tr.leaf (SP.mk true 0 0, SP.mk true 0 0))
              (Tr.leaf
                (r16_below (r16_Norm a) (r16_Norm b).hi (op == 9), r16_from (r16_Norm b) (r16_Norm a).lo (op == 9)))))
          (Tr.br (op == 13)
            (Tr.br (r16_from (r16_Norm a) (r16_Norm b).lo (op == 13)).empty (Tr.leaf (SP.mk true 0 0, SP.mk true 0 0))
              (Tr.br (r16_below (r16_Norm b) (r16_Norm a).hi (op == 13)).empty (Tr.leaf (SP.mk true 0 0, SP.mk true 0 0))
                (Tr.leaf
                  (r16_from (r16_Norm a) (r16_Norm b).lo (op == 13), r16_below (r16_Norm b) (r16_Norm a).hi (op == 13)))))
            (Tr.br (op == 14)
              (Tr.br (r16_from (r16_Norm a) (r16_Norm b).lo (op == 13)).empty (Tr.leaf (SP.mk true 0 0, SP.mk true 0 0))
                (Tr.br (r16_below (r16_Norm b) (r16_Norm a).hi (op == 13)).empty
                  (Tr.leaf (SP.mk true 0 0, SP.mk true 0 0))
                  (Tr.leaf
                    (r16_from (r16_Norm a) (r16_Norm b).lo (op == 13),
                      r16_below (r16_Norm b) (r16_Norm a).hi (op == 13)))))
              (Tr.br (op == 11)
                (Tr.br (r16_Meet (r16_Norm a) (r16_Norm b)).empty (Tr.leaf (SP.mk true 0 0, SP.mk true 0 0))
                  (Tr.br (r16_Meet (r16_Norm a) (r16_Norm b)).empty (Tr.leaf (SP.mk true 0 0, SP.mk true 0 0))
                    (Tr.leaf (r16_Meet (r16_Norm a) (r16_Norm b), r16_Meet (r16_Norm a) (r16_Norm b)))))
                (Tr.br (op == 12)
                  (Tr.br ((r16_Norm b).lo == (r16_Norm b).hi)
                    (Tr.br ((r16_Norm a).lo == (r16_Norm a).hi)
                      (Tr.br (r16_without (r16_Norm a) (r16_Norm b).lo).empty (Tr.leaf (SP.mk true 0 0, SP.mk true 0 0))
                        (Tr.br (r16_without (r16_Norm b) (r16_Norm a).lo).empty (Tr.leaf (SP.mk true 0 0, SP.mk true 0 0))
                          (Tr.leaf (r16_without (r16_Norm a) (r16_Norm b).lo, r16_without (r16_Norm b) (r16_Norm a).lo))))
                      (Tr.br (r16_without (r16_Norm a) (r16_Norm b).lo).empty (Tr.leaf (SP.mk true 0 0, SP.mk true 0 0))
                        (Tr.br (r16_Norm b).empty (Tr.leaf (SP.mk true 0 0, SP.mk true 0 0))
                          (Tr.leaf (r16_without (r16_Norm a) (r16_Norm b).lo, r16_Norm b)))))
                    (Tr.br ((r16_Norm a).lo == (r16_Norm a).hi)
                      (Tr.br (r16_Norm a).empty (Tr.leaf (SP.mk true 0 0, SP.mk true 0 0))
                        (Tr.br (r16_without (r16_Norm b) (r16_Norm a).lo).empty (Tr.leaf (SP.mk true 0 0, SP.mk true 0 0))
                          (Tr.leaf (r16_Norm a, r16_without (r16_Norm b) (r16_Norm a).lo))))
                      (Tr.br (r16_Norm a).empty (Tr.leaf (SP.mk true 0 0, SP.mk true 0 0))
                        (Tr.br (r16_Norm b).empty (Tr.leaf (SP.mk true 0 0, SP.mk true 0 0))
                          (Tr.leaf (r16_Norm a, r16_Norm b))))))
                  (Tr.br (r16_Norm a).empty (Tr.leaf (SP.mk true 0 0, SP.mk true 0 0))
                    (Tr.br (r16_Norm b).empty (Tr.leaf (SP.mk true 0 0, SP.mk true 0 0))
                      (Tr.leaf (r16_Norm a, r16_Norm b)))))))))))
def r16_Test_t (op : Int) (a : SP) (b : SP) : Tr (SP × SP) := r16_Test_T r16_Norm r16_below r16_from r16_Meet r16_without op a b
def r16_Test (op : Int) (a : SP) (b : SP) : SP × SP := (r16_Test_t op a b).val
end Go.Fb
