/- Spans: what the laws compute, as definitions. Conditions: none. -/
import Derived.Test.YtdkbeajkedffeaaGreatFd
namespace Go.Fb
open Go.Ev
def l16_works_T (sp_Make : Int → Int → SP) (sp_Mul : SP → SP → SP) (sp_Mul_s : SP → SP → Bool) (sp_Point : Int → SP) (sp_Div : SP → SP → SP) (sp_Div_s : SP → SP → Bool) (sp_Test : Int → SP → SP → SP × SP) (sp_Test_s : Int → SP → SP → Bool) (sp_All : SP) (p_Inf : Bool → Int) (sp_Has : SP → Int → Bool) (sp_Inside : SP → SP → Bool) (sp_Join : (List (List Cv)) → SP) (sp_Join_s : (List (List Cv)) → Bool) (sp_Meet : SP → SP → SP) (sp_Meet_s : SP → SP → Bool) (sp_Neg : SP → SP) (sp_Most : SP → Int) (sp_Most_s : SP → Bool) (sp_Abs : SP → SP) (sp_Abs_s : SP → Bool)  : Tr (Bool) :=
  let t0 : SP := sp_Make 4598175219545276416 (p_Inf false);
  let t1 : SP := sp_Make 0 4611686018427387903;
  let t2 : SP := sp_Make 13830554455654793216 4611686018427387904;
  let t3 : SP := sp_Make 4607182418800017408 4611686018427387904;
  let t4 : SP := sp_Make 0 4616189618054758400;
  let t5 : SP := sp_Make 0 4607182418800017408;
  let t6 : SP := sp_Make 13837309855095848960 4616189618054758400;
  let t7 : SP := sp_Make 13830554455654793216 0;
  let t8 : SP := sp_Make 0 4611686018427387904;
  let t9 : SP := sp_Make 13841813454723219456 4620693217682128896;
  let t10 : SP := sp_Make 4607182418800017408 4611686018427387903;
  let t11 : SP := sp_Abs t7;
  let t12 : SP := sp_Div (sp_Point 0) t2;
  let t13 : SP := sp_Div (sp_Point 4607182418800017408) t2;
  let t14 : SP := sp_Div (sp_Point 4607182418800017408) t4;
  let t15 : SP := sp_Mul t3 t6;
  let t16 : SP × SP := sp_Test 9 t4 t3;
  let t17 : SP := t16.fst;
  let t18 : SP := t16.snd;
  let t19 : Int := t18.lo;
  let t20 : Int := t17.lo;
  let t21 : Int := t17.hi;
  let t22 : Bool := t17.empty;
  let t23 : Int := t18.hi;
  let t24 : Bool := t18.empty;
  let t25 : SP := sp_Neg t18;
  let t26 : SP := sp_Meet t17 t18;
  let t27 : List (List Cv) := id [[Cv.b t22, Cv.i t20, Cv.i t21], [Cv.b t24, Cv.i t19, Cv.i t23]];
  let t28 : SP := sp_Join t27;
  Tr.ast (sp_Mul_s t3 t6)
    (Tr.ast (sp_Div_s (sp_Point 4607182418800017408) t2)
      (Tr.ast (sp_Div_s (sp_Point 0) t2)
        (Tr.ast (sp_Div_s (sp_Point 4607182418800017408) t4)
          (Tr.ast (sp_Test_s 9 t4 t3)
            (Tr.br (t15.empty == t9.empty && (t15.lo == t9.lo && (t15.hi == t9.hi && true)))
              (Tr.br (t13.empty == sp_All.empty && (t13.lo == sp_All.lo && (t13.hi == sp_All.hi && true)))
                (Tr.br
                  (t12.empty == (sp_Point 0).empty && (t12.lo == (sp_Point 0).lo && (t12.hi == (sp_Point 0).hi && true)))
                  (Tr.br (t14.empty == t0.empty && (t14.lo == t0.lo && (t14.hi == t0.hi && true)))
                    (Tr.br (t22 == t1.empty && (t20 == t1.lo && (t21 == t1.hi && true)))
                      (Tr.br (t24 == t3.empty && (t19 == t3.lo && (t23 == t3.hi && true)))
                        (Tr.br (sp_Make 4611686018427387904 4607182418800017408).empty
                          (Tr.br (sp_Has t17 4607182418800017408)
                            (Tr.br (sp_Inside t18 t4)
                              (Tr.ast (sp_Join_s t27)
                                (Tr.br (t28.empty == t8.empty && (t28.lo == t8.lo && (t28.hi == t8.hi && true)))
                                  (Tr.ast (sp_Meet_s t17 t18)
                                    (Tr.br (t26.empty == t10.empty && (t26.lo == t10.lo && (t26.hi == t10.hi && true)))
                                      (Tr.ast (sp_Most_s t25)
                                        (Tr.br (sp_Most t25 == 4611686018427387904)
                                          (Tr.ast (sp_Abs_s t7)
                                            (Tr.leaf
                                              (t11.empty == t5.empty && (t11.lo == t5.lo && (t11.hi == t5.hi && true)))))
                                          (Tr.leaf false)))
                                      (Tr.leaf false)))
                                  (Tr.leaf false)))
                              (Tr.leaf false))
                            (Tr.leaf false))
                          (Tr.leaf false))
                        (Tr.leaf false))
                      (Tr.leaf false))
                    (Tr.leaf false))
                  (Tr.leaf false))
                (Tr.leaf false))
              (Tr.leaf false))))))
def l16_works_t  : Tr (Bool) := l16_works_T sp_Make sp_Mul sp_Mul_s sp_Point sp_Div sp_Div_s sp_Test sp_Test_s sp_All p_Inf sp_Has sp_Inside sp_Join sp_Join_s sp_Meet sp_Meet_s sp_Neg sp_Most sp_Most_s sp_Abs sp_Abs_s 
def l16_works  : Bool := (l16_works_t ).val
def l16_works_s  : Bool := (l16_works_t ).safe
end Go.Fb
namespace Go.Fb
open Go.Ev
def l_SpanProducts_T (l16_works : Bool) (l16_works_s : Bool) (sp_Mul : SP → SP → SP) (sp_Mul_s : SP → SP → Bool) (r16_Mul : SP → SP → SP) (r16_Mul_s : SP → SP → Bool) (sp_Div : SP → SP → SP) (sp_Div_s : SP → SP → Bool) (r16_Div : SP → SP → SP) (r16_Div_s : SP → SP → Bool) (a : SP) (b : SP) : Tr (Bool) :=
  Tr.ast l16_works_s
    (Tr.br (!l16_works) (Tr.leaf false)
      (Tr.br l16_works
        (Tr.ast (sp_Mul_s a b)
          (Tr.ast (r16_Mul_s a b)
            (Tr.br
              ((sp_Mul a b).empty == (r16_Mul a b).empty &&
                ((sp_Mul a b).lo == (r16_Mul a b).lo && ((sp_Mul a b).hi == (r16_Mul a b).hi && true)))
              (Tr.ast (sp_Div_s a b)
                (Tr.ast (r16_Div_s a b)
                  (Tr.leaf
                    ((sp_Div a b).empty == (r16_Div a b).empty &&
                      ((sp_Div a b).lo == (r16_Div a b).lo && ((sp_Div a b).hi == (r16_Div a b).hi && true))))))
              (Tr.leaf false))))
        (Tr.leaf false)))
def l_SpanProducts_t (a : SP) (b : SP) : Tr (Bool) := l_SpanProducts_T l16_works l16_works_s sp_Mul sp_Mul_s r16_Mul r16_Mul_s sp_Div sp_Div_s r16_Div r16_Div_s a b
def l_SpanProducts (a : SP) (b : SP) : Bool := (l_SpanProducts_t a b).val
def l_SpanProducts_s (a : SP) (b : SP) : Bool := (l_SpanProducts_t a b).safe
def l_SpanSums_T (l16_works : Bool) (l16_works_s : Bool) (sp_Add : SP → SP → SP) (sp_Add_s : SP → SP → Bool) (r16_Add : SP → SP → SP) (r16_Add_s : SP → SP → Bool) (sp_Sub : SP → SP → SP) (sp_Sub_s : SP → SP → Bool) (r16_Neg : SP → SP) (sp_Neg : SP → SP) (sp_Abs : SP → SP) (sp_Abs_s : SP → Bool) (r16_Abs : SP → SP) (a : SP) (b : SP) : Tr (Bool) :=
  Tr.ast l16_works_s
    (Tr.br (!l16_works) (Tr.leaf false)
      (Tr.br l16_works
        (Tr.ast (sp_Add_s a b)
          (Tr.ast (r16_Add_s a b)
            (Tr.br
              ((sp_Add a b).empty == (r16_Add a b).empty &&
                ((sp_Add a b).lo == (r16_Add a b).lo && ((sp_Add a b).hi == (r16_Add a b).hi && true)))
              (Tr.ast (sp_Sub_s a b)
                (Tr.ast (r16_Add_s a (r16_Neg b))
                  (Tr.br
                    ((sp_Sub a b).empty == (r16_Add a (r16_Neg b)).empty &&
                      ((sp_Sub a b).lo == (r16_Add a (r16_Neg b)).lo &&
                        ((sp_Sub a b).hi == (r16_Add a (r16_Neg b)).hi && true)))
                    (Tr.br
                      ((sp_Neg a).empty == (r16_Neg a).empty &&
                        ((sp_Neg a).lo == (r16_Neg a).lo && ((sp_Neg a).hi == (r16_Neg a).hi && true)))
                      (Tr.ast (sp_Abs_s a)
                        (Tr.leaf
                          ((sp_Abs a).empty == (r16_Abs a).empty &&
                            ((sp_Abs a).lo == (r16_Abs a).lo && ((sp_Abs a).hi == (r16_Abs a).hi && true)))))
                      (Tr.leaf false))
                    (Tr.leaf false))))
              (Tr.leaf false))))
        (Tr.leaf false)))
def l_SpanSums_t (a : SP) (b : SP) : Tr (Bool) := l_SpanSums_T l16_works l16_works_s sp_Add sp_Add_s r16_Add r16_Add_s sp_Sub sp_Sub_s r16_Neg sp_Neg sp_Abs sp_Abs_s r16_Abs a b
def l_SpanSums (a : SP) (b : SP) : Bool := (l_SpanSums_t a b).val
def l_SpanSums_s (a : SP) (b : SP) : Bool := (l_SpanSums_t a b).safe
end Go.Fb
