/- Spans: what the laws compute, as definitions. Conditions: none. -/
import Derived.Test.YtdkbeajkedffeaaFd
namespace Go.Fb
open Go.Ev
def l16_works_T (sp_Make : Int → Int → SP) (sp_Mul : SP → SP → SP) (sp_Mul_s : SP → SP → Bool) (sp_Point : Int → SP) (sp_Div : SP → SP → SP) (sp_Div_s : SP → SP → Bool) (sp_Test : Int → SP → SP → SP × SP) (sp_Test_s : Int → SP → SP → Bool) (sp_All : SP) (p_Inf : Bool → Int) (sp_Has : SP → Int → Bool) (sp_Inside : SP → SP → Bool) (sp_Join : (List (List Cv)) → SP) (sp_Join_s : (List (List Cv)) → Bool) (sp_Meet : SP → SP → SP) (sp_Meet_s : SP → SP → Bool) (sp_Neg : SP → SP) (sp_Most : SP → Int) (sp_Most_s : SP → Bool) (sp_Abs : SP → SP) (sp_Abs_s : SP → Bool)  : Tr (Bool) :=
  let t0 : SP := sp_Make 4598175219545276416 (p_Inf false);
  let t1 : SP := sp_Make 0 4611686018427387903;
  let t2 : SP := sp_Make 13830554455654793216 4611686018427387904;
  let t3 : SP := sp_Make 4607182418800017408 4611686018427387904;
  let t4 : SP := sp_Make 0 4616189618054758400;
  let t5 : SP := sp_Make 0 4607182418800017408;
  let t6 : SP := sp_Make 13837309855095848960 4616189618054758400;
  let t7 : SP := sp_Make 13830554455654793216 0;
  let t8 : SP := sp_Make 0 4611686018427387904;
  let t9 : SP := sp_Make 13841813454723219456 4620693217682128896;
  let t10 : SP := sp_Make 4607182418800017408 4611686018427387903;
  let t11 : SP := sp_Abs t7;
  let t12 : SP := sp_Div (sp_Point 0) t2;
  let t13 : SP := sp_Div (sp_Point 4607182418800017408) t2;
  let t14 : SP := sp_Div (sp_Point 4607182418800017408) t4;
  let t15 : SP := sp_Mul t3 t6;
  let t16 : SP × SP := sp_Test 9 t4 t3;
  let t17 : SP := t16.fst;
  let t18 : SP := t16.snd;
  let t19 : Int := t18.lo;
  let t20 : Int := t17.lo;
  let t21 : Int := t17.hi;
  let t22 : Bool := t17.empty;
  let t23 : Int := t18.hi;
  let t24 : Bool := t18.empty;
  let t25 : SP := sp_Neg t18;
  let t26 : SP := sp_Meet t17 t18;
  let t27 : List (List Cv) := id [[Cv.b t22, Cv.i t20, Cv.i t21], [Cv.b t24, Cv.i t19, Cv.i t23]];
  let t28 : SP := sp_Join t27;
  Tr.ast (sp_Mul_s t3 t6)
    (Tr.ast (sp_Div_s (sp_Point 4607182418800017408) t2)
      (Tr.ast (sp_Div_s (sp_Point 0) t2)
        (Tr.ast (sp_Div_s (sp_Point 4607182418800017408) t4)
          (Tr.ast (sp_Test_s 9 t4 t3)
            (Tr.br (t15.empty == t9.empty && (t15.lo == t9.lo && (t15.hi == t9.hi && true)))
              (Tr.br (t13.empty == sp_All.empty && (t13.lo == sp_All.lo && (t13.hi == sp_All.hi && true)))
                (Tr.br
                  (t12.empty == (sp_Point 0).empty && (t12.lo == (sp_Point 0).lo && (t12.hi == (sp_Point 0).hi && true)))
                  (Tr.br (t14.empty == t0.empty && (t14.lo == t0.lo && (t14.hi == t0.hi && true)))
                    (Tr.br (t22 == t1.empty && (t20 == t1.lo && (t21 == t1.hi && true)))
                      (Tr.br (t24 == t3.empty && (t19 == t3.lo && (t23 == t3.hi && true)))
                        (Tr.br (sp_Make 4611686018427387904 4607182418800017408).empty
                          (Tr.br (sp_Has t17 4607182418800017408)
                            (Tr.br (sp_Inside t18 t4)
                              (Tr.ast (sp_Join_s t27)
                                (Tr.br (t28.empty == t8.empty && (t28.lo == t8.lo && (t28.hi == t8.hi && true)))
                                  (Tr.ast (sp_Meet_s t17 t18)
                                    (Tr.br (t26.empty == t10.empty && (t26.lo == t10.lo && (t26.hi == t10.hi && true)))
                                      (Tr.ast (sp_Most_s t25)
                                        (Tr.br (sp_Most t25 == 4611686018427387904)
                                          (Tr.ast (sp_Abs_s t7)
                                            (Tr.leaf
                                              (t11.empty == t5.empty && (t11.lo == t5.lo && (t11.hi == t5.hi && true)))))
                                          (Tr.leaf false)))
                                      (Tr.leaf false)))
                                  (Tr.leaf false)))
                              (Tr.leaf false))
                            (Tr.leaf false))
                          (Tr.leaf false))
                        (Tr.leaf false))
                      (Tr.leaf false))
                    (Tr.leaf false))
                  (Tr.leaf false))
                (Tr.leaf false))
              (Tr.leaf false))))))
def l16_works_t  : Tr (Bool) := l16_works_T sp_Make sp_Mul sp_Mul_s sp_Point sp_Div sp_Div_s sp_Test sp_Test_s sp_All p_Inf sp_Has sp_Inside sp_Join sp_Join_s sp_Meet sp_Meet_s sp_Neg sp_Most sp_Most_s sp_Abs sp_Abs_s 
def l16_works  : Bool := (l16_works_t ).val
def l16_works_s  : Bool := (l16_works_t ).safe
def l16_inside_T (sp_Has : SP → Int → Bool) (s : SP) (f : Int) : Tr (Int × Bool) :=
  Tr.br (sp_Has s f) (Tr.leaf (f, true))
    (Tr.br (sp_Has s s.lo) (Tr.leaf (s.lo, true))
      (Tr.br (sp_Has s s.hi) (Tr.leaf (s.hi, true)) (Tr.leaf (0, sp_Has s 0))))
def l16_inside_t (s : SP) (f : Int) : Tr (Int × Bool) := l16_inside_T sp_Has s f
def l16_inside (s : SP) (f : Int) : Int × Bool := (l16_inside_t s f).val
def l_SpanMakes_T (l16_works : Bool) (l16_works_s : Bool) (sp_Make : Int → Int → SP) (r16_Make : Int → Int → SP) (sp_Point : Int → SP) (sp_All : SP) (sp_Has : SP → Int → Bool) (r16_Has : SP → Int → Bool) (sp_Inside : SP → SP → Bool) (r16_Inside : SP → SP → Bool) (sp_Join : (List (List Cv)) → SP) (sp_Join_s : (List (List Cv)) → Bool) (r16_Join : SP → SP → SP) (sp_Meet : SP → SP → SP) (sp_Meet_s : SP → SP → Bool) (r16_Meet : SP → SP → SP) (r16_Norm : SP → SP) (sp_Most : SP → Int) (sp_Most_s : SP → Bool) (r16_Most : SP → Int) (a : SP) (b : SP) (f : Int) : Tr (Bool) :=
  let t0 : Bool := sp_Join_s (id []);
  let t1 : SP := sp_Join (id []);
  let t2 : Bool := sp_Has a f == r16_Has a f;
  let t3 : Bool := sp_Inside a b == r16_Inside a b;
  let t4 : SP := r16_Make 18442240474082181120 9218868437227405312;
  let t5 : List (List Cv) := id [[Cv.b a.empty, Cv.i a.lo, Cv.i a.hi]];
  let t6 : SP := sp_Join t5;
  let t7 : Bool := sp_Join_s t5;
  let t8 : Bool :=
    (sp_Meet a b).empty == (r16_Meet a b).empty &&
      ((sp_Meet a b).lo == (r16_Meet a b).lo && ((sp_Meet a b).hi == (r16_Meet a b).hi && true));
  let t9 : List (List Cv) := id [[Cv.b a.empty, Cv.i a.lo, Cv.i a.hi], [Cv.b b.empty, Cv.i b.lo, Cv.i b.hi]];
  let t10 : SP := sp_Join t9;
  let t11 : Bool := sp_Join_s t9;
  let t12 : Bool := sp_All.empty == t4.empty && (sp_All.lo == t4.lo && (sp_All.hi == t4.hi && true));
  let t13 : Bool := t6.empty == (r16_Norm a).empty && (t6.lo == (r16_Norm a).lo && (t6.hi == (r16_Norm a).hi && true));
  let t14 : Bool :=
    t10.empty == (r16_Join a b).empty && (t10.lo == (r16_Join a b).lo && (t10.hi == (r16_Join a b).hi && true));
  Tr.ast l16_works_s
    (Tr.br (!l16_works) (Tr.leaf false)
      (Tr.br
        ((sp_Make a.lo b.hi).empty == (r16_Make a.lo b.hi).empty &&
          ((sp_Make a.lo b.hi).lo == (r16_Make a.lo b.hi).lo &&
            ((sp_Make a.lo b.hi).hi == (r16_Make a.lo b.hi).hi && true)))
        (Tr.br
          ((sp_Point f).empty == (r16_Make f f).empty &&
            ((sp_Point f).lo == (r16_Make f f).lo && ((sp_Point f).hi == (r16_Make f f).hi && true)))
          (Tr.br t2
            (Tr.ast t11
              (Tr.br t14
                (Tr.ast (sp_Meet_s a b)
                  (Tr.br t8
                    (Tr.ast t7
                      (Tr.br t13
                        (Tr.ast t0
                          (Tr.br l16_works
                            (Tr.br t12
                              (Tr.br t3
                                (Tr.br (t1.empty == true && (t1.lo == 0 && (t1.hi == 0 && true)))
                                  (Tr.ast (sp_Most_s a) (Tr.leaf (sp_Most a == r16_Most a))) (Tr.leaf false))
                                (Tr.leaf false))
                              (Tr.leaf false))
                            (Tr.leaf false)))
                        (Tr.br l16_works (Tr.br t12 (Tr.br t3 (Tr.leaf false) (Tr.leaf false)) (Tr.leaf false))
                          (Tr.leaf false))))
                    (Tr.br l16_works (Tr.br t12 (Tr.br t3 (Tr.leaf false) (Tr.leaf false)) (Tr.leaf false))
                      (Tr.leaf false))))
                (Tr.br l16_works (Tr.br t12 (Tr.br t3 (Tr.leaf false) (Tr.leaf false)) (Tr.leaf false)) (Tr.leaf false))))
            (Tr.ast t11
              (Tr.br t14
                (Tr.ast (sp_Meet_s a b)
                  (Tr.br t8
                    (Tr.ast t7
                      (Tr.br t13 (Tr.ast t0 (Tr.br l16_works (Tr.br t12 (Tr.leaf false) (Tr.leaf false)) (Tr.leaf false)))
                        (Tr.br l16_works (Tr.br t12 (Tr.leaf false) (Tr.leaf false)) (Tr.leaf false))))
                    (Tr.br l16_works (Tr.br t12 (Tr.leaf false) (Tr.leaf false)) (Tr.leaf false))))
                (Tr.br l16_works (Tr.br t12 (Tr.leaf false) (Tr.leaf false)) (Tr.leaf false)))))
          (Tr.br t2
            (Tr.ast t11
              (Tr.br t14
                (Tr.ast (sp_Meet_s a b)
                  (Tr.br t8
                    (Tr.ast t7
                      (Tr.br t13 (Tr.ast t0 (Tr.br l16_works (Tr.leaf false) (Tr.leaf false)))
                        (Tr.br l16_works (Tr.leaf false) (Tr.leaf false))))
                    (Tr.br l16_works (Tr.leaf false) (Tr.leaf false))))
                (Tr.br l16_works (Tr.leaf false) (Tr.leaf false))))
            (Tr.ast t11
              (Tr.br t14
                (Tr.ast (sp_Meet_s a b)
                  (Tr.br t8
                    (Tr.ast t7
                      (Tr.br t13 (Tr.ast t0 (Tr.br l16_works (Tr.leaf false) (Tr.leaf false)))
                        (Tr.br l16_works (Tr.leaf false) (Tr.leaf false))))
                    (Tr.br l16_works (Tr.leaf false) (Tr.leaf false))))
                (Tr.br l16_works (Tr.leaf false) (Tr.leaf false))))))
        (Tr.br t2
          (Tr.ast t11
            (Tr.br t14
              (Tr.ast (sp_Meet_s a b)
                (Tr.br t8
                  (Tr.ast t7
                    (Tr.br t13 (Tr.ast t0 (Tr.br l16_works (Tr.leaf false) (Tr.leaf false)))
                      (Tr.br l16_works (Tr.leaf false) (Tr.leaf false))))
                  (Tr.br l16_works (Tr.leaf false) (Tr.leaf false))))
              (Tr.br l16_works (Tr.leaf false) (Tr.leaf false))))
          (Tr.ast t11
            (Tr.br t14
              (Tr.ast (sp_Meet_s a b)
                (Tr.br t8
                  (Tr.ast t7
                    (Tr.br t13 (Tr.ast t0 (Tr.br l16_works (Tr.leaf false) (Tr.leaf false)))
                      (Tr.br l16_works (Tr.leaf false) (Tr.leaf false))))
                  (Tr.br l16_works (Tr.leaf false) (Tr.leaf false))))
              (Tr.br l16_works (Tr.leaf false) (Tr.leaf false)))))))
def l_SpanMakes_t (a : SP) (b : SP) (f : Int) : Tr (Bool) := l_SpanMakes_T l16_works l16_works_s sp_Make r16_Make sp_Point sp_All sp_Has r16_Has sp_Inside r16_Inside sp_Join sp_Join_s r16_Join sp_Meet sp_Meet_s r16_Meet r16_Norm sp_Most sp_Most_s r16_Most a b f
def l_SpanMakes (a : SP) (b : SP) (f : Int) : Bool := (l_SpanMakes_t a b f).val
def l_SpanMakes_s (a : SP) (b : SP) (f : Int) : Bool := (l_SpanMakes_t a b f).safe
def l_SpanWidens_T (l16_works : Bool) (l16_works_s : Bool) (sp_Widen : SP → SP → (List Int) → SP) (sp_Widen_s : SP → SP → (List Int) → Bool) (r16_Widen : SP → SP → (List Int) → SP) (r16_Widen_s : SP → SP → (List Int) → Bool) (sp_Inside : SP → SP → Bool) (old : SP) (now : SP) (steps : List Int) : Tr (Bool) :=
  Tr.ast l16_works_s
    (Tr.br (!l16_works) (Tr.leaf false)
      (Tr.br (decide ((steps.length : Int) > 200)) (Tr.leaf l16_works)
        (Tr.ast (sp_Widen_s old now steps)
          (Tr.br l16_works
            (Tr.ast (r16_Widen_s old now steps)
              (Tr.br
                ((sp_Widen old now steps).empty == (r16_Widen old now steps).empty &&
                  ((sp_Widen old now steps).lo == (r16_Widen old now steps).lo &&
                    ((sp_Widen old now steps).hi == (r16_Widen old now steps).hi && true)))
                (Tr.br (sp_Inside old (sp_Widen old now steps)) (Tr.leaf (sp_Inside now (sp_Widen old now steps)))
                  (Tr.leaf false))
                (Tr.leaf false)))
            (Tr.leaf false)))))
def l_SpanWidens_t (old : SP) (now : SP) (steps : List Int) : Tr (Bool) := l_SpanWidens_T l16_works l16_works_s sp_Widen sp_Widen_s r16_Widen r16_Widen_s sp_Inside old now steps
def l_SpanWidens (old : SP) (now : SP) (steps : List Int) : Bool := (l_SpanWidens_t old now steps).val
def l_SpanWidens_s (old : SP) (now : SP) (steps : List Int) : Bool := (l_SpanWidens_t old now steps).safe
def l_SpanTests_T (l16_works : Bool) (l16_works_s : Bool) (sp_Test : Int → SP → SP → SP × SP) (sp_Test_s : Int → SP → SP → Bool) (r16_Test : Int → SP → SP → SP × SP) (op : Int) (a : SP) (b : SP) : Tr (Bool) :=
  Tr.ast l16_works_s
    (Tr.br (!l16_works) (Tr.leaf false)
      (Tr.ast (sp_Test_s op a b)
        (Tr.br l16_works
          (Tr.br
            ((sp_Test op a b).fst.empty == (r16_Test op a b).fst.empty &&
              ((sp_Test op a b).fst.lo == (r16_Test op a b).fst.lo &&
                ((sp_Test op a b).fst.hi == (r16_Test op a b).fst.hi && true)))
            (Tr.leaf
              ((sp_Test op a b).snd.empty == (r16_Test op a b).snd.empty &&
                ((sp_Test op a b).snd.lo == (r16_Test op a b).snd.lo &&
                  ((sp_Test op a b).snd.hi == (r16_Test op a b).snd.hi && true))))
            (Tr.leaf false))
          (Tr.leaf false))))
def l_SpanTests_t (op : Int) (a : SP) (b : SP) : Tr (Bool) := l_SpanTests_T l16_works l16_works_s sp_Test sp_Test_s r16_Test op a b
def l_SpanTests (op : Int) (a : SP) (b : SP) : Bool := (l_SpanTests_t op a b).val
def l_SpanTests_s (op : Int) (a : SP) (b : SP) : Bool := (l_SpanTests_t op a b).safe
def l_SpanKeeps_T (l16_works : Bool) (l16_works_s : Bool) (sp_Test : Int → SP → SP → SP × SP) (sp_Test_s : Int → SP → SP → Bool) (sp_Inside : SP → SP → Bool) (l16_inside : SP → Int → Int × Bool) (p_Cmp : Int → Int → Int × Bool) (sp_Has : SP → Int → Bool) (op : Int) (a : SP) (b : SP) (f : Int) (g : Int) : Tr (Bool) :=
  Tr.ast l16_works_s
    (Tr.br (!l16_works) (Tr.leaf false)
      (Tr.ast (sp_Test_s op a b)
        (Tr.br (!sp_Inside (sp_Test op a b).fst a) (Tr.leaf false)
          (Tr.br (!sp_Inside (sp_Test op a b).snd b) (Tr.leaf false)
            (Tr.br (!(l16_inside a f).snd) (Tr.leaf l16_works)
              (Tr.br (!(l16_inside b g).snd) (Tr.leaf l16_works)
                (Tr.br (op == 9)
                  (Tr.br l16_works
                    (Tr.br (!decide ((p_Cmp (l16_inside a f).fst (l16_inside b g).fst).fst < 0)) (Tr.leaf true)
                      (Tr.br (sp_Has (sp_Test op a b).fst (l16_inside a f).fst)
                        (Tr.leaf (sp_Has (sp_Test op a b).snd (l16_inside b g).fst)) (Tr.leaf false)))
                    (Tr.leaf false))
                  (Tr.br (op == 10)
                    (Tr.br l16_works
                      (Tr.br (!decide ((p_Cmp (l16_inside a f).fst (l16_inside b g).fst).fst ≤ 0)) (Tr.leaf true)
                        (Tr.br (sp_Has (sp_Test op a b).fst (l16_inside a f).fst)
                          (Tr.leaf (sp_Has (sp_Test op a b).snd (l16_inside b g).fst)) (Tr.leaf false)))
                      (Tr.leaf false))
                    (Tr.br (op == 13)
                      (Tr.br l16_works
                        (Tr.br (!decide ((p_Cmp (l16_inside a f).fst (l16_inside b g).fst).fst > 0)) (Tr.leaf true)
                          (Tr.br (sp_Has (sp_Test op a b).fst (l16_inside a f).fst)
                            (Tr.leaf (sp_Has (sp_Test op a b).snd (l16_inside b g).fst)) (Tr.leaf false)))
                        (Tr.leaf false))
                      (Tr.br (op == 14)
                        (Tr.br l16_works
                          (Tr.br (!decide ((p_Cmp (l16_inside a f).fst (l16_inside b g).fst).fst ≥ 0)) (Tr.leaf true)
                            (Tr.br (sp_Has (sp_Test op a b).fst (l16_inside a f).fst)
                              (Tr.leaf (sp_Has (sp_Test op a b).snd (l16_inside b g).fst)) (Tr.leaf false)))
                          (Tr.leaf false))
                        (Tr.br (op == 11)
                          (Tr.br l16_works
                            (Tr.br (!(p_Cmp (l16_inside a f).fst (l16_inside b g).fst).fst == 0) (Tr.leaf true)
                              (Tr.br (sp_Has (sp_Test op a b).fst (l16_inside a f).fst)
                                (Tr.leaf (sp_Has (sp_Test op a b).snd (l16_inside b g).fst)) (Tr.leaf false)))
                            (Tr.leaf false))
                          (Tr.br (op == 12)
                            (Tr.br l16_works
                              (Tr.br (!(p_Cmp (l16_inside a f).fst (l16_inside b g).fst).fst != 0) (Tr.leaf true)
                                (Tr.br (sp_Has (sp_Test op a b).fst (l16_inside a f).fst)
                                  (Tr.leaf (sp_Has (sp_Test op a b).snd (l16_inside b g).fst)) (Tr.leaf false)))
                              (Tr.leaf false))
                            (Tr.br l16_works
                              (Tr.br (sp_Has (sp_Test op a b).fst (l16_inside a f).fst)
                                (Tr.leaf (sp_Has (sp_Test op a b).snd (l16_inside b g).fst)) (Tr.leaf false))
                              (Tr.leaf false))))))))))))))
def l_SpanKeeps_t (op : Int) (a : SP) (b : SP) (f : Int) (g : Int) : Tr (Bool) := l_SpanKeeps_T l16_works l16_works_s sp_Test sp_Test_s sp_Inside l16_inside p_Cmp sp_Has op a b f g
def l_SpanKeeps (op : Int) (a : SP) (b : SP) (f : Int) (g : Int) : Bool := (l_SpanKeeps_t op a b f g).val
def l_SpanKeeps_s (op : Int) (a : SP) (b : SP) (f : Int) (g : Int) : Bool := (l_SpanKeeps_t op a b f g).safe
end Go.Fb
