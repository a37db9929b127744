/- Contracts and laws of functions of the program, on the way to the claim. Conditions: as each theorem states. -/
import Derived.Test.YtfbpklopnnnniaaS1c
namespace Go.Proofs.Ytfbpklopnnnniaa
open Go.Ev Go.Fb


/-! flyball/flyballlaw17.works -/
def l17_works_T (ints_Make : Int → Int → I3) (ints_Mul : I3 → I3 → I3) (ints_Div : I3 → I3 → I3) (ints_Point : Int → I3) (ints_Test : Int → I3 → I3 → I3 × I3) (ints_Full : I3) (ints_Has : I3 → Int → Bool) (ints_Inside : I3 → I3 → Bool) (ints_Join2 : (I3 × I3) → I3) (ints_Meet : I3 → I3 → I3) (ints_Abs : I3 → I3) (ints_Neg : I3 → I3) (ints_Add : I3 → I3 → I3) (ints_Sub : I3 → I3 → I3)  : Tr (Bool) :=
  Tr.br
    (and ((ints_Mul (ints_Make 1 2) (ints_Make (-3) 4)).e == (ints_Make (-6) 8).e)
      (and ((ints_Mul (ints_Make 1 2) (ints_Make (-3) 4)).lo == (ints_Make (-6) 8).lo)
        (and ((ints_Mul (ints_Make 1 2) (ints_Make (-3) 4)).hi == (ints_Make (-6) 8).hi) true)))
    (Tr.br
      (and ((ints_Div (ints_Make (-7) 7) (ints_Make (-2) 3)).e == (ints_Make (-7) 7).e)
        (and ((ints_Div (ints_Make (-7) 7) (ints_Make (-2) 3)).lo == (ints_Make (-7) 7).lo)
          (and ((ints_Div (ints_Make (-7) 7) (ints_Make (-2) 3)).hi == (ints_Make (-7) 7).hi) true)))
      (Tr.br (ints_Div (ints_Point 5) (ints_Point 0)).e
        (Tr.br
          (and ((ints_Test 12 (ints_Make 0 3) (ints_Point 3)).fst.e == (ints_Make 0 2).e)
            (and ((ints_Test 12 (ints_Make 0 3) (ints_Point 3)).fst.lo == (ints_Make 0 2).lo)
              (and ((ints_Test 12 (ints_Make 0 3) (ints_Point 3)).fst.hi == (ints_Make 0 2).hi) true)))
          (Tr.br
            (and ((ints_Test 12 (ints_Make 0 3) (ints_Point 3)).snd.e == (ints_Point 3).e)
              (and ((ints_Test 12 (ints_Make 0 3) (ints_Point 3)).snd.lo == (ints_Point 3).lo)
                (and ((ints_Test 12 (ints_Make 0 3) (ints_Point 3)).snd.hi == (ints_Point 3).hi) true)))
            (Tr.br
              (and (ints_Full.e == (ints_Make (-2147483648) 2147483647).e)
                (and (ints_Full.lo == (ints_Make (-2147483648) 2147483647).lo)
                  (and (ints_Full.hi == (ints_Make (-2147483648) 2147483647).hi) true)))
              (Tr.br (ints_Has (ints_Mul (ints_Make 1 2) (ints_Make (-3) 4)) 8)
                (Tr.br (!ints_Has (ints_Mul (ints_Make 1 2) (ints_Make (-3) 4)) 9)
                  (Tr.br
                    (ints_Inside (ints_Test 12 (ints_Make 0 3) (ints_Point 3)).fst
                      (ints_Mul (ints_Make 1 2) (ints_Make (-3) 4)))
                    (Tr.br
                      (and ((ints_Join2 (ints_Test 12 (ints_Make 0 3) (ints_Point 3))).e == (ints_Make 0 3).e)
                        (and ((ints_Join2 (ints_Test 12 (ints_Make 0 3) (ints_Point 3))).lo == (ints_Make 0 3).lo)
                          (and ((ints_Join2 (ints_Test 12 (ints_Make 0 3) (ints_Point 3))).hi == (ints_Make 0 3).hi)
                            true)))
                      (Tr.br
                        (and
                          ((ints_Meet (ints_Mul (ints_Make 1 2) (ints_Make (-3) 4))
                                (ints_Test 12 (ints_Make 0 3) (ints_Point 3)).snd).e ==
                            (ints_Test 12 (ints_Make 0 3) (ints_Point 3)).snd.e)
                          (and
                            ((ints_Meet (ints_Mul (ints_Make 1 2) (ints_Make (-3) 4))
                                  (ints_Test 12 (ints_Make 0 3) (ints_Point 3)).snd).lo ==
                              (ints_Test 12 (ints_Make 0 3) (ints_Point 3)).snd.lo)
                            (and
                              ((ints_Meet (ints_Mul (ints_Make 1 2) (ints_Make (-3) 4))
                                    (ints_Test 12 (ints_Make 0 3) (ints_Point 3)).snd).hi ==
                                (ints_Test 12 (ints_Make 0 3) (ints_Point 3)).snd.hi)
                              true)))
                        (Tr.br
                          (and ((ints_Abs (ints_Mul (ints_Make 1 2) (ints_Make (-3) 4))).e == (ints_Make 0 8).e)
                            (and ((ints_Abs (ints_Mul (ints_Make 1 2) (ints_Make (-3) 4))).lo == (ints_Make 0 8).lo)
                              (and ((ints_Abs (ints_Mul (ints_Make 1 2) (ints_Make (-3) 4))).hi == (ints_Make 0 8).hi)
                                true)))
                          (Tr.br
                            (and ((ints_Neg (ints_Mul (ints_Make 1 2) (ints_Make (-3) 4))).e == (ints_Make (-8) 6).e)
                              (and ((ints_Neg (ints_Mul (ints_Make 1 2) (ints_Make (-3) 4))).lo == (ints_Make (-8) 6).lo)
                                (and
                                  ((ints_Neg (ints_Mul (ints_Make 1 2) (ints_Make (-3) 4))).hi == (ints_Make (-8) 6).hi)
                                  true)))
                            (Tr.br
                              (and
                                ((ints_Add (ints_Test 12 (ints_Make 0 3) (ints_Point 3)).fst
                                      (ints_Test 12 (ints_Make 0 3) (ints_Point 3)).snd).e ==
                                  (ints_Make 3 5).e)
                                (and
                                  ((ints_Add (ints_Test 12 (ints_Make 0 3) (ints_Point 3)).fst
                                        (ints_Test 12 (ints_Make 0 3) (ints_Point 3)).snd).lo ==
                                    (ints_Make 3 5).lo)
                                  (and
                                    ((ints_Add (ints_Test 12 (ints_Make 0 3) (ints_Point 3)).fst
                                          (ints_Test 12 (ints_Make 0 3) (ints_Point 3)).snd).hi ==
                                      (ints_Make 3 5).hi)
                                    true)))
                              (Tr.leaf
                                ((ints_Sub (ints_Test 12 (ints_Make 0 3) (ints_Point 3)).fst
                                        (ints_Test 12 (ints_Make 0 3) (ints_Point 3)).snd).e ==
                                    (ints_Make (-3) (-1)).e &&
                                  ((ints_Sub (ints_Test 12 (ints_Make 0 3) (ints_Point 3)).fst
                                          (ints_Test 12 (ints_Make 0 3) (ints_Point 3)).snd).lo ==
                                      (ints_Make (-3) (-1)).lo &&
                                    ((ints_Sub (ints_Test 12 (ints_Make 0 3) (ints_Point 3)).fst
                                            (ints_Test 12 (ints_Make 0 3) (ints_Point 3)).snd).hi ==
                                        (ints_Make (-3) (-1)).hi &&
                                      true))))
                              (Tr.leaf false))
                            (Tr.leaf false))
                          (Tr.leaf false))
                        (Tr.leaf false))
                      (Tr.leaf false))
                    (Tr.leaf false))
                  (Tr.leaf false))
                (Tr.leaf false))
              (Tr.leaf false))
            (Tr.leaf false))
          (Tr.leaf false))
        (Tr.leaf false))
      (Tr.leaf false))
    (Tr.leaf false)
def l17_works_t  : Tr (Bool) := l17_works_T ints_Make ints_Mul ints_Div ints_Point ints_Test ints_Full ints_Has ints_Inside ints_Join2 ints_Meet ints_Abs ints_Neg ints_Add ints_Sub 
def l17_works  : Bool := (l17_works_t ).val
theorem l17_works_ev (ints_Make : Int → Int → I3) (ints_Mul : I3 → I3 → I3) (ints_Div : I3 → I3 → I3) (ints_Point : Int → I3) (ints_Test : Int → I3 → I3 → I3 × I3) (ints_Full : I3) (ints_Has : I3 → Int → Bool) (ints_Inside : I3 → I3 → Bool) (ints_Join2 : (I3 × I3) → I3) (ints_Join1 : I3 → I3) (ints_Join0 : Unit → I3) (ints_Meet : I3 → I3 → I3) (ints_Abs : I3 → I3) (ints_Neg : I3 → I3) (ints_Add : I3 → I3 → I3) (ints_Sub : I3 → I3 → I3)  (Q : AV → Prop) : evF Try.prog (mkC [(37, (sumT (aCons (cInt .i64) (aOne (cInt .i64))) fun x => (o1 (cI3)).enc (ints_Make x.1 x.2))), (53, (sumT (aCons (cI3) (aOne (cI3))) fun x => (o1 (cI3)).enc (ints_Mul x.1 x.2))), (54, (sumT (aCons (cI3) (aOne (cI3))) fun x => (o1 (cI3)).enc (ints_Div x.1 x.2))), (35, (sumT (aOne (cInt .i64)) fun x => (o1 (cI3)).enc (ints_Point x))), (69, (sumT (aCons (cInt .u8) (aCons (cI3) (aOne (cI3)))) fun x => (o2 (cI3) (cI3)).enc (ints_Test x.1 x.2.1 x.2.2))), (60, (sumT aNil fun _ => (o1 (cI3)).enc (ints_Full ))), (36, (sumT (aCons (cI3) (aOne (cInt .i64))) fun x => (o1 (cBool)).enc (ints_Has x.1 x.2))), (41, (sumT (aCons (cI3) (aOne (cI3))) fun x => (o1 (cBool)).enc (ints_Inside x.1 x.2))), (43, (orS (sumT (aOne (cLit ecI3 to2 of2 l2)) fun x => (o1 (cI3)).enc (ints_Join2 x)) (orS (sumT (aOne (cLit ecI3 to1 of1 l1)) fun x => (o1 (cI3)).enc (ints_Join1 x)) (sumT (aOne (cLit ecI3 to0 of0 l0)) fun x => (o1 (cI3)).enc (ints_Join0 x))))), (45, (sumT (aCons (cI3) (aOne (cI3))) fun x => (o1 (cI3)).enc (ints_Meet x.1 x.2))), (50, (sumT (aOne (cI3)) fun x => (o1 (cI3)).enc (ints_Abs x))), (48, (sumT (aOne (cI3)) fun x => (o1 (cI3)).enc (ints_Neg x))), (51, (sumT (aCons (cI3) (aOne (cI3))) fun x => (o1 (cI3)).enc (ints_Add x.1 x.2))), (52, (sumT (aCons (cI3) (aOne (cI3))) fun x => (o1 (cI3)).enc (ints_Sub x.1 x.2)))]) noL 60 Try.f38 (aNil.enc ()) Q = (l17_works_T ints_Make ints_Mul ints_Div ints_Point ints_Test ints_Full ints_Has ints_Inside ints_Join2 ints_Meet ints_Abs ints_Neg ints_Add ints_Sub ).prop (fun x => Q ((o1 (cBool)).enc x)) := by kernel_rfl
theorem l17_works_c (x : Unit) (w : World) (vs : Array Value) (hp : ArgsR (aNil.enc x) w vs) : Calls Try.prog 38 vs w (Ans ((o1 (cBool)).enc (l17_works )) w) :=
  contractT mixed (AllGood.cons ints_Make_ok (AllGood.cons ints_Mul_ok (AllGood.cons ints_Div_ok (AllGood.cons ints_Point_ok (AllGood.cons ints_Test_ok (AllGood.cons ints_Full_ok (AllGood.cons ints_Has_ok (AllGood.cons ints_Inside_ok (AllGood.cons (good_or ints_Join2_ok (good_or ints_Join1_ok ints_Join0_ok)) (AllGood.cons ints_Meet_ok (AllGood.cons ints_Abs_ok (AllGood.cons ints_Neg_ok (AllGood.cons ints_Add_ok (AllGood.cons ints_Sub_ok AllGood.nil)))))))))))))) Try.func38 (fun _ _ _ _ => noL_ok) (Tr.safe_of (t := l17_works_t ) rfl) (l17_works_ev ints_Make ints_Mul ints_Div ints_Point ints_Test ints_Full ints_Has ints_Inside ints_Join2 ints_Join1 ints_Join0 ints_Meet ints_Abs ints_Neg ints_Add ints_Sub ) w vs hp
theorem l17_works_ok : GoodF Try.prog 38 (sumT aNil fun _ => (o1 (cBool)).enc (l17_works )) :=
  good_sumT (callable_of Try.func38 (by kernel_rfl) (by kernel_rfl)) l17_works_c
/-! flyball/flyballlaw17.of -/
def l17_of_T (ints_Has : I3 → Int → Bool) (s : I3) (n : Int) : Tr (Int × Bool) :=
  Tr.br (ints_Has s n)
    (Tr.br (decide (n > -2147483648))
      (Tr.br (decide (n < 2147483648)) (Tr.leaf (n, true))
        (Tr.br (decide (s.lo > -2147483648))
          (Tr.br (decide (s.lo < 2147483648))
            (Tr.br (ints_Has s s.lo) (Tr.leaf (s.lo, true))
              (Tr.br (decide (s.hi > -2147483648))
                (Tr.br (decide (s.hi < 2147483648))
                  (Tr.br (ints_Has s s.hi) (Tr.leaf (s.hi, true)) (Tr.leaf (0, ints_Has s 0)))
                  (Tr.leaf (0, ints_Has s 0)))
                (Tr.leaf (0, ints_Has s 0))))
            (Tr.br (decide (s.hi > -2147483648))
              (Tr.br (decide (s.hi < 2147483648))
                (Tr.br (ints_Has s s.hi) (Tr.leaf (s.hi, true)) (Tr.leaf (0, ints_Has s 0))) (Tr.leaf (0, ints_Has s 0)))
              (Tr.leaf (0, ints_Has s 0))))
          (Tr.br (decide (s.hi > -2147483648))
            (Tr.br (decide (s.hi < 2147483648))
              (Tr.br (ints_Has s s.hi) (Tr.leaf (s.hi, true)) (Tr.leaf (0, ints_Has s 0))) (Tr.leaf (0, ints_Has s 0)))
            (Tr.leaf (0, ints_Has s 0)))))
      (Tr.br (decide (s.lo > -2147483648))
        (Tr.br (decide (s.lo < 2147483648))
          (Tr.br (ints_Has s s.lo) (Tr.leaf (s.lo, true))
            (Tr.br (decide (s.hi > -2147483648))
              (Tr.br (decide (s.hi < 2147483648))
                (Tr.br (ints_Has s s.hi) (Tr.leaf (s.hi, true)) (Tr.leaf (0, ints_Has s 0))) (Tr.leaf (0, ints_Has s 0)))
              (Tr.leaf (0, ints_Has s 0))))
          (Tr.br (decide (s.hi > -2147483648))
            (Tr.br (decide (s.hi < 2147483648))
              (Tr.br (ints_Has s s.hi) (Tr.leaf (s.hi, true)) (Tr.leaf (0, ints_Has s 0))) (Tr.leaf (0, ints_Has s 0)))
            (Tr.leaf (0, ints_Has s 0))))
        (Tr.br (decide (s.hi > -2147483648))
          (Tr.br (decide (s.hi < 2147483648)) (Tr.br (ints_Has s s.hi) (Tr.leaf (s.hi, true)) (Tr.leaf (0, ints_Has s 0)))
            (Tr.leaf (0, ints_Has s 0)))
          (Tr.leaf (0, ints_Has s 0)))))
    (Tr.br (decide (s.lo > -2147483648))
      (Tr.br (decide (s.lo < 2147483648))
        (Tr.br (ints_Has s s.lo) (Tr.leaf (s.lo, true))
          (Tr.br (decide (s.hi > -2147483648))
            (Tr.br (decide (s.hi < 2147483648))
              (Tr.br (ints_Has s s.hi) (Tr.leaf (s.hi, true)) (Tr.leaf (0, ints_Has s 0))) (Tr.leaf (0, ints_Has s 0)))
            (Tr.leaf (0, ints_Has s 0))))
        (Tr.br (decide (s.hi > -2147483648))
          (Tr.br (decide (s.hi < 2147483648)) (Tr.br (ints_Has s s.hi) (Tr.leaf (s.hi, true)) (Tr.leaf (0, ints_Has s 0)))
            (Tr.leaf (0, ints_Has s 0)))
          (Tr.leaf (0, ints_Has s 0))))
      (Tr.br (decide (s.hi > -2147483648))
        (Tr.br (decide (s.hi < 2147483648)) (Tr.br (ints_Has s s.hi) (Tr.leaf (s.hi, true)) (Tr.leaf (0, ints_Has s 0)))
          (Tr.leaf (0, ints_Has s 0)))
        (Tr.leaf (0, ints_Has s 0))))
def l17_of_t (s : I3) (n : Int) : Tr (Int × Bool) := l17_of_T ints_Has s n
def l17_of (s : I3) (n : Int) : Int × Bool := (l17_of_t s n).val
theorem l17_of_ev (ints_Has : I3 → Int → Bool) (s : I3) (n : Int) (Q : AV → Prop) : evF Try.prog (mkC [(36, (sumT (aCons (cI3) (aOne (cInt .i64))) fun x => (o1 (cBool)).enc (ints_Has x.1 x.2)))]) noL 60 Try.f55 ((aCons (cI3) (aOne (cInt .i64))).enc (s, n)) Q = (l17_of_T ints_Has s n).prop (fun x => Q ((o2 (cInt .i64) (cBool)).enc x)) := by kernel_rfl
theorem l17_of_c (x : I3 × Int) (w : World) (vs : Array Value) (hp : ArgsR ((aCons (cI3) (aOne (cInt .i64))).enc x) w vs) : Calls Try.prog 55 vs w (Ans ((o2 (cInt .i64) (cBool)).enc (l17_of x.1 x.2)) w) :=
  contractT mixed (AllGood.cons ints_Has_ok AllGood.nil) Try.func55 (fun _ _ _ _ => noL_ok) (Tr.safe_of (t := l17_of_t x.1 x.2) rfl) (l17_of_ev ints_Has x.1 x.2) w vs hp
theorem l17_of_ok : GoodF Try.prog 55 (sumT (aCons (cI3) (aOne (cInt .i64))) fun x => (o2 (cInt .i64) (cBool)).enc (l17_of x.1 x.2)) :=
  good_sumT (callable_of Try.func55 (by kernel_rfl) (by kernel_rfl)) l17_of_c
/-! flyball/flyballlaw17.sumEnd -/
def l17_sumEnd_T  (x : Int) (y : Int) : Tr (Int) :=
  Tr.br (x == 1099511627776) (Tr.leaf x)
    (Tr.br (x == -1099511627776) (Tr.leaf x)
      (Tr.br (y == 1099511627776) (Tr.leaf y)
        (Tr.br (y == -1099511627776) (Tr.leaf y)
          (Tr.leaf (imax (imin (IntKind.i64.wrap (x + y)) 1099511627776) (-1099511627776))))))
def l17_sumEnd_t (x : Int) (y : Int) : Tr (Int) := l17_sumEnd_T  x y
def l17_sumEnd (x : Int) (y : Int) : Int := (l17_sumEnd_t x y).val
theorem l17_sumEnd_ev  (x : Int) (y : Int) (Q : AV → Prop) : evF Try.prog (mkC []) noL 60 Try.f56 ((aCons (cInt .i64) (aOne (cInt .i64))).enc (x, y)) Q = (l17_sumEnd_T  x y).prop (fun x => Q ((o1 (cInt .i64)).enc x)) := by kernel_rfl
theorem l17_sumEnd_c (x : Int × Int) (w : World) (vs : Array Value) (hp : ArgsR ((aCons (cInt .i64) (aOne (cInt .i64))).enc x) w vs) : Calls Try.prog 56 vs w (Ans ((o1 (cInt .i64)).enc (l17_sumEnd x.1 x.2)) w) :=
  contractT mixed AllGood.nil Try.func56 (fun _ _ _ _ => noL_ok) (Tr.safe_of (t := l17_sumEnd_t x.1 x.2) rfl) (l17_sumEnd_ev  x.1 x.2) w vs hp
theorem l17_sumEnd_ok : GoodF Try.prog 56 (sumT (aCons (cInt .i64) (aOne (cInt .i64))) fun x => (o1 (cInt .i64)).enc (l17_sumEnd x.1 x.2)) :=
  good_sumT (callable_of Try.func56 (by kernel_rfl) (by kernel_rfl)) l17_sumEnd_c
/-! flyball/flyballlaw17.IntsMakes -/
def l17_IntsMakes_T (l17_works : Bool) (ints_Make : Int → Int → I3) (ref_Norm : I3 → I3) (ints_Point : Int → I3) (ints_Has : I3 → Int → Bool) (ref_Has : I3 → Int → Bool) (ints_Inside : I3 → I3 → Bool) (ref_Inside : I3 → I3 → Bool) (ints_Join2 : (I3 × I3) → I3) (ints_Join1 : I3 → I3) (ints_Join0 : Unit → I3) (ref_Join : I3 → I3 → I3) (ints_Meet : I3 → I3 → I3) (ref_Meet : I3 → I3 → I3) (a : I3) (b : I3) (n : Int) : Tr (Bool) :=
  Tr.br (!l17_works) (Tr.leaf false)
    (Tr.br
      (and ((ints_Make a.lo a.hi).e == (ref_Norm (I3.mk false a.lo a.hi)).e)
        (and ((ints_Make a.lo a.hi).lo == (ref_Norm (I3.mk false a.lo a.hi)).lo)
          (and ((ints_Make a.lo a.hi).hi == (ref_Norm (I3.mk false a.lo a.hi)).hi) true)))
      (Tr.br (ints_Has a n == ref_Has a n)
        (Tr.br
          (and ((ints_Join2 (a, b)).e == (ref_Join a b).e)
            (and ((ints_Join2 (a, b)).lo == (ref_Join a b).lo) (and ((ints_Join2 (a, b)).hi == (ref_Join a b).hi) true)))
          (Tr.br
            (and ((ints_Meet a b).e == (ref_Meet a b).e)
              (and ((ints_Meet a b).lo == (ref_Meet a b).lo) (and ((ints_Meet a b).hi == (ref_Meet a b).hi) true)))
            (Tr.br
              (and ((ints_Join1 a).e == (ref_Norm a).e)
                (and ((ints_Join1 a).lo == (ref_Norm a).lo) (and ((ints_Join1 a).hi == (ref_Norm a).hi) true)))
              (Tr.br l17_works
                (Tr.br
                  (and ((ints_Point n).e == (ref_Norm (I3.mk false n n)).e)
                    (and ((ints_Point n).lo == (ref_Norm (I3.mk false n n)).lo)
                      (and ((ints_Point n).hi == (ref_Norm (I3.mk false n n)).hi) true)))
                  (Tr.br (ints_Inside a b == ref_Inside a b)
                    (Tr.leaf
                      ((ints_Join0 ()).e == true && ((ints_Join0 ()).lo == 0 && ((ints_Join0 ()).hi == 0 && true))))
                    (Tr.leaf false))
                  (Tr.leaf false))
                (Tr.leaf false))
              (Tr.br l17_works
                (Tr.br
                  (and ((ints_Point n).e == (ref_Norm (I3.mk false n n)).e)
                    (and ((ints_Point n).lo == (ref_Norm (I3.mk false n n)).lo)
                      (and ((ints_Point n).hi == (ref_Norm (I3.mk false n n)).hi) true)))
                  (Tr.br (ints_Inside a b == ref_Inside a b) (Tr.leaf false) (Tr.leaf false)) (Tr.leaf false))
                (Tr.leaf false)))
            (Tr.br l17_works
              (Tr.br
                (and ((ints_Point n).e == (ref_Norm (I3.mk false n n)).e)
                  (and ((ints_Point n).lo == (ref_Norm (I3.mk false n n)).lo)
                    (and ((ints_Point n).hi == (ref_Norm (I3.mk false n n)).hi) true)))
                (Tr.br (ints_Inside a b == ref_Inside a b) (Tr.leaf false) (Tr.leaf false)) (Tr.leaf false))
              (Tr.leaf false)))
          (Tr.br l17_works
            (Tr.br
              (and ((ints_Point n).e == (ref_Norm (I3.mk false n n)).e)
                (and ((ints_Point n).lo == (ref_Norm (I3.mk false n n)).lo)
                  (and ((ints_Point n).hi == (ref_Norm (I3.mk false n n)).hi) true)))
              (Tr.br (ints_Inside a b == ref_Inside a b) (Tr.leaf false) (Tr.leaf false)) (Tr.leaf false))
            (Tr.leaf false)))
        (Tr.br
          (and ((ints_Join2 (a, b)).e == (ref_Join a b).e)
            (and ((ints_Join2 (a, b)).lo == (ref_Join a b).lo) (and ((ints_Join2 (a, b)).hi == (ref_Join a b).hi) true)))
          (Tr.br
            (and ((ints_Meet a b).e == (ref_Meet a b).e)
              (and ((ints_Meet a b).lo == (ref_Meet a b).lo) (and ((ints_Meet a b).hi == (ref_Meet a b).hi) true)))
            (Tr.br
              (and ((ints_Join1 a).e == (ref_Norm a).e)
                (and ((ints_Join1 a).lo == (ref_Norm a).lo) (and ((ints_Join1 a).hi == (ref_Norm a).hi) true)))
              (Tr.br l17_works
                (Tr.br
                  (and ((ints_Point n).e == (ref_Norm (I3.mk false n n)).e)
                    (and ((ints_Point n).lo == (ref_Norm (I3.mk false n n)).lo)
                      (and ((ints_Point n).hi == (ref_Norm (I3.mk false n n)).hi) true)))
                  (Tr.leaf false) (Tr.leaf false))
                (Tr.leaf false))
              (Tr.br l17_works
                (Tr.br
                  (and ((ints_Point n).e == (ref_Norm (I3.mk false n n)).e)
                    (and ((ints_Point n).lo == (ref_Norm (I3.mk false n n)).lo)
                      (and ((ints_Point n).hi == (ref_Norm (I3.mk false n n)).hi) true)))
                  (Tr.leaf false) (Tr.leaf false))
                (Tr.leaf false)))
            (Tr.br l17_works
              (Tr.br
                (and ((ints_Point n).e == (ref_Norm (I3.mk false n n)).e)
                  (and ((ints_Point n).lo == (ref_Norm (I3.mk false n n)).lo)
                    (and ((ints_Point n).hi == (ref_Norm (I3.mk false n n)).hi) true)))
                (Tr.leaf false) (Tr.leaf false))
              (Tr.leaf false)))
          (Tr.br l17_works
            (Tr.br
              (and ((ints_Point n).e == (ref_Norm (I3.mk false n n)).e)
                (and ((ints_Point n).lo == (ref_Norm (I3.mk false n n)).lo)
                  (and ((ints_Point n).hi == (ref_Norm (I3.mk false n n)).hi) true)))
              (Tr.leaf false) (Tr.leaf false))
            (Tr.leaf false))))
      (Tr.br (ints_Has a n == ref_Has a n)
        (Tr.br
          (and ((ints_Join2 (a, b)).e == (ref_Join a b).e)
            (and ((ints_Join2 (a, b)).lo == (ref_Join a b).lo) (and ((ints_Join2 (a, b)).hi == (ref_Join a b).hi) true)))
          (Tr.br
            (and ((ints_Meet a b).e == (ref_Meet a b).e)
              (and ((ints_Meet a b).lo == (ref_Meet a b).lo) (and ((ints_Meet a b).hi == (ref_Meet a b).hi) true)))
            (Tr.br
              (and ((ints_Join1 a).e == (ref_Norm a).e)
                (and ((ints_Join1 a).lo == (ref_Norm a).lo) (and ((ints_Join1 a).hi == (ref_Norm a).hi) true)))
              (Tr.br l17_works (Tr.leaf false) (Tr.leaf false)) (Tr.br l17_works (Tr.leaf false) (Tr.leaf false)))
            (Tr.br l17_works (Tr.leaf false) (Tr.leaf false)))
          (Tr.br l17_works (Tr.leaf false) (Tr.leaf false)))
        (Tr.br
          (and ((ints_Join2 (a, b)).e == (ref_Join a b).e)
            (and ((ints_Join2 (a, b)).lo == (ref_Join a b).lo) (and ((ints_Join2 (a, b)).hi == (ref_Join a b).hi) true)))
          (Tr.br
            (and ((ints_Meet a b).e == (ref_Meet a b).e)
              (and ((ints_Meet a b).lo == (ref_Meet a b).lo) (and ((ints_Meet a b).hi == (ref_Meet a b).hi) true)))
            (Tr.br
              (and ((ints_Join1 a).e == (ref_Norm a).e)
                (and ((ints_Join1 a).lo == (ref_Norm a).lo) (and ((ints_Join1 a).hi == (ref_Norm a).hi) true)))
              (Tr.br l17_works (Tr.leaf false) (Tr.leaf false)) (Tr.br l17_works (Tr.leaf false) (Tr.leaf false)))
            (Tr.br l17_works (Tr.leaf false) (Tr.leaf false)))
          (Tr.br l17_works (Tr.leaf false) (Tr.leaf false)))))
def l17_IntsMakes_t (a : I3) (b : I3) (n : Int) : Tr (Bool) := l17_IntsMakes_T l17_works ints_Make ref_Norm ints_Point ints_Has ref_Has ints_Inside ref_Inside ints_Join2 ints_Join1 ints_Join0 ref_Join ints_Meet ref_Meet a b n
def l17_IntsMakes (a : I3) (b : I3) (n : Int) : Bool := (l17_IntsMakes_t a b n).val
theorem l17_IntsMakes_ev (l17_works : Bool) (ints_Make : Int → Int → I3) (ref_Norm : I3 → I3) (ints_Point : Int → I3) (ints_Has : I3 → Int → Bool) (ref_Has : I3 → Int → Bool) (ints_Inside : I3 → I3 → Bool) (ref_Inside : I3 → I3 → Bool) (ints_Join2 : (I3 × I3) → I3) (ints_Join1 : I3 → I3) (ints_Join0 : Unit → I3) (ref_Join : I3 → I3 → I3) (ints_Meet : I3 → I3 → I3) (ref_Meet : I3 → I3 → I3) (a : I3) (b : I3) (n : Int) (Q : AV → Prop) : evF Try.prog (mkC [(38, (sumT aNil fun _ => (o1 (cBool)).enc (l17_works ))), (37, (sumT (aCons (cInt .i64) (aOne (cInt .i64))) fun x => (o1 (cI3)).enc (ints_Make x.1 x.2))), (39, (sumT (aOne (cI3)) fun x => (o1 (cI3)).enc (ref_Norm x))), (35, (sumT (aOne (cInt .i64)) fun x => (o1 (cI3)).enc (ints_Point x))), (36, (sumT (aCons (cI3) (aOne (cInt .i64))) fun x => (o1 (cBool)).enc (ints_Has x.1 x.2))), (40, (sumT (aCons (cI3) (aOne (cInt .i64))) fun x => (o1 (cBool)).enc (ref_Has x.1 x.2))), (41, (sumT (aCons (cI3) (aOne (cI3))) fun x => (o1 (cBool)).enc (ints_Inside x.1 x.2))), (42, (sumT (aCons (cI3) (aOne (cI3))) fun x => (o1 (cBool)).enc (ref_Inside x.1 x.2))), (43, (orS (sumT (aOne (cLit ecI3 to2 of2 l2)) fun x => (o1 (cI3)).enc (ints_Join2 x)) (orS (sumT (aOne (cLit ecI3 to1 of1 l1)) fun x => (o1 (cI3)).enc (ints_Join1 x)) (sumT (aOne (cLit ecI3 to0 of0 l0)) fun x => (o1 (cI3)).enc (ints_Join0 x))))), (44, (sumT (aCons (cI3) (aOne (cI3))) fun x => (o1 (cI3)).enc (ref_Join x.1 x.2))), (45, (sumT (aCons (cI3) (aOne (cI3))) fun x => (o1 (cI3)).enc (ints_Meet x.1 x.2))), (46, (sumT (aCons (cI3) (aOne (cI3))) fun x => (o1 (cI3)).enc (ref_Meet x.1 x.2)))]) noL 60 Try.f7 ((aCons (cI3) (aCons (cI3) (aOne (cInt .i64)))).enc (a, b, n)) Q = (l17_IntsMakes_T l17_works ints_Make ref_Norm ints_Point ints_Has ref_Has ints_Inside ref_Inside ints_Join2 ints_Join1 ints_Join0 ref_Join ints_Meet ref_Meet a b n).prop (fun x => Q ((o1 (cBool)).enc x)) := by kernel_rfl
theorem l17_IntsMakes_c (x : I3 × I3 × Int) (w : World) (vs : Array Value) (hp : ArgsR ((aCons (cI3) (aCons (cI3) (aOne (cInt .i64)))).enc x) w vs) : Calls Try.prog 7 vs w (Ans ((o1 (cBool)).enc (l17_IntsMakes x.1 x.2.1 x.2.2)) w) :=
  contractT mixed (AllGood.cons l17_works_ok (AllGood.cons ints_Make_ok (AllGood.cons ref_Norm_ok (AllGood.cons ints_Point_ok (AllGood.cons ints_Has_ok (AllGood.cons ref_Has_ok (AllGood.cons ints_Inside_ok (AllGood.cons ref_Inside_ok (AllGood.cons (good_or ints_Join2_ok (good_or ints_Join1_ok ints_Join0_ok)) (AllGood.cons ref_Join_ok (AllGood.cons ints_Meet_ok (AllGood.cons ref_Meet_ok AllGood.nil)))))))))))) Try.func7 (fun _ _ _ _ => noL_ok) (Tr.safe_of (t := l17_IntsMakes_t x.1 x.2.1 x.2.2) rfl) (l17_IntsMakes_ev l17_works ints_Make ref_Norm ints_Point ints_Has ref_Has ints_Inside ref_Inside ints_Join2 ints_Join1 ints_Join0 ref_Join ints_Meet ref_Meet x.1 x.2.1 x.2.2) w vs hp
theorem l17_IntsMakes_ok : GoodF Try.prog 7 (sumT (aCons (cI3) (aCons (cI3) (aOne (cInt .i64)))) fun x => (o1 (cBool)).enc (l17_IntsMakes x.1 x.2.1 x.2.2)) :=
  good_sumT (callable_of Try.func7 (by kernel_rfl) (by kernel_rfl)) l17_IntsMakes_c
/-! flyball/flyballlaw17.IntsEnds -/
def l17_IntsEnds_T (l17_works : Bool) (ints_Join1 : I3 → I3) (ints_Add : I3 → I3 → I3) (ints_Sub : I3 → I3 → I3) (l17_sumEnd : Int → Int → Int) (ints_Neg : I3 → I3) (a : I3) (b : I3) : Tr (Bool) :=
  Tr.br (!l17_works) (Tr.leaf false)
    (Tr.br (ints_Join1 a).e
      (Tr.br l17_works (Tr.br (ints_Add a b).e (Tr.leaf (ints_Sub a b).e) (Tr.leaf false)) (Tr.leaf false))
      (Tr.br (ints_Join1 b).e
        (Tr.br l17_works (Tr.br (ints_Add a b).e (Tr.leaf (ints_Sub a b).e) (Tr.leaf false)) (Tr.leaf false))
        (Tr.br l17_works
          (Tr.br
            (and ((ints_Add a b).e == false)
              (and ((ints_Add a b).lo == imin (l17_sumEnd (ints_Join1 a).lo (ints_Join1 b).lo) 1099511627775)
                (and ((ints_Add a b).hi == imax (l17_sumEnd (ints_Join1 a).hi (ints_Join1 b).hi) (-1099511627775)) true)))
            (Tr.br
              (and ((ints_Sub a b).e == false)
                (and
                  ((ints_Sub a b).lo ==
                    imin (l17_sumEnd (ints_Join1 a).lo (IntKind.i64.wrap (0 - (ints_Join1 b).hi))) 1099511627775)
                  (and
                    ((ints_Sub a b).hi ==
                      imax (l17_sumEnd (ints_Join1 a).hi (IntKind.i64.wrap (0 - (ints_Join1 b).lo))) (-1099511627775))
                    true)))
              (Tr.br ((ints_Neg a).lo == IntKind.i64.wrap (0 - (ints_Join1 a).hi))
                (Tr.leaf ((ints_Neg a).hi == IntKind.i64.wrap (0 - (ints_Join1 a).lo))) (Tr.leaf false))
              (Tr.leaf false))
            (Tr.leaf false))
          (Tr.leaf false))))
def l17_IntsEnds_t (a : I3) (b : I3) : Tr (Bool) := l17_IntsEnds_T l17_works ints_Join1 ints_Add ints_Sub l17_sumEnd ints_Neg a b
def l17_IntsEnds (a : I3) (b : I3) : Bool := (l17_IntsEnds_t a b).val
theorem l17_IntsEnds_ev (l17_works : Bool) (ints_Join2 : (I3 × I3) → I3) (ints_Join1 : I3 → I3) (ints_Join0 : Unit → I3) (ints_Add : I3 → I3 → I3) (ints_Sub : I3 → I3 → I3) (l17_sumEnd : Int → Int → Int) (ints_Neg : I3 → I3) (a : I3) (b : I3) (Q : AV → Prop) : evF Try.prog (mkC [(38, (sumT aNil fun _ => (o1 (cBool)).enc (l17_works ))), (43, (orS (sumT (aOne (cLit ecI3 to2 of2 l2)) fun x => (o1 (cI3)).enc (ints_Join2 x)) (orS (sumT (aOne (cLit ecI3 to1 of1 l1)) fun x => (o1 (cI3)).enc (ints_Join1 x)) (sumT (aOne (cLit ecI3 to0 of0 l0)) fun x => (o1 (cI3)).enc (ints_Join0 x))))), (51, (sumT (aCons (cI3) (aOne (cI3))) fun x => (o1 (cI3)).enc (ints_Add x.1 x.2))), (52, (sumT (aCons (cI3) (aOne (cI3))) fun x => (o1 (cI3)).enc (ints_Sub x.1 x.2))), (56, (sumT (aCons (cInt .i64) (aOne (cInt .i64))) fun x => (o1 (cInt .i64)).enc (l17_sumEnd x.1 x.2))), (48, (sumT (aOne (cI3)) fun x => (o1 (cI3)).enc (ints_Neg x)))]) noL 60 Try.f11 ((aCons (cI3) (aOne (cI3))).enc (a, b)) Q = (l17_IntsEnds_T l17_works ints_Join1 ints_Add ints_Sub l17_sumEnd ints_Neg a b).prop (fun x => Q ((o1 (cBool)).enc x)) := by kernel_rfl
theorem l17_IntsEnds_c (x : I3 × I3) (w : World) (vs : Array Value) (hp : ArgsR ((aCons (cI3) (aOne (cI3))).enc x) w vs) : Calls Try.prog 11 vs w (Ans ((o1 (cBool)).enc (l17_IntsEnds x.1 x.2)) w) :=
  contractT mixed (AllGood.cons l17_works_ok (AllGood.cons (good_or ints_Join2_ok (good_or ints_Join1_ok ints_Join0_ok)) (AllGood.cons ints_Add_ok (AllGood.cons ints_Sub_ok (AllGood.cons l17_sumEnd_ok (AllGood.cons ints_Neg_ok AllGood.nil)))))) Try.func11 (fun _ _ _ _ => noL_ok) (Tr.safe_of (t := l17_IntsEnds_t x.1 x.2) rfl) (l17_IntsEnds_ev l17_works ints_Join2 ints_Join1 ints_Join0 ints_Add ints_Sub l17_sumEnd ints_Neg x.1 x.2) w vs hp
theorem l17_IntsEnds_ok : GoodF Try.prog 11 (sumT (aCons (cI3) (aOne (cI3))) fun x => (o1 (cBool)).enc (l17_IntsEnds x.1 x.2)) :=
  good_sumT (callable_of Try.func11 (by kernel_rfl) (by kernel_rfl)) l17_IntsEnds_c
/-! flyball/flyballlaw17.IntsOrder -/
def l17_IntsOrder_T (l17_works : Bool) (ints_Join2 : (I3 × I3) → I3) (ints_Meet : I3 → I3 → I3) (ints_Inside : I3 → I3 → Bool) (ints_Add : I3 → I3 → I3) (ints_Sub : I3 → I3 → I3) (ints_Mul : I3 → I3 → I3) (ints_Div : I3 → I3 → I3) (ints_Abs : I3 → I3) (ints_Neg : I3 → I3) (a : I3) (b : I3) (c : I3) (d : I3) : Tr (Bool) :=
  Tr.br (!l17_works) (Tr.leaf false)
    (Tr.br l17_works
      (Tr.br (ints_Inside a (ints_Join2 (a, c)))
        (Tr.br (ints_Inside (ints_Meet a c) a)
          (Tr.br (ints_Inside (ints_Meet a c) c)
            (Tr.br (ints_Inside (ints_Add a b) (ints_Add (ints_Join2 (a, c)) (ints_Join2 (b, d))))
              (Tr.br (ints_Inside (ints_Sub a b) (ints_Sub (ints_Join2 (a, c)) (ints_Join2 (b, d))))
                (Tr.br (ints_Inside (ints_Mul a b) (ints_Mul (ints_Join2 (a, c)) (ints_Join2 (b, d))))
                  (Tr.br (ints_Inside (ints_Div a b) (ints_Div (ints_Join2 (a, c)) (ints_Join2 (b, d))))
                    (Tr.br (ints_Inside (ints_Abs a) (ints_Abs (ints_Join2 (a, c))))
                      (Tr.leaf (ints_Inside (ints_Neg a) (ints_Neg (ints_Join2 (a, c))))) (Tr.leaf false))
                    (Tr.leaf false))
                  (Tr.leaf false))
                (Tr.leaf false))
              (Tr.leaf false))
            (Tr.leaf false))
          (Tr.leaf false))
        (Tr.leaf false))
      (Tr.leaf false))
def l17_IntsOrder_t (a : I3) (b : I3) (c : I3) (d : I3) : Tr (Bool) := l17_IntsOrder_T l17_works ints_Join2 ints_Meet ints_Inside ints_Add ints_Sub ints_Mul ints_Div ints_Abs ints_Neg a b c d
def l17_IntsOrder (a : I3) (b : I3) (c : I3) (d : I3) : Bool := (l17_IntsOrder_t a b c d).val
theorem l17_IntsOrder_ev (l17_works : Bool) (ints_Join2 : (I3 × I3) → I3) (ints_Join1 : I3 → I3) (ints_Join0 : Unit → I3) (ints_Meet : I3 → I3 → I3) (ints_Inside : I3 → I3 → Bool) (ints_Add : I3 → I3 → I3) (ints_Sub : I3 → I3 → I3) (ints_Mul : I3 → I3 → I3) (ints_Div : I3 → I3 → I3) (ints_Abs : I3 → I3) (ints_Neg : I3 → I3) (a : I3) (b : I3) (c : I3) (d : I3) (Q : AV → Prop) : evF Try.prog (mkC [(38, (sumT aNil fun _ => (o1 (cBool)).enc (l17_works ))), (43, (orS (sumT (aOne (cLit ecI3 to2 of2 l2)) fun x => (o1 (cI3)).enc (ints_Join2 x)) (orS (sumT (aOne (cLit ecI3 to1 of1 l1)) fun x => (o1 (cI3)).enc (ints_Join1 x)) (sumT (aOne (cLit ecI3 to0 of0 l0)) fun x => (o1 (cI3)).enc (ints_Join0 x))))), (45, (sumT (aCons (cI3) (aOne (cI3))) fun x => (o1 (cI3)).enc (ints_Meet x.1 x.2))), (41, (sumT (aCons (cI3) (aOne (cI3))) fun x => (o1 (cBool)).enc (ints_Inside x.1 x.2))), (51, (sumT (aCons (cI3) (aOne (cI3))) fun x => (o1 (cI3)).enc (ints_Add x.1 x.2))), (52, (sumT (aCons (cI3) (aOne (cI3))) fun x => (o1 (cI3)).enc (ints_Sub x.1 x.2))), (53, (sumT (aCons (cI3) (aOne (cI3))) fun x => (o1 (cI3)).enc (ints_Mul x.1 x.2))), (54, (sumT (aCons (cI3) (aOne (cI3))) fun x => (o1 (cI3)).enc (ints_Div x.1 x.2))), (50, (sumT (aOne (cI3)) fun x => (o1 (cI3)).enc (ints_Abs x))), (48, (sumT (aOne (cI3)) fun x => (o1 (cI3)).enc (ints_Neg x)))]) noL 60 Try.f10 ((aCons (cI3) (aCons (cI3) (aCons (cI3) (aOne (cI3))))).enc (a, b, c, d)) Q = (l17_IntsOrder_T l17_works ints_Join2 ints_Meet ints_Inside ints_Add ints_Sub ints_Mul ints_Div ints_Abs ints_Neg a b c d).prop (fun x => Q ((o1 (cBool)).enc x)) := by kernel_rfl
theorem l17_IntsOrder_c (x : I3 × I3 × I3 × I3) (w : World) (vs : Array Value) (hp : ArgsR ((aCons (cI3) (aCons (cI3) (aCons (cI3) (aOne (cI3))))).enc x) w vs) : Calls Try.prog 10 vs w (Ans ((o1 (cBool)).enc (l17_IntsOrder x.1 x.2.1 x.2.2.1 x.2.2.2)) w) :=
  contractT mixed (AllGood.cons l17_works_ok (AllGood.cons (good_or ints_Join2_ok (good_or ints_Join1_ok ints_Join0_ok)) (AllGood.cons ints_Meet_ok (AllGood.cons ints_Inside_ok (AllGood.cons ints_Add_ok (AllGood.cons ints_Sub_ok (AllGood.cons ints_Mul_ok (AllGood.cons ints_Div_ok (AllGood.cons ints_Abs_ok (AllGood.cons ints_Neg_ok AllGood.nil)))))))))) Try.func10 (fun _ _ _ _ => noL_ok) (Tr.safe_of (t := l17_IntsOrder_t x.1 x.2.1 x.2.2.1 x.2.2.2) rfl) (l17_IntsOrder_ev l17_works ints_Join2 ints_Join1 ints_Join0 ints_Meet ints_Inside ints_Add ints_Sub ints_Mul ints_Div ints_Abs ints_Neg x.1 x.2.1 x.2.2.1 x.2.2.2) w vs hp
theorem l17_IntsOrder_ok : GoodF Try.prog 10 (sumT (aCons (cI3) (aCons (cI3) (aCons (cI3) (aOne (cI3))))) fun x => (o1 (cBool)).enc (l17_IntsOrder x.1 x.2.1 x.2.2.1 x.2.2.2)) :=
  good_sumT (callable_of Try.func10 (by kernel_rfl) (by kernel_rfl)) l17_IntsOrder_c
/-! flyball/flyballlaw17.IntsSound -/
def l17_IntsSound_T (l17_works : Bool) (l17_of : I3 → Int → Int × Bool) (ints_Add : I3 → I3 → I3) (ints_Has : I3 → Int → Bool) (ints_Sub : I3 → I3 → I3) (ints_Mul : I3 → I3 → I3) (ints_Neg : I3 → I3) (ints_Abs : I3 → I3) (ints_Div : I3 → I3 → I3) (a : I3) (b : I3) (n : Int) (m : Int) : Tr (Bool) :=
  Tr.br (!l17_works) (Tr.leaf false)
    (Tr.br (!(l17_of a n).snd) (Tr.leaf l17_works)
      (Tr.br (!(l17_of b m).snd) (Tr.leaf l17_works)
        (Tr.br (decide ((l17_of a n).fst < 0))
          (Tr.br (ints_Has (ints_Add a b) (IntKind.i64.wrap ((l17_of a n).fst + (l17_of b m).fst)))
            (Tr.br (ints_Has (ints_Sub a b) (IntKind.i64.wrap ((l17_of a n).fst - (l17_of b m).fst)))
              (Tr.br (ints_Has (ints_Mul a b) (IntKind.i64.wrap ((l17_of a n).fst * (l17_of b m).fst)))
                (Tr.br (ints_Has (ints_Neg a) (IntKind.i64.wrap (0 - (l17_of a n).fst)))
                  (Tr.br l17_works
                    (Tr.br (ints_Has (ints_Abs a) (IntKind.i64.wrap (0 - (l17_of a n).fst)))
                      (Tr.br ((l17_of b m).fst == 0) (Tr.leaf true)
                        (Tr.ast (!(l17_of b m).fst == 0)
                          (Tr.leaf
                            (ints_Has (ints_Div a b) (IntKind.i64.wrap ((l17_of a n).fst.tdiv (l17_of b m).fst))))))
                      (Tr.leaf false))
                    (Tr.leaf false))
                  (Tr.br l17_works (Tr.leaf false) (Tr.leaf false)))
                (Tr.br l17_works (Tr.leaf false) (Tr.leaf false)))
              (Tr.br l17_works (Tr.leaf false) (Tr.leaf false)))
            (Tr.br l17_works (Tr.leaf false) (Tr.leaf false)))
          (Tr.br (ints_Has (ints_Add a b) (IntKind.i64.wrap ((l17_of a n).fst + (l17_of b m).fst)))
            (Tr.br (ints_Has (ints_Sub a b) (IntKind.i64.wrap ((l17_of a n).fst - (l17_of b m).fst)))
              (Tr.br (ints_Has (ints_Mul a b) (IntKind.i64.wrap ((l17_of a n).fst * (l17_of b m).fst)))
                (Tr.br (ints_Has (ints_Neg a) (IntKind.i64.wrap (0 - (l17_of a n).fst)))
                  (Tr.br l17_works
                    (Tr.br (ints_Has (ints_Abs a) (l17_of a n).fst)
                      (Tr.br ((l17_of b m).fst == 0) (Tr.leaf true)
                        (Tr.ast (!(l17_of b m).fst == 0)
                          (Tr.leaf
                            (ints_Has (ints_Div a b) (IntKind.i64.wrap ((l17_of a n).fst.tdiv (l17_of b m).fst))))))
                      (Tr.leaf false))
                    (Tr.leaf false))
                  (Tr.br l17_works (Tr.leaf false) (Tr.leaf false)))
                (Tr.br l17_works (Tr.leaf false) (Tr.leaf false)))
              (Tr.br l17_works (Tr.leaf false) (Tr.leaf false)))
            (Tr.br l17_works (Tr.leaf false) (Tr.leaf false))))))
def l17_IntsSound_t (a : I3) (b : I3) (n : Int) (m : Int) : Tr (Bool) := l17_IntsSound_T l17_works l17_of ints_Add ints_Has ints_Sub ints_Mul ints_Neg ints_Abs ints_Div a b n m
def l17_IntsSound (a : I3) (b : I3) (n : Int) (m : Int) : Bool := (l17_IntsSound_t a b n m).val
theorem l17_IntsSound_ev (l17_works : Bool) (l17_of : I3 → Int → Int × Bool) (ints_Add : I3 → I3 → I3) (ints_Has : I3 → Int → Bool) (ints_Sub : I3 → I3 → I3) (ints_Mul : I3 → I3 → I3) (ints_Neg : I3 → I3) (ints_Abs : I3 → I3) (ints_Div : I3 → I3 → I3) (a : I3) (b : I3) (n : Int) (m : Int) (Q : AV → Prop) : evF Try.prog (mkC [(38, (sumT aNil fun _ => (o1 (cBool)).enc (l17_works ))), (55, (sumT (aCons (cI3) (aOne (cInt .i64))) fun x => (o2 (cInt .i64) (cBool)).enc (l17_of x.1 x.2))), (51, (sumT (aCons (cI3) (aOne (cI3))) fun x => (o1 (cI3)).enc (ints_Add x.1 x.2))), (36, (sumT (aCons (cI3) (aOne (cInt .i64))) fun x => (o1 (cBool)).enc (ints_Has x.1 x.2))), (52, (sumT (aCons (cI3) (aOne (cI3))) fun x => (o1 (cI3)).enc (ints_Sub x.1 x.2))), (53, (sumT (aCons (cI3) (aOne (cI3))) fun x => (o1 (cI3)).enc (ints_Mul x.1 x.2))), (48, (sumT (aOne (cI3)) fun x => (o1 (cI3)).enc (ints_Neg x))), (50, (sumT (aOne (cI3)) fun x => (o1 (cI3)).enc (ints_Abs x))), (54, (sumT (aCons (cI3) (aOne (cI3))) fun x => (o1 (cI3)).enc (ints_Div x.1 x.2)))]) noL 60 Try.f9 ((aCons (cI3) (aCons (cI3) (aCons (cInt .i64) (aOne (cInt .i64))))).enc (a, b, n, m)) Q = (l17_IntsSound_T l17_works l17_of ints_Add ints_Has ints_Sub ints_Mul ints_Neg ints_Abs ints_Div a b n m).prop (fun x => Q ((o1 (cBool)).enc x)) := by kernel_rfl
def l17_IntsSound_s (a : I3) (b : I3) (n : Int) (m : Int) : Bool := (l17_IntsSound_t a b n m).safe
theorem l17_IntsSound_c (x : I3 × I3 × Int × Int) (hs : l17_IntsSound_s x.1 x.2.1 x.2.2.1 x.2.2.2 = true) (w : World) (vs : Array Value) (hp : ArgsR ((aCons (cI3) (aCons (cI3) (aCons (cInt .i64) (aOne (cInt .i64))))).enc x) w vs) : Calls Try.prog 9 vs w (Ans ((o1 (cBool)).enc (l17_IntsSound x.1 x.2.1 x.2.2.1 x.2.2.2)) w) :=
  contractT mixed (AllGood.cons l17_works_ok (AllGood.cons l17_of_ok (AllGood.cons ints_Add_ok (AllGood.cons ints_Has_ok (AllGood.cons ints_Sub_ok (AllGood.cons ints_Mul_ok (AllGood.cons ints_Neg_ok (AllGood.cons ints_Abs_ok (AllGood.cons ints_Div_ok AllGood.nil))))))))) Try.func9 (fun _ _ _ _ => noL_ok) hs (l17_IntsSound_ev l17_works l17_of ints_Add ints_Has ints_Sub ints_Mul ints_Neg ints_Abs ints_Div x.1 x.2.1 x.2.2.1 x.2.2.2) w vs hp
theorem l17_IntsSound_ok : GoodF Try.prog 9 (sumOf (aCons (cI3) (aCons (cI3) (aCons (cInt .i64) (aOne (cInt .i64))))) (fun x => l17_IntsSound_s x.1 x.2.1 x.2.2.1 x.2.2.2) fun x => (o1 (cBool)).enc (l17_IntsSound x.1 x.2.1 x.2.2.1 x.2.2.2)) :=
  good_sum (callable_of Try.func9 (by kernel_rfl) (by kernel_rfl)) l17_IntsSound_c
end Go.Proofs.Ytfbpklopnnnniaa
