/- Layer 4: what the laws compute, as definitions. Conditions: none. -/
import Derived.Test.YtggmmkdfgjnjfaaPd
namespace Go.Fb
open Go.Ev
def l4_works_T (p_Make : Bool → Int → Int → Int × Int) (p_Parts : Int → Bool × Int × Int) (p_Split : Int → Int × Int) (p_Value : Int → RR × Bool) (p_Value_s : Int → Bool) (p_Cmp : Int → Int → Int × Bool) (q_Text : RR → (List UInt8)) (q_Text_s : RR → Bool) (p_Next : Int → Int) (p_Prev : Int → Int) (p_Class : Int → Int) (p_Less : Int → Int → Bool) (p_Neg : Int → Int) (p_Abs : Int → Int) (p_Inf : Bool → Int) (p_Quiet : Int) (p_Max : (List Int) → Int) (p_Max_s : (List Int) → Bool) (p_Min : (List Int) → Int) (p_Min_s : (List Int) → Bool)  : Tr (Bool) :=
  Tr.ast (p_Value_s 13828302655841107968)
    (Tr.br ((p_Make false 1023 0).fst == 4607182418800017408)
      (Tr.br ((p_Make false 1023 0).snd == 0)
        (Tr.br ((p_Make false 2048 0).snd == 1)
          (Tr.br (!(p_Parts (p_Make false 1023 0).fst).fst)
            (Tr.br ((p_Parts (p_Make false 1023 0).fst).snd.fst == 1023)
              (Tr.br ((p_Parts (p_Make false 1023 0).fst).snd.snd == 0)
                (Tr.br ((p_Split (p_Make false 1023 0).fst).fst == 4503599627370496)
                  (Tr.br ((p_Split (p_Make false 1023 0).fst).snd == -52)
                    (Tr.ast (q_Text_s (p_Value 13828302655841107968).fst)
                      (Tr.br (q_Text (p_Value 13828302655841107968).fst == #[45, 51, 47, 52].toList)
                        (Tr.br (p_Value 13828302655841107968).snd
                          (Tr.br (p_Next 0 == 1)
                            (Tr.br (p_Next 9223372036854775809 == 9223372036854775808)
                              (Tr.br (p_Prev 1 == 0)
                                (Tr.br ((p_Cmp 0 9223372036854775808).fst == 0)
                                  (Tr.br (p_Cmp 0 9223372036854775808).snd
                                    (Tr.br (p_Class (p_Make false 1023 0).fst == 2)
                                      (Tr.br (p_Less 0 (p_Make false 1023 0).fst)
                                        (Tr.br
                                          (p_Neg (p_Make false 1023 0).fst ==
                                            bitsI BinOp.or IntKind.u64 (p_Make false 1023 0).fst 9223372036854775808)
                                          (Tr.br
                                            (p_Abs
                                                (bitsI BinOp.or IntKind.u64 (p_Make false 1023 0).fst
                                                  9223372036854775808) ==
                                              (p_Make false 1023 0).fst)
                                            (Tr.br (p_Inf true == 18442240474082181120)
                                              (Tr.br (p_Quiet == 9221120237041090560)
                                                (Tr.ast (p_Max_s [0, (p_Make false 1023 0).fst])
                                                  (Tr.br
                                                    (p_Max [0, (p_Make false 1023 0).fst] == (p_Make false 1023 0).fst)
                                                    (Tr.ast (p_Min_s [0, (p_Make false 1023 0).fst])
                                                      (Tr.leaf (p_Min [0, (p_Make false 1023 0).fst] == 0)))
                                                    (Tr.leaf false)))
                                                (Tr.leaf false))
                                              (Tr.leaf false))
                                            (Tr.leaf false))
                                          (Tr.leaf false))
                                        (Tr.leaf false))
                                      (Tr.leaf false))
                                    (Tr.leaf false))
                                  (Tr.leaf false))
                                (Tr.leaf false))
                              (Tr.leaf false))
                            (Tr.leaf false))
                          (Tr.leaf false))
                        (Tr.leaf false)))
                    (Tr.leaf false))
                  (Tr.leaf false))
                (Tr.leaf false))
              (Tr.leaf false))
            (Tr.leaf false))
          (Tr.leaf false))
        (Tr.leaf false))
      (Tr.leaf false))
def l4_works_t  : Tr (Bool) := l4_works_T p_Make p_Parts p_Split p_Value p_Value_s p_Cmp q_Text q_Text_s p_Next p_Prev p_Class p_Less p_Neg p_Abs p_Inf p_Quiet p_Max p_Max_s p_Min p_Min_s 
def l4_works  : Bool := (l4_works_t ).val
def l4_works_s  : Bool := (l4_works_t ).safe
def l_PatternParts_T (l4_works : Bool) (l4_works_s : Bool) (p_Parts : Int → Bool × Int × Int) (r4_Parts : Int → Bool × Int × Int) (p_Split : Int → Int × Int) (r4_Split : Int → Int × Int) (p_Make : Bool → Int → Int → Int × Int) (r4_Make : Bool → Int → Int → Int) (p_Class : Int → Int) (r4_Class : Int → Int) (f : Int) (neg : Bool) (exp : Int) (frac : Int) : Tr (Bool) :=
  let t0 : Int := (p_Parts f).snd.snd;
  let t1 : Int := (p_Parts f).snd.fst;
  let t2 : Bool := decide (frac < 4503599627370496);
  let t3 : Int × Int := p_Make (p_Parts f).fst t1 t0;
  Tr.ast l4_works_s
    (Tr.br (!l4_works) (Tr.leaf false)
      (Tr.br (decide (exp ≥ 0))
        (Tr.br (decide (exp < 2048))
          (Tr.br t2
            (Tr.br ((p_Make neg exp frac).snd != 0) (Tr.leaf false)
              (Tr.br ((p_Make neg exp frac).fst != r4_Make neg exp frac) (Tr.leaf false)
                (Tr.br (!t2)
                  (Tr.br ((p_Make neg exp frac).snd != 1) (Tr.leaf false)
                    (Tr.br ((p_Make neg exp frac).fst != 0) (Tr.leaf false)
                      (Tr.br l4_works
                        (Tr.br ((p_Parts f).fst == (r4_Parts f).fst)
                          (Tr.br (t1 == (r4_Parts f).snd.fst)
                            (Tr.br (t0 == (r4_Parts f).snd.snd)
                              (Tr.br ((p_Split f).fst == (r4_Split f).fst)
                                (Tr.br ((p_Split f).snd == (r4_Split f).snd)
                                  (Tr.br (t3.fst == f)
                                    (Tr.br (t3.snd == 0) (Tr.leaf (p_Class f == r4_Class f)) (Tr.leaf false))
                                    (Tr.leaf false))
                                  (Tr.leaf false))
                                (Tr.leaf false))
                              (Tr.leaf false))
                            (Tr.leaf false))
                          (Tr.leaf false))
                        (Tr.leaf false))))
                  (Tr.br l4_works
                    (Tr.br ((p_Parts f).fst == (r4_Parts f).fst)
                      (Tr.br (t1 == (r4_Parts f).snd.fst)
                        (Tr.br (t0 == (r4_Parts f).snd.snd)
                          (Tr.br ((p_Split f).fst == (r4_Split f).fst)
                            (Tr.br ((p_Split f).snd == (r4_Split f).snd)
                              (Tr.br (t3.fst == f)
                                (Tr.br (t3.snd == 0) (Tr.leaf (p_Class f == r4_Class f)) (Tr.leaf false)) (Tr.leaf false))
                              (Tr.leaf false))
                            (Tr.leaf false))
                          (Tr.leaf false))
                        (Tr.leaf false))
                      (Tr.leaf false))
                    (Tr.leaf false)))))
            (Tr.br (!t2)
              (Tr.br ((p_Make neg exp frac).snd != 1) (Tr.leaf false)
                (Tr.br ((p_Make neg exp frac).fst != 0) (Tr.leaf false)
                  (Tr.br l4_works
                    (Tr.br ((p_Parts f).fst == (r4_Parts f).fst)
                      (Tr.br (t1 == (r4_Parts f).snd.fst)
                        (Tr.br (t0 == (r4_Parts f).snd.snd)
                          (Tr.br ((p_Split f).fst == (r4_Split f).fst)
                            (Tr.br ((p_Split f).snd == (r4_Split f).snd)
                              (Tr.br (t3.fst == f)
                                (Tr.br (t3.snd == 0) (Tr.leaf (p_Class f == r4_Class f)) (Tr.leaf false)) (Tr.leaf false))
                              (Tr.leaf false))
                            (Tr.leaf false))
                          (Tr.leaf false))
                        (Tr.leaf false))
                      (Tr.leaf false))
                    (Tr.leaf false))))
              (Tr.br l4_works
                (Tr.br ((p_Parts f).fst == (r4_Parts f).fst)
                  (Tr.br (t1 == (r4_Parts f).snd.fst)
                    (Tr.br (t0 == (r4_Parts f).snd.snd)
                      (Tr.br ((p_Split f).fst == (r4_Split f).fst)
                        (Tr.br ((p_Split f).snd == (r4_Split f).snd)
                          (Tr.br (t3.fst == f) (Tr.br (t3.snd == 0) (Tr.leaf (p_Class f == r4_Class f)) (Tr.leaf false))
                            (Tr.leaf false))
                          (Tr.leaf false))
                        (Tr.leaf false))
                      (Tr.leaf false))
                    (Tr.leaf false))
                  (Tr.leaf false))
                (Tr.leaf false))))
          (Tr.br ((p_Make neg exp frac).snd != 1) (Tr.leaf false)
            (Tr.br ((p_Make neg exp frac).fst != 0) (Tr.leaf false)
              (Tr.br l4_works
                (Tr.br ((p_Parts f).fst == (r4_Parts f).fst)
                  (Tr.br (t1 == (r4_Parts f).snd.fst)
                    (Tr.br (t0 == (r4_Parts f).snd.snd)
                      (Tr.br ((p_Split f).fst == (r4_Split f).fst)
                        (Tr.br ((p_Split f).snd == (r4_Split f).snd)
                          (Tr.br (t3.fst == f) (Tr.br (t3.snd == 0) (Tr.leaf (p_Class f == r4_Class f)) (Tr.leaf false))
                            (Tr.leaf false))
                          (Tr.leaf false))
                        (Tr.leaf false))
                      (Tr.leaf false))
                    (Tr.leaf false))
                  (Tr.leaf false))
                (Tr.leaf false)))))
        (Tr.br ((p_Make neg exp frac).snd != 1) (Tr.leaf false)
          (Tr.br ((p_Make neg exp frac).fst != 0) (Tr.leaf false)
            (Tr.br l4_works
              (Tr.br ((p_Parts f).fst == (r4_Parts f).fst)
                (Tr.br (t1 == (r4_Parts f).snd.fst)
                  (Tr.br (t0 == (r4_Parts f).snd.snd)
                    (Tr.br ((p_Split f).fst == (r4_Split f).fst)
                      (Tr.br ((p_Split f).snd == (r4_Split f).snd)
                        (Tr.br (t3.fst == f) (Tr.br (t3.snd == 0) (Tr.leaf (p_Class f == r4_Class f)) (Tr.leaf false))
                          (Tr.leaf false))
                        (Tr.leaf false))
                      (Tr.leaf false))
                    (Tr.leaf false))
                  (Tr.leaf false))
                (Tr.leaf false))
              (Tr.leaf false))))))
def l_PatternParts_t (f : Int) (neg : Bool) (exp : Int) (frac : Int) : Tr (Bool) := l_PatternParts_T l4_works l4_works_s p_Parts r4_Parts p_Split r4_Split p_Make r4_Make p_Class r4_Class f neg exp frac
def l_PatternParts (f : Int) (neg : Bool) (exp : Int) (frac : Int) : Bool := (l_PatternParts_t f neg exp frac).val
def l_PatternParts_s (f : Int) (neg : Bool) (exp : Int) (frac : Int) : Bool := (l_PatternParts_t f neg exp frac).safe
def l_PatternValues_T (l4_works : Bool) (l4_works_s : Bool) (p_Value : Int → RR × Bool) (p_Value_s : Int → Bool) (r4_Finite : Int → Bool) (r4_Value : Int → RQ) (r4_Value_s : Int → Bool) (r2_Is : (List Int) → (List Bool) → Bool) (r2_Is_s : (List Int) → (List Bool) → Bool) (f : Int) : Tr (Bool) :=
  Tr.ast l4_works_s
    (Tr.br (!l4_works) (Tr.leaf false)
      (Tr.ast (p_Value_s f)
        (Tr.br (!r4_Finite f)
          (Tr.br l4_works
            (Tr.br (!(p_Value f).snd)
              (Tr.br (((p_Value f).fst.den.length : Int) == 0)
                (Tr.br (((p_Value f).fst.num.length : Int) == 0) (Tr.leaf !(p_Value f).fst.neg) (Tr.leaf false)) (Tr.leaf false))
              (Tr.leaf false))
            (Tr.leaf false))
          (Tr.ast (r4_Value_s f)
            (Tr.br l4_works
              (Tr.br (p_Value f).snd
                (Tr.br ((p_Value f).fst.neg == (r4_Value f).neg)
                  (Tr.ast (r2_Is_s (p_Value f).fst.num (r4_Value f).num)
                    (Tr.br (r2_Is (p_Value f).fst.num (r4_Value f).num)
                      (Tr.ast (r2_Is_s (p_Value f).fst.den (r4_Value f).den)
                        (Tr.leaf (r2_Is (p_Value f).fst.den (r4_Value f).den)))
                      (Tr.leaf false)))
                  (Tr.leaf false))
                (Tr.leaf false))
              (Tr.leaf false))))))
def l_PatternValues_t (f : Int) : Tr (Bool) := l_PatternValues_T l4_works l4_works_s p_Value p_Value_s r4_Finite r4_Value r4_Value_s r2_Is r2_Is_s f
def l_PatternValues (f : Int) : Bool := (l_PatternValues_t f).val
def l_PatternValues_s (f : Int) : Bool := (l_PatternValues_t f).safe
def l_PatternOrders_T (l4_works : Bool) (l4_works_s : Bool) (p_Cmp : Int → Int → Int × Bool) (r4_Cmp : Int → Int → Int × Bool) (p_Less : Int → Int → Bool) (p_Value : Int → RR × Bool) (p_Value_s : Int → Bool) (q_Cmp : RR → RR → Int) (q_Cmp_s : RR → RR → Bool) (a : Int) (b : Int) : Tr (Bool) :=
  Tr.ast l4_works_s
    (Tr.br (!l4_works) (Tr.leaf false)
      (Tr.br ((p_Cmp a b).fst != (r4_Cmp a b).fst) (Tr.leaf false)
        (Tr.br (!(p_Cmp a b).snd == (r4_Cmp a b).snd) (Tr.leaf false)
          (Tr.br (p_Cmp a b).snd
            (Tr.br (!p_Less a b == decide ((p_Cmp a b).fst < 0)) (Tr.leaf false)
              (Tr.ast (p_Value_s a)
                (Tr.ast (p_Value_s b)
                  (Tr.br l4_works
                    (Tr.br (!(p_Value a).snd) (Tr.leaf true)
                      (Tr.br (!(p_Value b).snd) (Tr.leaf true)
                        (Tr.ast (q_Cmp_s (p_Value a).fst (p_Value b).fst)
                          (Tr.leaf (q_Cmp (p_Value a).fst (p_Value b).fst == (p_Cmp a b).fst)))))
                    (Tr.leaf false)))))
            (Tr.br (!p_Less a b == false) (Tr.leaf false)
              (Tr.ast (p_Value_s a)
                (Tr.ast (p_Value_s b)
                  (Tr.br l4_works
                    (Tr.br (!(p_Value a).snd) (Tr.leaf true)
                      (Tr.br (!(p_Value b).snd) (Tr.leaf true)
                        (Tr.ast (q_Cmp_s (p_Value a).fst (p_Value b).fst)
                          (Tr.leaf (q_Cmp (p_Value a).fst (p_Value b).fst == (p_Cmp a b).fst)))))
                    (Tr.leaf false)))))))))
def l_PatternOrders_t (a : Int) (b : Int) : Tr (Bool) := l_PatternOrders_T l4_works l4_works_s p_Cmp r4_Cmp p_Less p_Value p_Value_s q_Cmp q_Cmp_s a b
def l_PatternOrders (a : Int) (b : Int) : Bool := (l_PatternOrders_t a b).val
def l_PatternOrders_s (a : Int) (b : Int) : Bool := (l_PatternOrders_t a b).safe
def l_PatternNeighbours_T (l4_works : Bool) (l4_works_s : Bool) (p_Next : Int → Int) (r4_Next : Int → Int) (p_Prev : Int → Int) (r4_Prev : Int → Int) (f : Int) : Tr (Bool) :=
  Tr.ast l4_works_s
    (Tr.br (!l4_works) (Tr.leaf false)
      (Tr.br l4_works (Tr.br (p_Next f == r4_Next f) (Tr.leaf (p_Prev f == r4_Prev f)) (Tr.leaf false)) (Tr.leaf false)))
def l_PatternNeighbours_t (f : Int) : Tr (Bool) := l_PatternNeighbours_T l4_works l4_works_s p_Next r4_Next p_Prev r4_Prev f
def l_PatternNeighbours (f : Int) : Bool := (l_PatternNeighbours_t f).val
def l_PatternNeighbours_s (f : Int) : Bool := (l_PatternNeighbours_t f).safe
def l_PatternBetween_T (l4_works : Bool) (l4_works_s : Bool) (p_Class : Int → Int) (p_Inf : Bool → Int) (p_Next : Int → Int) (p_Prev : Int → Int) (p_Cmp : Int → Int → Int × Bool) (p_Less : Int → Int → Bool) (f : Int) (g : Int) : Tr (Bool) :=
  Tr.ast l4_works_s
    (Tr.br (!l4_works) (Tr.leaf false)
      (Tr.br (p_Class f == 4) (Tr.br l4_works (Tr.leaf (p_Next f == f)) (Tr.leaf false))
        (Tr.br (f == p_Inf false) (Tr.br l4_works (Tr.leaf (p_Next f == f)) (Tr.leaf false))
          (Tr.br (p_Less f g)
            (Tr.br l4_works
              (Tr.br (p_Less f (p_Next f))
                (Tr.br (!p_Less g (p_Next f))
                  (Tr.br ((p_Cmp (p_Prev (p_Next f)) f).fst == 0) (Tr.leaf (p_Cmp (p_Prev (p_Next f)) f).snd)
                    (Tr.leaf false))
                  (Tr.leaf false))
                (Tr.leaf false))
              (Tr.leaf false))
            (Tr.br l4_works
              (Tr.br (p_Less f (p_Next f))
                (Tr.br ((p_Cmp (p_Prev (p_Next f)) f).fst == 0) (Tr.leaf (p_Cmp (p_Prev (p_Next f)) f).snd)
                  (Tr.leaf false))
                (Tr.leaf false))
              (Tr.leaf false))))))
def l_PatternBetween_t (f : Int) (g : Int) : Tr (Bool) := l_PatternBetween_T l4_works l4_works_s p_Class p_Inf p_Next p_Prev p_Cmp p_Less f g
def l_PatternBetween (f : Int) (g : Int) : Bool := (l_PatternBetween_t f g).val
def l_PatternBetween_s (f : Int) (g : Int) : Bool := (l_PatternBetween_t f g).safe
def l_PatternSigns_T (l4_works : Bool) (l4_works_s : Bool) (p_Neg : Int → Int) (p_Abs : Int → Int) (p_Class : Int → Int) (p_Parts : Int → Bool × Int × Int) (f : Int) : Tr (Bool) :=
  Tr.ast l4_works_s
    (Tr.br (!l4_works) (Tr.leaf false)
      (Tr.br (p_Class f == 4)
        (Tr.br l4_works (Tr.br (p_Neg f == f) (Tr.leaf (p_Abs f == f)) (Tr.leaf false)) (Tr.leaf false))
        (Tr.br l4_works
          (Tr.br (!(p_Parts f).fst == (p_Parts (p_Neg f)).fst)
            (Tr.br ((p_Parts f).snd.fst == (p_Parts (p_Neg f)).snd.fst)
              (Tr.br ((p_Parts f).snd.snd == (p_Parts (p_Neg f)).snd.snd)
                (Tr.br (!(p_Parts (p_Abs f)).fst)
                  (Tr.br ((p_Parts f).snd.fst == (p_Parts (p_Abs f)).snd.fst)
                    (Tr.br ((p_Parts f).snd.snd == (p_Parts (p_Abs f)).snd.snd) (Tr.leaf (p_Neg (p_Neg f) == f))
                      (Tr.leaf false))
                    (Tr.leaf false))
                  (Tr.leaf false))
                (Tr.leaf false))
              (Tr.leaf false))
            (Tr.leaf false))
          (Tr.leaf false))))
def l_PatternSigns_t (f : Int) : Tr (Bool) := l_PatternSigns_T l4_works l4_works_s p_Neg p_Abs p_Class p_Parts f
def l_PatternSigns (f : Int) : Bool := (l_PatternSigns_t f).val
def l_PatternSigns_s (f : Int) : Bool := (l_PatternSigns_t f).safe
def l_PatternMost_L0_T (p_Class : Int → Int) (v0 : List Int) (_v3 : Bool) (_v4 : Int) (_v5 : Int) (v6 : Bool) (v7 : Int) : Tr ((Bool × Int) ⊕ (Bool × Int)) :=
  Tr.br (decide (v7 < (v0.length : Int)))
    (Tr.br v6 (Tr.leaf (Sum.inl (true, IntKind.i64.wrap (v7 + 1))))
      (Tr.ast (decide (0 ≤ v7) && decide (v7 < (v0.length : Int)))
        (Tr.leaf (Sum.inl (p_Class (v0.getD v7.toNat 0) == 4, IntKind.i64.wrap (v7 + 1))))))
    (Tr.leaf (Sum.inr (v6, v7)))
def l_PatternMost_L0_step (p : (List Int) × Bool × Int × Int) (x : Bool × Int) : Tr ((Bool × Int) ⊕ (Bool × Int)) := l_PatternMost_L0_T p_Class p.1 p.2.1 p.2.2.1 p.2.2.2 x.1 x.2
def l_PatternMost_L0_r (p : (List Int) × Bool × Int × Int) (x : Bool × Int) : Option (Bool × Int) := runB (l_PatternMost_L0_step p) x
def l_PatternMost_L0_v (p : (List Int) × Bool × Int × Int) (x : Bool × Int) : Bool × Int := (l_PatternMost_L0_r p x).getD x
def l_PatternMost_L0_ok (p : (List Int) × Bool × Int × Int) (x : Bool × Int) : Bool := (l_PatternMost_L0_r p x).isSome
def l_PatternMost_L1_T (p_Less : Int → Int → Bool) (v0 : List Int) (_v3 : Bool) (v4 : Int) (v5 : Int) (v8 : Bool) (v9 : Bool) (v10 : Int) : Tr ((Bool × Bool × Int) ⊕ ((Bool × Bool × Int) ⊕ (Bool))) :=
  Tr.br (decide (v10 < (v0.length : Int)))
    (Tr.ast (decide (0 ≤ v10) && decide (v10 < (v0.length : Int)))
      (Tr.br (p_Less v4 (v0.getD v10.toNat 0)) (Tr.leaf (Sum.inr (Sum.inr false)))
        (Tr.ast (decide (0 ≤ v10) && decide (v10 < (v0.length : Int)))
          (Tr.br (p_Less (v0.getD v10.toNat 0) v5) (Tr.leaf (Sum.inr (Sum.inr false)))
            (Tr.br v8
              (Tr.br v9 (Tr.leaf (Sum.inl (true, true, IntKind.i64.wrap (v10 + 1))))
                (Tr.ast (decide (0 ≤ v10) && decide (v10 < (v0.length : Int)))
                  (Tr.leaf (Sum.inl (true, v5 == v0.getD v10.toNat 0, IntKind.i64.wrap (v10 + 1))))))
              (Tr.ast (decide (0 ≤ v10) && decide (v10 < (v0.length : Int)))
                (Tr.br v9 (Tr.leaf (Sum.inl (v4 == v0.getD v10.toNat 0, true, IntKind.i64.wrap (v10 + 1))))
                  (Tr.ast (decide (0 ≤ v10) && decide (v10 < (v0.length : Int)))
                    (Tr.leaf
                      (Sum.inl
                        (v4 == v0.getD v10.toNat 0, v5 == v0.getD v10.toNat 0, IntKind.i64.wrap (v10 + 1))))))))))))
    (Tr.leaf (Sum.inr (Sum.inl (v8, v9, v10))))
def l_PatternMost_L1_step (p : (List Int) × Bool × Int × Int) (x : Bool × Bool × Int) : Tr ((Bool × Bool × Int) ⊕ ((Bool × Bool × Int) ⊕ (Bool))) := l_PatternMost_L1_T p_Less p.1 p.2.1 p.2.2.1 p.2.2.2 x.1 x.2.1 x.2.2
def l_PatternMost_L1_r (p : (List Int) × Bool × Int × Int) (x : Bool × Bool × Int) : Option ((Bool × Bool × Int) ⊕ (Bool)) := runB (l_PatternMost_L1_step p) x
def l_PatternMost_L1_rt (p : (List Int) × Bool × Int × Int) (x : Bool × Bool × Int) : Bool := isR (l_PatternMost_L1_r p x)
def l_PatternMost_L1_v (p : (List Int) × Bool × Int × Int) (x : Bool × Bool × Int) : Bool × Bool × Int := outL_ x (l_PatternMost_L1_r p x)
def l_PatternMost_L1_rv (p : (List Int) × Bool × Int × Int) (x : Bool × Bool × Int) : Bool := outR_ false (l_PatternMost_L1_r p x)
def l_PatternMost_L1_ok (p : (List Int) × Bool × Int × Int) (x : Bool × Bool × Int) : Bool := (l_PatternMost_L1_r p x).isSome
def l_PatternMost_T (l4_works : Bool) (l4_works_s : Bool) (p_Max : (List Int) → Int) (p_Max_s : (List Int) → Bool) (p_Min : (List Int) → Int) (p_Min_s : (List Int) → Bool) (p_Quiet : Int) (l_PatternMost_L0_ok : ((List Int) × Bool × Int × Int) → (Bool × Int) → Bool) (l_PatternMost_L0_v : ((List Int) × Bool × Int × Int) → (Bool × Int) → Bool × Int) (l_PatternMost_L1_ok : ((List Int) × Bool × Int × Int) → (Bool × Bool × Int) → Bool) (l_PatternMost_L1_rt : ((List Int) × Bool × Int × Int) → (Bool × Bool × Int) → Bool) (l_PatternMost_L1_v : ((List Int) × Bool × Int × Int) → (Bool × Bool × Int) → Bool × Bool × Int) (l_PatternMost_L1_rv : ((List Int) × Bool × Int × Int) → (Bool × Bool × Int) → Bool) (l : List Int) : Tr (Bool) :=
  Tr.ast l4_works_s
    (Tr.br (!l4_works) (Tr.leaf false)
      (Tr.br (decide ((l.length : Int) > 100)) (Tr.leaf l4_works)
        (Tr.ast (p_Max_s l)
          (Tr.ast (p_Min_s l)
            (Tr.ast (l_PatternMost_L0_ok (l, l4_works, p_Max l, p_Min l) ((l.length : Int) == 0, 0))
              (Tr.br (l_PatternMost_L0_v (l, l4_works, p_Max l, p_Min l) ((l.length : Int) == 0, 0)).fst
                (Tr.br l4_works (Tr.br (p_Max l == p_Quiet) (Tr.leaf (p_Min l == p_Quiet)) (Tr.leaf false))
                  (Tr.leaf false))
                (Tr.ast (l_PatternMost_L1_ok (l, l4_works, p_Max l, p_Min l) (false, false, 0))
                  (Tr.br (l_PatternMost_L1_rt (l, l4_works, p_Max l, p_Min l) (false, false, 0))
                    (Tr.leaf (l_PatternMost_L1_rv (l, l4_works, p_Max l, p_Min l) (false, false, 0)))
                    (Tr.br l4_works
                      (Tr.br (l_PatternMost_L1_v (l, l4_works, p_Max l, p_Min l) (false, false, 0)).fst
                        (Tr.leaf (l_PatternMost_L1_v (l, l4_works, p_Max l, p_Min l) (false, false, 0)).snd.fst)
                        (Tr.leaf false))
                      (Tr.leaf false))))))))))
def l_PatternMost_t (l : List Int) : Tr (Bool) := l_PatternMost_T l4_works l4_works_s p_Max p_Max_s p_Min p_Min_s p_Quiet l_PatternMost_L0_ok l_PatternMost_L0_v l_PatternMost_L1_ok l_PatternMost_L1_rt l_PatternMost_L1_v l_PatternMost_L1_rv l
def l_PatternMost (l : List Int) : Bool := (l_PatternMost_t l).val
def l_PatternMost_s (l : List Int) : Bool := (l_PatternMost_t l).safe
end Go.Fb
