/- Contracts and laws of functions of the program, on the way to the claim. Conditions: as each theorem states. -/
import Derived.Test.YtgaapeaclbpaeaaW1e
namespace Go.Fb
open Go.Ev

/-! flyball/wide.Sum -/
def wide_Sum2_T (u3_Add : U3 → U3 → U3 × Int) (u3_Add_s : U3 → U3 → Bool) (l : U2 × U2) : Tr (U3) :=
  Tr.ast (u3_Add_s (U3.mk 0 0 0) (U3.mk 0 l.fst.hi l.fst.lo))
    (Tr.ast (u3_Add_s (u3_Add (U3.mk 0 0 0) (U3.mk 0 l.fst.hi l.fst.lo)).fst (U3.mk 0 l.snd.hi l.snd.lo))
      (Tr.leaf (u3_Add (u3_Add (U3.mk 0 0 0) (U3.mk 0 l.fst.hi l.fst.lo)).fst (U3.mk 0 l.snd.hi l.snd.lo)).fst))
def wide_Sum2_t (l : U2 × U2) : Tr (U3) := wide_Sum2_T u3_Add u3_Add_s l
def wide_Sum2 (l : U2 × U2) : U3 := (wide_Sum2_t l).val
def wide_Sum2_s (l : U2 × U2) : Bool := (wide_Sum2_t l).safe
/-! flyball/flyballlaw01.works -/
def l1_works_T (wide_Mul : Int → Int → U2) (u2_Shr : U2 → Int → U2 × Bool) (u2_Shr_s : U2 → Int → Bool) (u2_Div : U2 → Int → U2 × Int) (u2_Div_s : U2 → Int → Bool) (u2_Sqrt : U2 → Int × U2) (u2_Sqrt_s : U2 → Bool) (u2_Mul : U2 → Int → U3) (u2_Mul_s : U2 → Int → Bool) (wide_Sum2 : (U2 × U2) → U3) (wide_Sum2_s : (U2 × U2) → Bool)  : Tr (Bool) :=
  Tr.ast (u2_Shr_s (U2.mk 1 0) 1)
    (Tr.ast (u2_Shr_s (U2.mk 0 3) 1)
      (Tr.ast (u2_Div_s (U2.mk 1 5) 10)
        (Tr.ast (u2_Sqrt_s (U2.mk 0 17))
          (Tr.ast (u2_Mul_s (U2.mk 0 3) 5)
            (Tr.ast (wide_Sum2_s (U2.mk 0 1, U2.mk 2 0))
              (Tr.br ((wide_Mul 18446744073709551615 18446744073709551615).hi == 18446744073709551614)
                (Tr.br ((wide_Mul 18446744073709551615 18446744073709551615).lo == 1)
                  (Tr.br ((u2_Shr (U2.mk 1 0) 1).fst.lo == 9223372036854775808)
                    (Tr.br (!(u2_Shr (U2.mk 1 0) 1).snd)
                      (Tr.br ((u2_Shr (U2.mk 0 3) 1).fst.lo == 1)
                        (Tr.br (u2_Shr (U2.mk 0 3) 1).snd
                          (Tr.br ((u2_Div (U2.mk 1 5) 10).fst.lo == 1844674407370955162)
                            (Tr.br ((u2_Div (U2.mk 1 5) 10).snd == 1)
                              (Tr.br ((u2_Sqrt (U2.mk 0 17)).fst == 4)
                                (Tr.br ((u2_Sqrt (U2.mk 0 17)).snd.lo == 1)
                                  (Tr.br ((u2_Mul (U2.mk 0 3) 5).lo == 15)
                                    (Tr.br ((wide_Sum2 (U2.mk 0 1, U2.mk 2 0)).mid == 2)
                                      (Tr.leaf ((wide_Sum2 (U2.mk 0 1, U2.mk 2 0)).lo == 1)) (Tr.leaf false))
                                    (Tr.leaf false))
                                  (Tr.leaf false))
                                (Tr.leaf false))
                              (Tr.leaf false))
                            (Tr.leaf false))
                          (Tr.leaf false))
                        (Tr.leaf false))
                      (Tr.leaf false))
                    (Tr.leaf false))
                  (Tr.leaf false))
                (Tr.leaf false)))))))
def l1_works_t  : Tr (Bool) := l1_works_T wide_Mul u2_Shr u2_Shr_s u2_Div u2_Div_s u2_Sqrt u2_Sqrt_s u2_Mul u2_Mul_s wide_Sum2 wide_Sum2_s 
def l1_works  : Bool := (l1_works_t ).val
/-! flyball/flyballlaw01.of -/
def l1_of_T (r1_Of2 : (Int × Int) → (List Bool)) (r1_Of2_s : (Int × Int) → Bool) (a : U2) : Tr ((List Bool)) :=
  Tr.ast (r1_Of2_s (a.lo, a.hi)) (Tr.leaf (r1_Of2 (a.lo, a.hi)))
def l1_of_t (a : U2) : Tr ((List Bool)) := l1_of_T r1_Of2 r1_Of2_s a
def l1_of (a : U2) : (List Bool) := (l1_of_t a).val
def l1_of_s (a : U2) : Bool := (l1_of_t a).safe
/-! flyball/flyballlaw01.of3 -/
def l1_of3_T (r1_Of3 : (Int × Int × Int) → (List Bool)) (r1_Of3_s : (Int × Int × Int) → Bool) (a : U3) : Tr ((List Bool)) :=
  Tr.ast (r1_Of3_s (a.lo, a.mid, a.hi)) (Tr.leaf (r1_Of3 (a.lo, a.mid, a.hi)))
def l1_of3_t (a : U3) : Tr ((List Bool)) := l1_of3_T r1_Of3 r1_Of3_s a
def l1_of3 (a : U3) : (List Bool) := (l1_of3_t a).val
def l1_of3_s (a : U3) : Bool := (l1_of3_t a).safe
/-! flyball/flyballlaw01.is -/
def l1_is_T (l1_of : U2 → (List Bool)) (l1_of_s : U2 → Bool) (r1_Cmp : (List Bool) → (List Bool) → Int) (r1_Cmp_s : (List Bool) → (List Bool) → Bool) (a : U2) (b : List Bool) : Tr (Bool) :=
  Tr.ast (l1_of_s a) (Tr.ast (r1_Cmp_s (l1_of a) b) (Tr.leaf (r1_Cmp (l1_of a) b == 0)))
def l1_is_t (a : U2) (b : List Bool) : Tr (Bool) := l1_is_T l1_of l1_of_s r1_Cmp r1_Cmp_s a b
def l1_is (a : U2) (b : List Bool) : Bool := (l1_is_t a b).val
def l1_is_s (a : U2) (b : List Bool) : Bool := (l1_is_t a b).safe
/-! flyball/flyballlaw01.is3 -/
def l1_is3_T (l1_of3 : U3 → (List Bool)) (l1_of3_s : U3 → Bool) (r1_Cmp : (List Bool) → (List Bool) → Int) (r1_Cmp_s : (List Bool) → (List Bool) → Bool) (a : U3) (b : List Bool) : Tr (Bool) :=
  Tr.ast (l1_of3_s a) (Tr.ast (r1_Cmp_s (l1_of3 a) b) (Tr.leaf (r1_Cmp (l1_of3 a) b == 0)))
def l1_is3_t (a : U3) (b : List Bool) : Tr (Bool) := l1_is3_T l1_of3 l1_of3_s r1_Cmp r1_Cmp_s a b
def l1_is3 (a : U3) (b : List Bool) : Bool := (l1_is3_t a b).val
def l1_is3_s (a : U3) (b : List Bool) : Bool := (l1_is3_t a b).safe
/-! flyball/flyballlaw01.one -/
def l1_one_T  (c : Bool) : Tr (Int) :=
  Tr.br c (Tr.leaf 1) (Tr.leaf 0)
def l1_one_t (c : Bool) : Tr (Int) := l1_one_T  c
def l1_one (c : Bool) : Int := (l1_one_t c).val
/-! flyball/flyballlaw01.shl -/
def l1_shl_T (r1_Shl : (List Bool) → Int → (List Bool)) (r1_Shl_s : (List Bool) → Int → Bool) (a : List Bool) (n : Int) : Tr ((List Bool)) :=
  Tr.ast
    (and (decide (0 ≤ (some (IntKind.i64.wrap ((a.length : Int) - imin (imax n 0) (a.length : Int)))).getD (a.length : Int)))
      (decide ((some (IntKind.i64.wrap ((a.length : Int) - imin (imax n 0) (a.length : Int)))).getD (a.length : Int) ≤ (a.length : Int))))
    (Tr.ast
      (r1_Shl_s
        (List.take
          (((some (IntKind.i64.wrap ((a.length : Int) - imin (imax n 0) (a.length : Int)))).getD (a.length : Int)).toNat - Int.toNat 0)
          (List.drop (Int.toNat 0) a))
        (imin (imax n 0) (a.length : Int)))
      (Tr.leaf
        (r1_Shl
          (List.take
            (((some (IntKind.i64.wrap ((a.length : Int) - imin (imax n 0) (a.length : Int)))).getD (a.length : Int)).toNat - Int.toNat 0)
            (List.drop (Int.toNat 0) a))
          (imin (imax n 0) (a.length : Int)))))
def l1_shl_t (a : List Bool) (n : Int) : Tr ((List Bool)) := l1_shl_T r1_Shl r1_Shl_s a n
def l1_shl (a : List Bool) (n : Int) : (List Bool) := (l1_shl_t a n).val
def l1_shl_s (a : List Bool) (n : Int) : Bool := (l1_shl_t a n).safe
/-! flyball/flyballlaw01.WideMuls -/
def l1_WideMuls_T (l1_works : Bool) (wide_Mul : Int → Int → U2) (r1_Of1 : Int → (List Bool)) (r1_Of1_s : Int → Bool) (r1_Mul : (List Bool) → (List Bool) → (List Bool)) (r1_Mul_s : (List Bool) → (List Bool) → Bool) (l1_is : U2 → (List Bool) → Bool) (l1_is_s : U2 → (List Bool) → Bool) (u2_Mul : U2 → Int → U3) (u2_Mul_s : U2 → Int → Bool) (l1_of : U2 → (List Bool)) (l1_of_s : U2 → Bool) (l1_is3 : U3 → (List Bool) → Bool) (l1_is3_s : U3 → (List Bool) → Bool) (a : U2) (b : Int) : Tr (Bool) :=
  Tr.br (!l1_works) (Tr.leaf false)
    (Tr.ast (r1_Of1_s a.lo)
      (Tr.ast (r1_Of1_s b)
        (Tr.ast (r1_Mul_s (r1_Of1 a.lo) (r1_Of1 b))
          (Tr.ast (l1_is_s (wide_Mul a.lo b) (r1_Mul (r1_Of1 a.lo) (r1_Of1 b)))
            (Tr.ast (u2_Mul_s a b)
              (Tr.ast (l1_of_s a)
                (Tr.ast (r1_Of1_s b)
                  (Tr.ast (r1_Mul_s (l1_of a) (r1_Of1 b))
                    (Tr.ast (l1_is3_s (u2_Mul a b) (r1_Mul (l1_of a) (r1_Of1 b)))
                      (Tr.br l1_works
                        (Tr.br (l1_is (wide_Mul a.lo b) (r1_Mul (r1_Of1 a.lo) (r1_Of1 b)))
                          (Tr.leaf (l1_is3 (u2_Mul a b) (r1_Mul (l1_of a) (r1_Of1 b)))) (Tr.leaf false))
                        (Tr.leaf false)))))))))))
def l1_WideMuls_t (a : U2) (b : Int) : Tr (Bool) := l1_WideMuls_T l1_works wide_Mul r1_Of1 r1_Of1_s r1_Mul r1_Mul_s l1_is l1_is_s u2_Mul u2_Mul_s l1_of l1_of_s l1_is3 l1_is3_s a b
def l1_WideMuls (a : U2) (b : Int) : Bool := (l1_WideMuls_t a b).val
def l1_WideMuls_s (a : U2) (b : Int) : Bool := (l1_WideMuls_t a b).safe
/-! flyball/flyballlaw01.WideRootsSay -/
def l1_WideRootsSay_T (l1_works : Bool) (u2_Sqrt : U2 → Int × U2) (u2_Sqrt_s : U2 → Bool) (l1_of : U2 → (List Bool)) (l1_of_s : U2 → Bool) (r1_Sqrt : (List Bool) → (List Bool) × (List Bool)) (r1_Sqrt_s : (List Bool) → Bool) (l1_is : U2 → (List Bool) → Bool) (l1_is_s : U2 → (List Bool) → Bool) (r1_Of1 : Int → (List Bool)) (r1_Of1_s : Int → Bool) (r1_Cmp : (List Bool) → (List Bool) → Int) (r1_Cmp_s : (List Bool) → (List Bool) → Bool) (a : U2) : Tr (Bool) :=
  Tr.br (!l1_works) (Tr.leaf false)
    (Tr.ast (u2_Sqrt_s a)
      (Tr.ast (l1_of_s a)
        (Tr.ast (r1_Sqrt_s (l1_of a))
          (Tr.ast (l1_is_s (u2_Sqrt a).snd (r1_Sqrt (l1_of a)).snd)
            (Tr.br l1_works
              (Tr.br (l1_is (u2_Sqrt a).snd (r1_Sqrt (l1_of a)).snd)
                (Tr.ast (r1_Of1_s (u2_Sqrt a).fst)
                  (Tr.ast (r1_Cmp_s (r1_Of1 (u2_Sqrt a).fst) (r1_Sqrt (l1_of a)).fst)
                    (Tr.leaf (r1_Cmp (r1_Of1 (u2_Sqrt a).fst) (r1_Sqrt (l1_of a)).fst == 0))))
                (Tr.leaf false))
              (Tr.leaf false))))))
def l1_WideRootsSay_t (a : U2) : Tr (Bool) := l1_WideRootsSay_T l1_works u2_Sqrt u2_Sqrt_s l1_of l1_of_s r1_Sqrt r1_Sqrt_s l1_is l1_is_s r1_Of1 r1_Of1_s r1_Cmp r1_Cmp_s a
def l1_WideRootsSay (a : U2) : Bool := (l1_WideRootsSay_t a).val
def l1_WideRootsSay_s (a : U2) : Bool := (l1_WideRootsSay_t a).safe
/-! flyball/flyballlaw01.WideAdds -/
def l1_WideAdds_T (l1_works : Bool) (u2_Add : U2 → U2 → U2 × Int) (u2_Add_s : U2 → U2 → Bool) (u2_Sub : U2 → U2 → U2 × Int) (u2_Sub_s : U2 → U2 → Bool) (l1_of : U2 → (List Bool)) (l1_of_s : U2 → Bool) (r1_Add : (List Bool) → (List Bool) → (List Bool)) (r1_Add_s : (List Bool) → (List Bool) → Bool) (r1_Sub : (List Bool) → (List Bool) → Int → (List Bool) × Bool) (r1_Sub_s : (List Bool) → (List Bool) → Int → Bool) (l1_is : U2 → (List Bool) → Bool) (l1_is_s : U2 → (List Bool) → Bool) (l1_one : Bool → Int) (u2_Cmp : U2 → U2 → Int) (r1_Cmp : (List Bool) → (List Bool) → Int) (r1_Cmp_s : (List Bool) → (List Bool) → Bool) (u2_Len : U2 → Int) (r1_Len : (List Bool) → Int) (r1_Len_s : (List Bool) → Bool) (a : U2) (b : U2) : Tr (Bool) :=
  Tr.br (!l1_works) (Tr.leaf false)
    (Tr.ast (u2_Add_s a b)
      (Tr.ast (u2_Sub_s a b)
        (Tr.ast (l1_of_s a)
          (Tr.ast (l1_of_s b)
            (Tr.ast (r1_Add_s (l1_of a) (l1_of b))
              (Tr.ast (l1_of_s a)
                (Tr.ast (l1_of_s b)
                  (Tr.ast (r1_Sub_s (l1_of a) (l1_of b) 128)
                    (Tr.ast
                      (decide
                        ((some 128).getD ((r1_Add (l1_of a) (l1_of b)).length : Int) ≤ ((r1_Add (l1_of a) (l1_of b)).length : Int)))
                      (Tr.ast
                        (l1_is_s (u2_Add a b).fst
                          (List.take (((some 128).getD ((r1_Add (l1_of a) (l1_of b)).length : Int)).toNat - Int.toNat 0)
                            (List.drop (Int.toNat 0) (r1_Add (l1_of a) (l1_of b)))))
                        (Tr.ast (l1_is_s (u2_Sub a b).fst (r1_Sub (l1_of a) (l1_of b) 128).fst)
                          (Tr.br l1_works
                            (Tr.br
                              (l1_is (u2_Add a b).fst
                                (List.take (((some 128).getD ((r1_Add (l1_of a) (l1_of b)).length : Int)).toNat - Int.toNat 0)
                                  (List.drop (Int.toNat 0) (r1_Add (l1_of a) (l1_of b)))))
                              (Tr.br (l1_is (u2_Sub a b).fst (r1_Sub (l1_of a) (l1_of b) 128).fst)
                                (Tr.br (decide (((r1_Add (l1_of a) (l1_of b)).length : Int) > 128))
                                  (Tr.ast (decide (128 < ((r1_Add (l1_of a) (l1_of b)).length : Int)))
                                    (Tr.br
                                      ((u2_Add a b).snd ==
                                        l1_one ((r1_Add (l1_of a) (l1_of b)).getD (Int.toNat 128) false))
                                      (Tr.br ((u2_Sub a b).snd == l1_one (r1_Sub (l1_of a) (l1_of b) 128).snd)
                                        (Tr.ast (l1_of_s a)
                                          (Tr.ast (l1_of_s b)
                                            (Tr.ast (r1_Cmp_s (l1_of a) (l1_of b))
                                              (Tr.br (u2_Cmp a b == r1_Cmp (l1_of a) (l1_of b))
                                                (Tr.ast (l1_of_s a)
                                                  (Tr.ast (r1_Len_s (l1_of a)) (Tr.leaf (u2_Len a == r1_Len (l1_of a)))))
                                                (Tr.leaf false)))))
                                        (Tr.leaf false))
                                      (Tr.leaf false)))
                                  (Tr.br ((u2_Add a b).snd == l1_one false)
                                    (Tr.br ((u2_Sub a b).snd == l1_one (r1_Sub (l1_of a) (l1_of b) 128).snd)
                                      (Tr.ast (l1_of_s a)
                                        (Tr.ast (l1_of_s b)
                                          (Tr.ast (r1_Cmp_s (l1_of a) (l1_of b))
                                            (Tr.br (u2_Cmp a b == r1_Cmp (l1_of a) (l1_of b))
                                              (Tr.ast (l1_of_s a)
                                                (Tr.ast (r1_Len_s (l1_of a)) (Tr.leaf (u2_Len a == r1_Len (l1_of a)))))
                                              (Tr.leaf false)))))
                                      (Tr.leaf false))
                                    (Tr.leaf false)))
                                (Tr.leaf false))
                              (Tr.leaf false))
                            (Tr.leaf false)))))))))))))
def l1_WideAdds_t (a : U2) (b : U2) : Tr (Bool) := l1_WideAdds_T l1_works u2_Add u2_Add_s u2_Sub u2_Sub_s l1_of l1_of_s r1_Add r1_Add_s r1_Sub r1_Sub_s l1_is l1_is_s l1_one u2_Cmp r1_Cmp r1_Cmp_s u2_Len r1_Len r1_Len_s a b
def l1_WideAdds (a : U2) (b : U2) : Bool := (l1_WideAdds_t a b).val
def l1_WideAdds_s (a : U2) (b : U2) : Bool := (l1_WideAdds_t a b).safe
/-! flyball/flyballlaw01.WideRoots -/
def l1_WideRoots_T (l1_works : Bool) (u2_Sqrt : U2 → Int × U2) (u2_Sqrt_s : U2 → Bool) (wide_Mul : Int → Int → U2) (u2_Add : U2 → U2 → U2 × Int) (u2_Add_s : U2 → U2 → Bool) (u2_Shl : U2 → Int → U2) (u2_Shl_s : U2 → Int → Bool) (u2_Cmp : U2 → U2 → Int) (a : U2) : Tr (Bool) :=
  Tr.br (!l1_works) (Tr.leaf false)
    (Tr.ast (u2_Sqrt_s a)
      (Tr.ast (u2_Add_s (wide_Mul (u2_Sqrt a).fst (u2_Sqrt a).fst) (u2_Sqrt a).snd)
        (Tr.ast (u2_Shl_s (U2.mk 0 (u2_Sqrt a).fst) 1)
          (Tr.br l1_works
            (Tr.br
              (and ((u2_Add (wide_Mul (u2_Sqrt a).fst (u2_Sqrt a).fst) (u2_Sqrt a).snd).fst.hi == a.hi)
                (and ((u2_Add (wide_Mul (u2_Sqrt a).fst (u2_Sqrt a).fst) (u2_Sqrt a).snd).fst.lo == a.lo) true))
              (Tr.br ((u2_Add (wide_Mul (u2_Sqrt a).fst (u2_Sqrt a).fst) (u2_Sqrt a).snd).snd == 0)
                (Tr.leaf (decide (u2_Cmp (u2_Sqrt a).snd (u2_Shl (U2.mk 0 (u2_Sqrt a).fst) 1) ≤ 0))) (Tr.leaf false))
              (Tr.leaf false))
            (Tr.leaf false)))))
def l1_WideRoots_t (a : U2) : Tr (Bool) := l1_WideRoots_T l1_works u2_Sqrt u2_Sqrt_s wide_Mul u2_Add u2_Add_s u2_Shl u2_Shl_s u2_Cmp a
def l1_WideRoots (a : U2) : Bool := (l1_WideRoots_t a).val
def l1_WideRoots_s (a : U2) : Bool := (l1_WideRoots_t a).safe
/-! flyball/flyballlaw01.WideDivides -/
def l1_WideDivides_T (l1_works : Bool) (u2_Div : U2 → Int → U2 × Int) (u2_Div_s : U2 → Int → Bool) (u3_Div : U3 → U2 → U3 × U2) (u3_Div_s : U3 → U2 → Bool) (l1_of : U2 → (List Bool)) (l1_of_s : U2 → Bool) (r1_Of1 : Int → (List Bool)) (r1_Of1_s : Int → Bool) (r1_Div : (List Bool) → (List Bool) → (List Bool) × (List Bool)) (r1_Div_s : (List Bool) → (List Bool) → Bool) (l1_is : U2 → (List Bool) → Bool) (l1_is_s : U2 → (List Bool) → Bool) (r1_Cmp : (List Bool) → (List Bool) → Int) (r1_Cmp_s : (List Bool) → (List Bool) → Bool) (l1_of3 : U3 → (List Bool)) (l1_of3_s : U3 → Bool) (l1_is3 : U3 → (List Bool) → Bool) (l1_is3_s : U3 → (List Bool) → Bool) (a : U2) (b : Int) (c : U3) (d : U2) : Tr (Bool) :=
  Tr.br (!l1_works) (Tr.leaf false)
    (Tr.ast (u2_Div_s a b)
      (Tr.ast (u3_Div_s c d)
        (Tr.br (b == 0)
          (Tr.br (!((u2_Div a b).fst.hi == 0 && ((u2_Div a b).fst.lo == 0 && true))) (Tr.leaf false)
            (Tr.br ((u2_Div a b).snd != 0) (Tr.leaf false)
              (Tr.br (and (d.hi == 0) (and (d.lo == 0) true))
                (Tr.br l1_works
                  (Tr.br
                    (and ((u3_Div c d).fst.hi == 0)
                      (and ((u3_Div c d).fst.mid == 0) (and ((u3_Div c d).fst.lo == 0) true)))
                    (Tr.leaf ((u3_Div c d).snd.hi == 0 && ((u3_Div c d).snd.lo == 0 && true))) (Tr.leaf false))
                  (Tr.leaf false))
                (Tr.ast (l1_of3_s c)
                  (Tr.ast (l1_of_s d)
                    (Tr.ast (r1_Div_s (l1_of3 c) (l1_of d))
                      (Tr.ast (l1_is3_s (u3_Div c d).fst (r1_Div (l1_of3 c) (l1_of d)).fst)
                        (Tr.ast (l1_is_s (u3_Div c d).snd (r1_Div (l1_of3 c) (l1_of d)).snd)
                          (Tr.br l1_works
                            (Tr.br (l1_is3 (u3_Div c d).fst (r1_Div (l1_of3 c) (l1_of d)).fst)
                              (Tr.leaf (l1_is (u3_Div c d).snd (r1_Div (l1_of3 c) (l1_of d)).snd)) (Tr.leaf false))
                            (Tr.leaf false))))))))))
          (Tr.ast (l1_of_s a)
            (Tr.ast (r1_Of1_s b)
              (Tr.ast (r1_Div_s (l1_of a) (r1_Of1 b))
                (Tr.ast (l1_is_s (u2_Div a b).fst (r1_Div (l1_of a) (r1_Of1 b)).fst)
                  (Tr.br (!l1_is (u2_Div a b).fst (r1_Div (l1_of a) (r1_Of1 b)).fst) (Tr.leaf false)
                    (Tr.ast (r1_Of1_s (u2_Div a b).snd)
                      (Tr.ast (r1_Cmp_s (r1_Of1 (u2_Div a b).snd) (r1_Div (l1_of a) (r1_Of1 b)).snd)
                        (Tr.br (r1_Cmp (r1_Of1 (u2_Div a b).snd) (r1_Div (l1_of a) (r1_Of1 b)).snd != 0) (Tr.leaf false)
                          (Tr.br (and (d.hi == 0) (and (d.lo == 0) true))
                            (Tr.br l1_works
                              (Tr.br
                                (and ((u3_Div c d).fst.hi == 0)
                                  (and ((u3_Div c d).fst.mid == 0) (and ((u3_Div c d).fst.lo == 0) true)))
                                (Tr.leaf ((u3_Div c d).snd.hi == 0 && ((u3_Div c d).snd.lo == 0 && true)))
                                (Tr.leaf false))
                              (Tr.leaf false))
                            (Tr.ast (l1_of3_s c)
                              (Tr.ast (l1_of_s d)
                                (Tr.ast (r1_Div_s (l1_of3 c) (l1_of d))
                                  (Tr.ast (l1_is3_s (u3_Div c d).fst (r1_Div (l1_of3 c) (l1_of d)).fst)
                                    (Tr.ast (l1_is_s (u3_Div c d).snd (r1_Div (l1_of3 c) (l1_of d)).snd)
                                      (Tr.br l1_works
                                        (Tr.br (l1_is3 (u3_Div c d).fst (r1_Div (l1_of3 c) (l1_of d)).fst)
                                          (Tr.leaf (l1_is (u3_Div c d).snd (r1_Div (l1_of3 c) (l1_of d)).snd))
                                          (Tr.leaf false))
                                        (Tr.leaf false)))))))))))))))))))
def l1_WideDivides_t (a : U2) (b : Int) (c : U3) (d : U2) : Tr (Bool) := l1_WideDivides_T l1_works u2_Div u2_Div_s u3_Div u3_Div_s l1_of l1_of_s r1_Of1 r1_Of1_s r1_Div r1_Div_s l1_is l1_is_s r1_Cmp r1_Cmp_s l1_of3 l1_of3_s l1_is3 l1_is3_s a b c d
def l1_WideDivides (a : U2) (b : Int) (c : U3) (d : U2) : Bool := (l1_WideDivides_t a b c d).val
def l1_WideDivides_s (a : U2) (b : Int) (c : U3) (d : U2) : Bool := (l1_WideDivides_t a b c d).safe
/-! flyball/flyballlaw01.WideBack -/
def l1_WideBack_T (l1_works : Bool) (u2_Add : U2 → U2 → U2 × Int) (u2_Add_s : U2 → U2 → Bool) (u2_Sub : U2 → U2 → U2 × Int) (u2_Sub_s : U2 → U2 → Bool) (u2_Mul : U2 → Int → U3) (u2_Mul_s : U2 → Int → Bool) (u3_Div : U3 → U2 → U3 × U2) (u3_Div_s : U3 → U2 → Bool) (u2_Len : U2 → Int) (u2_Shl : U2 → Int → U2) (u2_Shl_s : U2 → Int → Bool) (u2_Shr : U2 → Int → U2 × Bool) (u2_Shr_s : U2 → Int → Bool) (a : U2) (b : Int) (n : Int) : Tr (Bool) :=
  Tr.br (!l1_works) (Tr.leaf false)
    (Tr.ast (u2_Add_s a (U2.mk 0 b))
      (Tr.ast (u2_Sub_s (u2_Add a (U2.mk 0 b)).fst (U2.mk 0 b))
        (Tr.ast (u2_Mul_s a b)
          (Tr.ast (u3_Div_s (u2_Mul a b) (U2.mk 0 b))
            (Tr.ast (u2_Shl_s a (imin (imax n 0) (IntKind.i64.wrap (128 - u2_Len a))))
              (Tr.ast
                (u2_Shr_s (u2_Shl a (imin (imax n 0) (IntKind.i64.wrap (128 - u2_Len a))))
                  (imin (imax n 0) (IntKind.i64.wrap (128 - u2_Len a))))
                (Tr.br
                  (and ((u3_Div (u2_Mul a b) (U2.mk 0 b)).fst.hi == 0)
                    (and ((u3_Div (u2_Mul a b) (U2.mk 0 b)).fst.mid == a.hi)
                      (and ((u3_Div (u2_Mul a b) (U2.mk 0 b)).fst.lo == a.lo) true)))
                  (Tr.br l1_works
                    (Tr.br
                      (and ((u2_Sub (u2_Add a (U2.mk 0 b)).fst (U2.mk 0 b)).fst.hi == a.hi)
                        (and ((u2_Sub (u2_Add a (U2.mk 0 b)).fst (U2.mk 0 b)).fst.lo == a.lo) true))
                      (Tr.br (b == 0)
                        (Tr.br
                          (and
                            ((u2_Shr (u2_Shl a (imin (imax n 0) (IntKind.i64.wrap (128 - u2_Len a))))
                                    (imin (imax n 0) (IntKind.i64.wrap (128 - u2_Len a)))).fst.hi ==
                              a.hi)
                            (and
                              ((u2_Shr (u2_Shl a (imin (imax n 0) (IntKind.i64.wrap (128 - u2_Len a))))
                                      (imin (imax n 0) (IntKind.i64.wrap (128 - u2_Len a)))).fst.lo ==
                                a.lo)
                              true))
                          (Tr.leaf
                            !(u2_Shr (u2_Shl a (imin (imax n 0) (IntKind.i64.wrap (128 - u2_Len a))))
                                  (imin (imax n 0) (IntKind.i64.wrap (128 - u2_Len a)))).snd)
                          (Tr.leaf false))
                        (Tr.br
                          (and ((u3_Div (u2_Mul a b) (U2.mk 0 b)).snd.hi == 0)
                            (and ((u3_Div (u2_Mul a b) (U2.mk 0 b)).snd.lo == 0) true))
                          (Tr.br
                            (and
                              ((u2_Shr (u2_Shl a (imin (imax n 0) (IntKind.i64.wrap (128 - u2_Len a))))
                                      (imin (imax n 0) (IntKind.i64.wrap (128 - u2_Len a)))).fst.hi ==
                                a.hi)
                              (and
                                ((u2_Shr (u2_Shl a (imin (imax n 0) (IntKind.i64.wrap (128 - u2_Len a))))
                                        (imin (imax n 0) (IntKind.i64.wrap (128 - u2_Len a)))).fst.lo ==
                                  a.lo)
                                true))
                            (Tr.leaf
                              !(u2_Shr (u2_Shl a (imin (imax n 0) (IntKind.i64.wrap (128 - u2_Len a))))
                                    (imin (imax n 0) (IntKind.i64.wrap (128 - u2_Len a)))).snd)
                            (Tr.leaf false))
                          (Tr.leaf false)))
                      (Tr.leaf false))
                    (Tr.leaf false))
                  (Tr.br l1_works
                    (Tr.br
                      (and ((u2_Sub (u2_Add a (U2.mk 0 b)).fst (U2.mk 0 b)).fst.hi == a.hi)
                        (and ((u2_Sub (u2_Add a (U2.mk 0 b)).fst (U2.mk 0 b)).fst.lo == a.lo) true))
                      (Tr.br (b == 0)
                        (Tr.br
                          (and
                            ((u2_Shr (u2_Shl a (imin (imax n 0) (IntKind.i64.wrap (128 - u2_Len a))))
                                    (imin (imax n 0) (IntKind.i64.wrap (128 - u2_Len a)))).fst.hi ==
                              a.hi)
                            (and
                              ((u2_Shr (u2_Shl a (imin (imax n 0) (IntKind.i64.wrap (128 - u2_Len a))))
                                      (imin (imax n 0) (IntKind.i64.wrap (128 - u2_Len a)))).fst.lo ==
                                a.lo)
                              true))
                          (Tr.leaf
                            !(u2_Shr (u2_Shl a (imin (imax n 0) (IntKind.i64.wrap (128 - u2_Len a))))
                                  (imin (imax n 0) (IntKind.i64.wrap (128 - u2_Len a)))).snd)
                          (Tr.leaf false))
                        (Tr.leaf false))
                      (Tr.leaf false))
                    (Tr.leaf false)))))))))
def l1_WideBack_t (a : U2) (b : Int) (n : Int) : Tr (Bool) := l1_WideBack_T l1_works u2_Add u2_Add_s u2_Sub u2_Sub_s u2_Mul u2_Mul_s u3_Div u3_Div_s u2_Len u2_Shl u2_Shl_s u2_Shr u2_Shr_s a b n
def l1_WideBack (a : U2) (b : Int) (n : Int) : Bool := (l1_WideBack_t a b n).val
def l1_WideBack_s (a : U2) (b : Int) (n : Int) : Bool := (l1_WideBack_t a b n).safe
end Go.Fb
