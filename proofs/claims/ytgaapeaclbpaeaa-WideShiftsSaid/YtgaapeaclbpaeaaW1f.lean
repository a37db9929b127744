/- Contracts and laws of functions of the program, on the way to the claim. Conditions: as each theorem states. -/
import Derived.Test.YtgaapeaclbpaeaaW1e
namespace Go.Fb
open Go.Ev

/-! flyball/wide.Sum -/
def wide_Sum2_T (u3_Add : U3 → U3 → U3 × Int) (u3_Add_s : U3 → U3 → Bool) (l : U2 × U2) : Tr (U3) :=
  Tr.ast (u3_Add_s (U3.mk 0 0 0) (U3.mk 0 l.fst.hi l.fst.lo))
    (Tr.ast (u3_Add_s (u3_Add (U3.mk 0 0 0) (U3.mk 0 l.fst.hi l.fst.lo)).fst (U3.mk 0 l.snd.hi l.snd.lo))
      (Tr.leaf (u3_Add (u3_Add (U3.mk 0 0 0) (U3.mk 0 l.fst.hi l.fst.lo)).fst (U3.mk 0 l.snd.hi l.snd.lo)).fst))
def wide_Sum2_t (l : U2 × U2) : Tr (U3) := wide_Sum2_T u3_Add u3_Add_s l
def wide_Sum2 (l : U2 × U2) : U3 := (wide_Sum2_t l).val
def wide_Sum2_s (l : U2 × U2) : Bool := (wide_Sum2_t l).safe
/-! flyball/flyballlaw01.works -/
def l1_works_T (wide_Mul : Int → Int → U2) (u2_Shr : U2 → Int → U2 × Bool) (u2_Shr_s : U2 → Int → Bool) (u2_Div : U2 → Int → U2 × Int) (u2_Div_s : U2 → Int → Bool) (u2_Sqrt : U2 → Int × U2) (u2_Sqrt_s : U2 → Bool) (u2_Mul : U2 → Int → U3) (u2_Mul_s : U2 → Int → Bool) (wide_Sum2 : (U2 × U2) → U3) (wide_Sum2_s : (U2 × U2) → Bool)  : Tr (Bool) :=
  Tr.ast (u2_Shr_s (U2.mk 1 0) 1)
    (Tr.ast (u2_Shr_s (U2.mk 0 3) 1)
      (Tr.ast (u2_Div_s (U2.mk 1 5) 10)
        (Tr.ast (u2_Sqrt_s (U2.mk 0 17))
          (Tr.ast (u2_Mul_s (U2.mk 0 3) 5)
            (Tr.ast (wide_Sum2_s (U2.mk 0 1, U2.mk 2 0))
              (Tr.br ((wide_Mul 18446744073709551615 18446744073709551615).hi == 18446744073709551614)
                (Tr.br ((wide_Mul 18446744073709551615 18446744073709551615).lo == 1)
                  (Tr.br ((u2_Shr (U2.mk 1 0) 1).fst.lo == 9223372036854775808)
                    (Tr.br (!(u2_Shr (U2.mk 1 0) 1).snd)
                      (Tr.br ((u2_Shr (U2.mk 0 3) 1).fst.lo == 1)
                        (Tr.br (u2_Shr (U2.mk 0 3) 1).snd
                          (Tr.br ((u2_Div (U2.mk 1 5) 10).fst.lo == 1844674407370955162)
                            (Tr.br ((u2_Div (U2.mk 1 5) 10).snd == 1)
                              (Tr.br ((u2_Sqrt (U2.mk 0 17)).fst == 4)
                                (Tr.br ((u2_Sqrt (U2.mk 0 17)).snd.lo == 1)
                                  (Tr.br ((u2_Mul (U2.mk 0 3) 5).lo == 15)
                                    (Tr.br ((wide_Sum2 (U2.mk 0 1, U2.mk 2 0)).mid == 2)
                                      (Tr.leaf ((wide_Sum2 (U2.mk 0 1, U2.mk 2 0)).lo == 1)) (Tr.leaf false))
                                    (Tr.leaf false))
                                  (Tr.leaf false))
                                (Tr.leaf false))
                              (Tr.leaf false))
                            (Tr.leaf false))
                          (Tr.leaf false))
                        (Tr.leaf false))
                      (Tr.leaf false))
                    (Tr.leaf false))
                  (Tr.leaf false))
                (Tr.leaf false)))))))
def l1_works_t  : Tr (Bool) := l1_works_T wide_Mul u2_Shr u2_Shr_s u2_Div u2_Div_s u2_Sqrt u2_Sqrt_s u2_Mul u2_Mul_s wide_Sum2 wide_Sum2_s 
def l1_works  : Bool := (l1_works_t ).val
/-! flyball/flyballlaw01.of -/
def l1_of_T (r1_Of2 : (Int × Int) → (List Bool)) (r1_Of2_s : (Int × Int) → Bool) (a : U2) : Tr ((List Bool)) :=
  Tr.ast (r1_Of2_s (a.lo, a.hi)) (Tr.leaf (r1_Of2 (a.lo, a.hi)))
def l1_of_t (a : U2) : Tr ((List Bool)) := l1_of_T r1_Of2 r1_Of2_s a
def l1_of (a : U2) : (List Bool) := (l1_of_t a).val
def l1_of_s (a : U2) : Bool := (l1_of_t a).safe
/-! flyball/flyballlaw01.of3 -/
def l1_of3_T (r1_Of3 : (Int × Int × Int) → (List Bool)) (r1_Of3_s : (Int × Int × Int) → Bool) (a : U3) : Tr ((List Bool)) :=
  Tr.ast (r1_Of3_s (a.lo, a.mid, a.hi)) (Tr.leaf (r1_Of3 (a.lo, a.mid, a.hi)))
def l1_of3_t (a : U3) : Tr ((List Bool)) := l1_of3_T r1_Of3 r1_Of3_s a
def l1_of3 (a : U3) : (List Bool) := (l1_of3_t a).val
def l1_of3_s (a : U3) : Bool := (l1_of3_t a).safe
/-! flyball/flyballlaw01.is -/
def l1_is_T (l1_of : U2 → (List Bool)) (l1_of_s : U2 → Bool) (r1_Cmp : (List Bool) → (List Bool) → Int) (r1_Cmp_s : (List Bool) → (List Bool) → Bool) (a : U2) (b : List Bool) : Tr (Bool) :=
  Tr.ast (l1_of_s a) (Tr.ast (r1_Cmp_s (l1_of a) b) (Tr.leaf (r1_Cmp (l1_of a) b == 0)))
def l1_is_t (a : U2) (b : List Bool) : Tr (Bool) := l1_is_T l1_of l1_of_s r1_Cmp r1_Cmp_s a b
def l1_is (a : U2) (b : List Bool) : Bool := (l1_is_t a b).val
def l1_is_s (a : U2) (b : List Bool) : Bool := (l1_is_t a b).safe
/-! flyball/flyballlaw01.is3 -/
def l1_is3_T (l1_of3 : U3 → (List Bool)) (l1_of3_s : U3 → Bool) (r1_Cmp : (List Bool) → (List Bool) → Int) (r1_Cmp_s : (List Bool) → (List Bool) → Bool) (a : U3) (b : List Bool) : Tr (Bool) :=
  Tr.ast (l1_of3_s a) (Tr.ast (r1_Cmp_s (l1_of3 a) b) (Tr.leaf (r1_Cmp (l1_of3 a) b == 0)))
def l1_is3_t (a : U3) (b : List Bool) : Tr (Bool) := l1_is3_T l1_of3 l1_of3_s r1_Cmp r1_Cmp_s a b
def l1_is3 (a : U3) (b : List Bool) : Bool := (l1_is3_t a b).val
def l1_is3_s (a : U3) (b : List Bool) : Bool := (l1_is3_t a b).safe
/-! flyball/flyballlaw01.one -/
def l1_one_T  (c : Bool) : Tr (Int) :=
  Tr.br c (Tr.leaf 1) (Tr.leaf 0)
def l1_one_t (c : Bool) : Tr (Int) := l1_one_T  c
def l1_one (c : Bool) : Int := (l1_one_t c).val
/-! flyball/flyballlaw01.shr -/
def l1_shr_T (r1_Len : (List Bool) → Int) (r1_Len_s : (List Bool) → Bool) (a : List Bool) (n : Int) : Tr ((List Bool) × Bool) :=
  Tr.ast
    (and (decide (0 ≤ (some (imin (imax n 0) (a.length : Int))).getD 0))
      (and (decide ((some (imin (imax n 0) (a.length : Int))).getD 0 ≤ none.getD (a.length : Int)))
        (decide (none.getD (a.length : Int) ≤ (a.length : Int)))))
    (Tr.ast
      (and (decide (0 ≤ (some (imin (imax n 0) (a.length : Int))).getD (a.length : Int)))
        (decide ((some (imin (imax n 0) (a.length : Int))).getD (a.length : Int) ≤ (a.length : Int))))
      (Tr.ast
        (r1_Len_s
          (List.take (((some (imin (imax n 0) (a.length : Int))).getD (a.length : Int)).toNat - Int.toNat 0)
            (List.drop (Int.toNat 0) a)))
        (Tr.leaf
          (List.take ((none.getD (a.length : Int)).toNat - ((some (imin (imax n 0) (a.length : Int))).getD 0).toNat)
              (List.drop ((some (imin (imax n 0) (a.length : Int))).getD 0).toNat a),
            decide
              (r1_Len
                  (List.take (((some (imin (imax n 0) (a.length : Int))).getD (a.length : Int)).toNat - Int.toNat 0)
                    (List.drop (Int.toNat 0) a)) >
                0)))))
def l1_shr_t (a : List Bool) (n : Int) : Tr ((List Bool) × Bool) := l1_shr_T r1_Len r1_Len_s a n
def l1_shr (a : List Bool) (n : Int) : (List Bool) × Bool := (l1_shr_t a n).val
def l1_shr_s (a : List Bool) (n : Int) : Bool := (l1_shr_t a n).safe
/-! flyball/flyballlaw01.shl -/
def l1_shl_T (r1_Shl : (List Bool) → Int → (List Bool)) (r1_Shl_s : (List Bool) → Int → Bool) (a : List Bool) (n : Int) : Tr ((List Bool)) :=
  Tr.ast
    (and (decide (0 ≤ (some (IntKind.i64.wrap ((a.length : Int) - imin (imax n 0) (a.length : Int)))).getD (a.length : Int)))
      (decide ((some (IntKind.i64.wrap ((a.length : Int) - imin (imax n 0) (a.length : Int)))).getD (a.length : Int) ≤ (a.length : Int))))
    (Tr.ast
      (r1_Shl_s
        (List.take
          (((some (IntKind.i64.wrap ((a.length : Int) - imin (imax n 0) (a.length : Int)))).getD (a.length : Int)).toNat - Int.toNat 0)
          (List.drop (Int.toNat 0) a))
        (imin (imax n 0) (a.length : Int)))
      (Tr.leaf
        (r1_Shl
          (List.take
            (((some (IntKind.i64.wrap ((a.length : Int) - imin (imax n 0) (a.length : Int)))).getD (a.length : Int)).toNat - Int.toNat 0)
            (List.drop (Int.toNat 0) a))
          (imin (imax n 0) (a.length : Int)))))
def l1_shl_t (a : List Bool) (n : Int) : Tr ((List Bool)) := l1_shl_T r1_Shl r1_Shl_s a n
def l1_shl (a : List Bool) (n : Int) : (List Bool) := (l1_shl_t a n).val
def l1_shl_s (a : List Bool) (n : Int) : Bool := (l1_shl_t a n).safe
/-! flyball/flyballlaw01.WideMuls -/
def l1_WideMuls_T (l1_works : Bool) (wide_Mul : Int → Int → U2) (r1_Of1 : Int → (List Bool)) (r1_Of1_s : Int → Bool) (r1_Mul : (List Bool) → (List Bool) → (List Bool)) (r1_Mul_s : (List Bool) → (List Bool) → Bool) (l1_is : U2 → (List Bool) → Bool) (l1_is_s : U2 → (List Bool) → Bool) (u2_Mul : U2 → Int → U3) (u2_Mul_s : U2 → Int → Bool) (l1_of : U2 → (List Bool)) (l1_of_s : U2 → Bool) (l1_is3 : U3 → (List Bool) → Bool) (l1_is3_s : U3 → (List Bool) → Bool) (a : U2) (b : Int) : Tr (Bool) :=
  Tr.br (!l1_works) (Tr.leaf false)
    (Tr.ast (r1_Of1_s a.lo)
      (Tr.ast (r1_Of1_s b)
        (Tr.ast (r1_Mul_s (r1_Of1 a.lo) (r1_Of1 b))
          (Tr.ast (l1_is_s (wide_Mul a.lo b) (r1_Mul (r1_Of1 a.lo) (r1_Of1 b)))
            (Tr.ast (u2_Mul_s a b)
              (Tr.ast (l1_of_s a)
                (Tr.ast (r1_Of1_s b)
                  (Tr.ast (r1_Mul_s (l1_of a) (r1_Of1 b))
                    (Tr.ast (l1_is3_s (u2_Mul a b) (r1_Mul (l1_of a) (r1_Of1 b)))
                      (Tr.br l1_works
                        (Tr.br (l1_is (wide_Mul a.lo b) (r1_Mul (r1_Of1 a.lo) (r1_Of1 b)))
                          (Tr.leaf (l1_is3 (u2_Mul a b) (r1_Mul (l1_of a) (r1_Of1 b)))) (Tr.leaf false))
                        (Tr.leaf false)))))))))))
def l1_WideMuls_t (a : U2) (b : Int) : Tr (Bool) := l1_WideMuls_T l1_works wide_Mul r1_Of1 r1_Of1_s r1_Mul r1_Mul_s l1_is l1_is_s u2_Mul u2_Mul_s l1_of l1_of_s l1_is3 l1_is3_s a b
def l1_WideMuls (a : U2) (b : Int) : Bool := (l1_WideMuls_t a b).val
def l1_WideMuls_s (a : U2) (b : Int) : Bool := (l1_WideMuls_t a b).safe
/-! flyball/flyballlaw01.WideRootsSay -/
def l1_WideRootsSay_T (l1_works : Bool) (u2_Sqrt : U2 → Int × U2) (u2_Sqrt_s : U2 → Bool) (l1_of : U2 → (List Bool)) (l1_of_s : U2 → Bool) (r1_Sqrt : (List Bool) → (List Bool) × (List Bool)) (r1_Sqrt_s : (List Bool) → Bool) (l1_is : U2 → (List Bool) → Bool) (l1_is_s : U2 → (List Bool) → Bool) (r1_Of1 : Int → (List Bool)) (r1_Of1_s : Int → Bool) (r1_Cmp : (List Bool) → (List Bool) → Int) (r1_Cmp_s : (List Bool) → (List Bool) → Bool) (a : U2) : Tr (Bool) :=
  Tr.br (!l1_works) (Tr.leaf false)
    (Tr.ast (u2_Sqrt_s a)
      (Tr.ast (l1_of_s a)
        (Tr.ast (r1_Sqrt_s (l1_of a))
          (Tr.ast (l1_is_s (u2_Sqrt a).snd (r1_Sqrt (l1_of a)).snd)
            (Tr.br l1_works
              (Tr.br (l1_is (u2_Sqrt a).snd (r1_Sqrt (l1_of a)).snd)
                (Tr.ast (r1_Of1_s (u2_Sqrt a).fst)
                  (Tr.ast (r1_Cmp_s (r1_Of1 (u2_Sqrt a).fst) (r1_Sqrt (l1_of a)).fst)
                    (Tr.leaf (r1_Cmp (r1_Of1 (u2_Sqrt a).fst) (r1_Sqrt (l1_of a)).fst == 0))))
                (Tr.leaf false))
              (Tr.leaf false))))))
def l1_WideRootsSay_t (a : U2) : Tr (Bool) := l1_WideRootsSay_T l1_works u2_Sqrt u2_Sqrt_s l1_of l1_of_s r1_Sqrt r1_Sqrt_s l1_is l1_is_s r1_Of1 r1_Of1_s r1_Cmp r1_Cmp_s a
def l1_WideRootsSay (a : U2) : Bool := (l1_WideRootsSay_t a).val
def l1_WideRootsSay_s (a : U2) : Bool := (l1_WideRootsSay_t a).safe
/-! flyball/flyballlaw01.WideAdds -/
def l1_WideAdds_T (l1_works : Bool) (u2_Add : U2 → U2 → U2 × Int) (u2_Add_s : U2 → U2 → Bool) (u2_Sub : U2 → U2 → U2 × Int) (u2_Sub_s : U2 → U2 → Bool) (l1_of : U2 → (List Bool)) (l1_of_s : U2 → Bool) (r1_Add : (List Bool) → (List Bool) → (List Bool)) (r1_Add_s : (List Bool) → (List Bool) → Bool) (r1_Sub : (List Bool) → (List Bool) → Int → (List Bool) × Bool) (r1_Sub_s : (List Bool) → (List Bool) → Int → Bool) (l1_is : U2 → (List Bool) → Bool) (l1_is_s : U2 → (List Bool) → Bool) (l1_one : Bool → Int) (u2_Cmp : U2 → U2 → Int) (r1_Cmp : (List Bool) → (List Bool) → Int) (r1_Cmp_s : (List Bool) → (List Bool) → Bool) (u2_Len : U2 → Int) (r1_Len : (List Bool) → Int) (r1_Len_s : (List Bool) → Bool) (a : U2) (b : U2) : Tr (Bool) :=
  Tr.br (!l1_works) (Tr.leaf false)
    (Tr.ast (u2_Add_s a b)
      (Tr.ast (u2_Sub_s a b)
        (Tr.ast (l1_of_s a)
          (Tr.ast (l1_of_s b)
            (Tr.ast (r1_Add_s (l1_of a) (l1_of b))
              (Tr.ast (l1_of_s a)
                (Tr.ast (l1_of_s b)
                  (Tr.ast (r1_Sub_s (l1_of a) (l1_of b) 128)
                    (Tr.ast
                      (decide
                        ((some 128).getD ((r1_Add (l1_of a) (l1_of b)).length : Int) ≤ ((r1_Add (l1_of a) (l1_of b)).length : Int)))
                      (Tr.ast
                        (l1_is_s (u2_Add a b).fst
                          (List.take (((some 128).getD ((r1_Add (l1_of a) (l1_of b)).length : Int)).toNat - Int.toNat 0)
                            (List.drop (Int.toNat 0) (r1_Add (l1_of a) (l1_of b)))))
                        (Tr.ast (l1_is_s (u2_Sub a b).fst (r1_Sub (l1_of a) (l1_of b) 128).fst)
                          (Tr.br l1_works
                            (Tr.br
                              (l1_is (u2_Add a b).fst
                                (List.take (((some 128).getD ((r1_Add (l1_of a) (l1_of b)).length : Int)).toNat - Int.toNat 0)
                                  (List.drop (Int.toNat 0) (r1_Add (l1_of a) (l1_of b)))))
                              (Tr.br (l1_is (u2_Sub a b).fst (r1_Sub (l1_of a) (l1_of b) 128).fst)
                                (Tr.br (decide (((r1_Add (l1_of a) (l1_of b)).length : Int) > 128))
                                  (Tr.ast (decide (128 < ((r1_Add (l1_of a) (l1_of b)).length : Int)))
                                    (Tr.br
                                      ((u2_Add a b).snd ==
                                        l1_one ((r1_Add (l1_of a) (l1_of b)).getD (Int.toNat 128) false))
                                      (Tr.br ((u2_Sub a b).snd == l1_one (r1_Sub (l1_of a) (l1_of b) 128).snd)
                                        (Tr.ast (l1_of_s a)
                                          (Tr.ast (l1_of_s b)
                                            (Tr.ast (r1_Cmp_s (l1_of a) (l1_of b))
                                              (Tr.br (u2_Cmp a b == r1_Cmp (l1_of a) (l1_of b))
                                                (Tr.ast (l1_of_s a)
                                                  (Tr.ast (r1_Len_s (l1_of a)) (Tr.leaf (u2_Len a == r1_Len (l1_of a)))))
                                                (Tr.leaf false)))))
                                        (Tr.leaf false))
                                      (Tr.leaf false)))
                                  (Tr.br ((u2_Add a b).snd == l1_one false)
                                    (Tr.br ((u2_Sub a b).snd == l1_one (r1_Sub (l1_of a) (l1_of b) 128).snd)
                                      (Tr.ast (l1_of_s a)
                                        (Tr.ast (l1_of_s b)
                                          (Tr.ast (r1_Cmp_s (l1_of a) (l1_of b))
                                            (Tr.br (u2_Cmp a b == r1_Cmp (l1_of a) (l1_of b))
                                              (Tr.ast (l1_of_s a)
                                                (Tr.ast (r1_Len_s (l1_of a)) (Tr.leaf (u2_Len a == r1_Len (l1_of a)))))
                                              (Tr.leaf false)))))
                                      (Tr.leaf false))
                                    (Tr.leaf false)))
                                (Tr.leaf false))
                              (Tr.leaf false))
                            (Tr.leaf false)))))))))))))
def l1_WideAdds_t (a : U2) (b : U2) : Tr (Bool) := l1_WideAdds_T l1_works u2_Add u2_Add_s u2_Sub u2_Sub_s l1_of l1_of_s r1_Add r1_Add_s r1_Sub r1_Sub_s l1_is l1_is_s l1_one u2_Cmp r1_Cmp r1_Cmp_s u2_Len r1_Len r1_Len_s a b
def l1_WideAdds (a : U2) (b : U2) : Bool := (l1_WideAdds_t a b).val
def l1_WideAdds_s (a : U2) (b : U2) : Bool := (l1_WideAdds_t a b).safe
/-! flyball/flyballlaw01.WideRoots -/
def l1_WideRoots_T (l1_works : Bool) (u2_Sqrt : U2 → Int × U2) (u2_Sqrt_s : U2 → Bool) (wide_Mul : Int → Int → U2) (u2_Add : U2 → U2 → U2 × Int) (u2_Add_s : U2 → U2 → Bool) (u2_Shl : U2 → Int → U2) (u2_Shl_s : U2 → Int → Bool) (u2_Cmp : U2 → U2 → Int) (a : U2) : Tr (Bool) :=
  Tr.br (!l1_works) (Tr.leaf false)
    (Tr.ast (u2_Sqrt_s a)
      (Tr.ast (u2_Add_s (wide_Mul (u2_Sqrt a).fst (u2_Sqrt a).fst) (u2_Sqrt a).snd)
        (Tr.ast (u2_Shl_s (U2.mk 0 (u2_Sqrt a).fst) 1)
          (Tr.br l1_works
            (Tr.br
              (and ((u2_Add (wide_Mul (u2_Sqrt a).fst (u2_Sqrt a).fst) (u2_Sqrt a).snd).fst.hi == a.hi)
                (and ((u2_Add (wide_Mul (u2_Sqrt a).fst (u2_Sqrt a).fst) (u2_Sqrt a).snd).fst.lo == a.lo) true))
              (Tr.br ((u2_Add (wide_Mul (u2_Sqrt a).fst (u2_Sqrt a).fst) (u2_Sqrt a).snd).snd == 0)
                (Tr.leaf (decide (u2_Cmp (u2_Sqrt a).snd (u2_Shl (U2.mk 0 (u2_Sqrt a).fst) 1) ≤ 0))) (Tr.leaf false))
              (Tr.leaf false))
            (Tr.leaf false)))))
def l1_WideRoots_t (a : U2) : Tr (Bool) := l1_WideRoots_T l1_works u2_Sqrt u2_Sqrt_s wide_Mul u2_Add u2_Add_s u2_Shl u2_Shl_s u2_Cmp a
def l1_WideRoots (a : U2) : Bool := (l1_WideRoots_t a).val
def l1_WideRoots_s (a : U2) : Bool := (l1_WideRoots_t a).safe
/-! flyball/flyballlaw01.WideShifts -/
def l1_WideShifts_T (l1_works : Bool) (u2_Shr : U2 → Int → U2 × Bool) (u2_Shr_s : U2 → Int → Bool) (u3_Shr : U3 → Int → U3 × Bool) (u3_Shr_s : U3 → Int → Bool) (l1_of : U2 → (List Bool)) (l1_of_s : U2 → Bool) (l1_shr : (List Bool) → Int → (List Bool) × Bool) (l1_shr_s : (List Bool) → Int → Bool) (l1_of3 : U3 → (List Bool)) (l1_of3_s : U3 → Bool) (l1_is : U2 → (List Bool) → Bool) (l1_is_s : U2 → (List Bool) → Bool) (l1_is3 : U3 → (List Bool) → Bool) (l1_is3_s : U3 → (List Bool) → Bool) (u2_Shl : U2 → Int → U2) (u2_Shl_s : U2 → Int → Bool) (l1_shl : (List Bool) → Int → (List Bool)) (l1_shl_s : (List Bool) → Int → Bool) (u3_Shl : U3 → Int → U3) (u3_Shl_s : U3 → Int → Bool) (a : U2) (b : U3) (n : Int) : Tr (Bool) :=
  Tr.br (!l1_works) (Tr.leaf false)
    (Tr.ast (u2_Shr_s a n)
      (Tr.ast (u3_Shr_s b n)
        (Tr.ast (l1_of_s a)
          (Tr.ast (l1_shr_s (l1_of a) n)
            (Tr.ast (l1_of3_s b)
              (Tr.ast (l1_shr_s (l1_of3 b) n)
                (Tr.ast (l1_is_s (u2_Shr a n).fst (l1_shr (l1_of a) n).fst)
                  (Tr.ast (l1_is3_s (u3_Shr b n).fst (l1_shr (l1_of3 b) n).fst)
                    (Tr.ast (u2_Shl_s a n)
                      (Tr.ast (l1_of_s a)
                        (Tr.ast (l1_shl_s (l1_of a) n)
                          (Tr.ast (l1_is_s (u2_Shl a n) (l1_shl (l1_of a) n))
                            (Tr.ast (u3_Shl_s b n)
                              (Tr.ast (l1_of3_s b)
                                (Tr.ast (l1_shl_s (l1_of3 b) n)
                                  (Tr.ast (l1_is3_s (u3_Shl b n) (l1_shl (l1_of3 b) n))
                                    (Tr.br l1_works
                                      (Tr.br (l1_is (u2_Shr a n).fst (l1_shr (l1_of a) n).fst)
                                        (Tr.br (l1_is3 (u3_Shr b n).fst (l1_shr (l1_of3 b) n).fst)
                                          (Tr.br (l1_is (u2_Shl a n) (l1_shl (l1_of a) n))
                                            (Tr.br (l1_is3 (u3_Shl b n) (l1_shl (l1_of3 b) n))
                                              (Tr.br ((u2_Shr a n).snd == (l1_shr (l1_of a) n).snd)
                                                (Tr.leaf ((u3_Shr b n).snd == (l1_shr (l1_of3 b) n).snd)) (Tr.leaf false))
                                              (Tr.leaf false))
                                            (Tr.leaf false))
                                          (Tr.leaf false))
                                        (Tr.leaf false))
                                      (Tr.leaf false))))))))))))))))))
def l1_WideShifts_t (a : U2) (b : U3) (n : Int) : Tr (Bool) := l1_WideShifts_T l1_works u2_Shr u2_Shr_s u3_Shr u3_Shr_s l1_of l1_of_s l1_shr l1_shr_s l1_of3 l1_of3_s l1_is l1_is_s l1_is3 l1_is3_s u2_Shl u2_Shl_s l1_shl l1_shl_s u3_Shl u3_Shl_s a b n
def l1_WideShifts (a : U2) (b : U3) (n : Int) : Bool := (l1_WideShifts_t a b n).val
def l1_WideShifts_s (a : U2) (b : U3) (n : Int) : Bool := (l1_WideShifts_t a b n).safe
/-! flyball/wide.Sum -/
def wide_Sum_L0_T (u3_Add : U3 → U3 → U3 × Int) (u3_Add_s : U3 → U3 → Bool) (v6 : List (List Cv)) (v7 : Int) (_h0_0 : Int) (_h0_1 : Int) (_h0_2 : Int) (v8 : Int) (h1_0 : Int) (h1_1 : Int) (h1_2 : Int) : Tr ((Int × Int × Int × Int) ⊕ (Int × Int × Int × Int)) :=
  Tr.br (decide (v8 < v7))
    (Tr.ast (and (decide (0 ≤ v8)) (decide (v8 < (v6.length : Int))))
      (Tr.ast
        (u3_Add_s (U3.mk h1_0 h1_1 h1_2)
          (U3.mk 0 ((v6.getD v8.toNat []).headD (Cv.i 0)).int ((v6.getD v8.toNat []).tail.headD (Cv.i 0)).int))
        (Tr.leaf
          (Sum.inl
            (IntKind.i64.wrap (v8 + 1),
              (u3_Add (U3.mk h1_0 h1_1 h1_2)
                    (U3.mk 0 ((v6.getD v8.toNat []).headD (Cv.i 0)).int
                      ((v6.getD v8.toNat []).tail.headD (Cv.i 0)).int)).fst.hi,
              (u3_Add (U3.mk h1_0 h1_1 h1_2)
                    (U3.mk 0 ((v6.getD v8.toNat []).headD (Cv.i 0)).int
                      ((v6.getD v8.toNat []).tail.headD (Cv.i 0)).int)).fst.mid,
              (u3_Add (U3.mk h1_0 h1_1 h1_2)
                    (U3.mk 0 ((v6.getD v8.toNat []).headD (Cv.i 0)).int
                      ((v6.getD v8.toNat []).tail.headD (Cv.i 0)).int)).fst.lo)))))
    (Tr.leaf (Sum.inr (v8, h1_0, h1_1, h1_2)))
def wide_Sum_L0_step (p : (List (List Cv)) × Int × Int × Int × Int) (x : Int × Int × Int × Int) : Tr ((Int × Int × Int × Int) ⊕ (Int × Int × Int × Int)) := wide_Sum_L0_T u3_Add u3_Add_s p.1 p.2.1 p.2.2.1 p.2.2.2.1 p.2.2.2.2 x.1 x.2.1 x.2.2.1 x.2.2.2
def wide_Sum_L0_r (p : (List (List Cv)) × Int × Int × Int × Int) (x : Int × Int × Int × Int) : Option (Int × Int × Int × Int) := runB (wide_Sum_L0_step p) x
def wide_Sum_L0_v (p : (List (List Cv)) × Int × Int × Int × Int) (x : Int × Int × Int × Int) : Int × Int × Int × Int := (wide_Sum_L0_r p x).getD x
def wide_Sum_L0_ok (p : (List (List Cv)) × Int × Int × Int × Int) (x : Int × Int × Int × Int) : Bool := (wide_Sum_L0_r p x).isSome
def wide_Sum_T (wide_Sum_L0_ok : ((List (List Cv)) × Int × Int × Int × Int) → (Int × Int × Int × Int) → Bool) (wide_Sum_L0_v : ((List (List Cv)) × Int × Int × Int × Int) → (Int × Int × Int × Int) → Int × Int × Int × Int) (l : List (List Cv)) : Tr (U3) :=
  Tr.ast (wide_Sum_L0_ok (id l, ((id l).length : Int), 0, 0, 0) (0, 0, 0, 0))
    (Tr.leaf
      (U3.mk (wide_Sum_L0_v (id l, ((id l).length : Int), 0, 0, 0) (0, 0, 0, 0)).snd.fst
        (wide_Sum_L0_v (id l, ((id l).length : Int), 0, 0, 0) (0, 0, 0, 0)).snd.snd.fst
        (wide_Sum_L0_v (id l, ((id l).length : Int), 0, 0, 0) (0, 0, 0, 0)).snd.snd.snd))
def wide_Sum_t (l : List (List Cv)) : Tr (U3) := wide_Sum_T wide_Sum_L0_ok wide_Sum_L0_v l
def wide_Sum (l : List (List Cv)) : U3 := (wide_Sum_t l).val
def wide_Sum_s (l : List (List Cv)) : Bool := (wide_Sum_t l).safe
/-! flyball/flyballlaw01.WideThrees -/
def l1_WideThrees_L0_T (r1_Add : (List Bool) → (List Bool) → (List Bool)) (r1_Add_s : (List Bool) → (List Bool) → Bool) (l1_of : U2 → (List Bool)) (l1_of_s : U2 → Bool) (v2 : List (List Cv)) (_v6 : Bool) (_v7 : Bool) (_v9 : Int) (_v11 : Int) (_v12 : List Bool) (_v13 : List Bool) (_v14 : Bool) (_v22 : Bool) (_v25 : Bool) (_h0_0 : Int) (_h0_1 : Int) (_h0_2 : Int) (_h1_0 : Int) (_h1_1 : Int) (_h1_2 : Int) (_h2_0 : Int) (_h2_1 : Int) (_h2_2 : Int) (_h3_0 : Int) (_h3_1 : Int) (_h3_2 : Int) (v15 : List Bool) (v16 : Int) : Tr (((List Bool) × Int) ⊕ ((List Bool) × Int)) :=
  Tr.br (decide (v16 < (v2.length : Int)))
    (Tr.ast (and (decide (0 ≤ v16)) (decide (v16 < (v2.length : Int))))
      (Tr.ast
        (l1_of_s (U2.mk ((v2.getD v16.toNat []).headD (Cv.i 0)).int ((v2.getD v16.toNat []).tail.headD (Cv.i 0)).int))
        (Tr.ast
          (r1_Add_s v15
            (l1_of (U2.mk ((v2.getD v16.toNat []).headD (Cv.i 0)).int ((v2.getD v16.toNat []).tail.headD (Cv.i 0)).int)))
          (Tr.leaf
            (Sum.inl
              (r1_Add v15
                  (l1_of
                    (U2.mk ((v2.getD v16.toNat []).headD (Cv.i 0)).int ((v2.getD v16.toNat []).tail.headD (Cv.i 0)).int)),
                IntKind.i64.wrap (v16 + 1)))))))
    (Tr.leaf (Sum.inr (v15, v16)))
def l1_WideThrees_L0_step (p : (List (List Cv)) × Bool × Bool × Int × Int × (List Bool) × (List Bool) × Bool × Bool × Bool × Int × Int × Int × Int × Int × Int × Int × Int × Int × Int × Int × Int) (x : (List Bool) × Int) : Tr (((List Bool) × Int) ⊕ ((List Bool) × Int)) := l1_WideThrees_L0_T r1_Add r1_Add_s l1_of l1_of_s p.1 p.2.1 p.2.2.1 p.2.2.2.1 p.2.2.2.2.1 p.2.2.2.2.2.1 p.2.2.2.2.2.2.1 p.2.2.2.2.2.2.2.1 p.2.2.2.2.2.2.2.2.1 p.2.2.2.2.2.2.2.2.2.1 p.2.2.2.2.2.2.2.2.2.2.1 p.2.2.2.2.2.2.2.2.2.2.2.1 p.2.2.2.2.2.2.2.2.2.2.2.2.1 p.2.2.2.2.2.2.2.2.2.2.2.2.2.1 p.2.2.2.2.2.2.2.2.2.2.2.2.2.2.1 p.2.2.2.2.2.2.2.2.2.2.2.2.2.2.2.1 p.2.2.2.2.2.2.2.2.2.2.2.2.2.2.2.2.1 p.2.2.2.2.2.2.2.2.2.2.2.2.2.2.2.2.2.1 p.2.2.2.2.2.2.2.2.2.2.2.2.2.2.2.2.2.2.1 p.2.2.2.2.2.2.2.2.2.2.2.2.2.2.2.2.2.2.2.1 p.2.2.2.2.2.2.2.2.2.2.2.2.2.2.2.2.2.2.2.2.1 p.2.2.2.2.2.2.2.2.2.2.2.2.2.2.2.2.2.2.2.2.2 x.1 x.2
def l1_WideThrees_L0_r (p : (List (List Cv)) × Bool × Bool × Int × Int × (List Bool) × (List Bool) × Bool × Bool × Bool × Int × Int × Int × Int × Int × Int × Int × Int × Int × Int × Int × Int) (x : (List Bool) × Int) : Option ((List Bool) × Int) := runB (l1_WideThrees_L0_step p) x
def l1_WideThrees_L0_v (p : (List (List Cv)) × Bool × Bool × Int × Int × (List Bool) × (List Bool) × Bool × Bool × Bool × Int × Int × Int × Int × Int × Int × Int × Int × Int × Int × Int × Int) (x : (List Bool) × Int) : (List Bool) × Int := (l1_WideThrees_L0_r p x).getD x
def l1_WideThrees_L0_ok (p : (List (List Cv)) × Bool × Bool × Int × Int × (List Bool) × (List Bool) × Bool × Bool × Bool × Int × Int × Int × Int × Int × Int × Int × Int × Int × Int × Int × Int) (x : (List Bool) × Int) : Bool := (l1_WideThrees_L0_r p x).isSome
def l1_WideThrees_T (l1_works : Bool) (u3_Add : U3 → U3 → U3 × Int) (u3_Add_s : U3 → U3 → Bool) (u3_Sub : U3 → U3 → U3 × Int) (u3_Sub_s : U3 → U3 → Bool) (l1_of3 : U3 → (List Bool)) (l1_of3_s : U3 → Bool) (r1_Add : (List Bool) → (List Bool) → (List Bool)) (r1_Add_s : (List Bool) → (List Bool) → Bool) (r1_Sub : (List Bool) → (List Bool) → Int → (List Bool) × Bool) (r1_Sub_s : (List Bool) → (List Bool) → Int → Bool) (l1_is3 : U3 → (List Bool) → Bool) (l1_is3_s : U3 → (List Bool) → Bool) (wide_Sum : (List (List Cv)) → U3) (wide_Sum_s : (List (List Cv)) → Bool) (l1_one : Bool → Int) (u3_Cmp : U3 → U3 → Int) (r1_Cmp : (List Bool) → (List Bool) → Int) (r1_Cmp_s : (List Bool) → (List Bool) → Bool) (u3_Len : U3 → Int) (r1_Len : (List Bool) → Int) (r1_Len_s : (List Bool) → Bool) (l1_WideThrees_L0_ok : ((List (List Cv)) × Bool × Bool × Int × Int × (List Bool) × (List Bool) × Bool × Bool × Bool × Int × Int × Int × Int × Int × Int × Int × Int × Int × Int × Int × Int) → ((List Bool) × Int) → Bool) (l1_WideThrees_L0_v : ((List (List Cv)) × Bool × Bool × Int × Int × (List Bool) × (List Bool) × Bool × Bool × Bool × Int × Int × Int × Int × Int × Int × Int × Int × Int × Int × Int × Int) → ((List Bool) × Int) → (List Bool) × Int) (a : U3) (b : U3) (l : List (List Cv)) : Tr (Bool) :=
  let t0 : List (List Cv) := id (id l);
  let t1 : U3 := wide_Sum t0;
  let t2 : Int := ((r1_Add (l1_of3 a) (l1_of3 b)).length : Int);
  let t3 : List Bool × Bool := r1_Sub (l1_of3 a) (l1_of3 b) 192;
  let t4 : Int := ((id l).length : Int);
  let t5 : List Bool × Int := ([], 0);
  let t6 : List Bool := t3.fst;
  let t7 : Bool := t3.snd;
  let t8 : Int := (some 192).getD t2;
  let t9 : List Bool := List.take (t8.toNat - Int.toNat 0) (List.drop (Int.toNat 0) (r1_Add (l1_of3 a) (l1_of3 b)));
  let t10 :
    List (List Cv) ×
      Bool ×
        Bool ×
          Int ×
            Int ×
              List Bool ×
                List Bool × Bool × Bool × Bool × Int × Int × Int × Int × Int × Int × Int × Int × Int × Int × Int × Int :=
    (id l, false, l1_works, (u3_Add a b).snd, (u3_Sub a b).snd, r1_Add (l1_of3 a) (l1_of3 b), t6, t7, false, false, a.hi,
      a.mid, a.lo, b.hi, b.mid, b.lo, (u3_Add a b).fst.hi, (u3_Add a b).fst.mid, (u3_Add a b).fst.lo, (u3_Sub a b).fst.hi,
      (u3_Sub a b).fst.mid, (u3_Sub a b).fst.lo);
  let t11 : List Bool := (l1_WideThrees_L0_v t10 t5).fst;
  let t12 : Int := (t11.length : Int);
  let t13 : Int := (some (imin t12 192)).getD t12;
  let t14 : List Bool := List.take (t13.toNat - Int.toNat 0) (List.drop (Int.toNat 0) t11);
  Tr.br (!l1_works) (Tr.leaf false)
    (Tr.br (decide (t4 > 300)) (Tr.leaf l1_works)
      (Tr.ast (u3_Add_s a b)
        (Tr.ast (u3_Sub_s a b)
          (Tr.ast (l1_of3_s a)
            (Tr.ast (l1_of3_s b)
              (Tr.ast (r1_Add_s (l1_of3 a) (l1_of3 b))
                (Tr.ast (l1_of3_s a)
                  (Tr.ast (l1_of3_s b)
                    (Tr.ast (r1_Sub_s (l1_of3 a) (l1_of3 b) 192)
                      (Tr.ast (l1_WideThrees_L0_ok t10 t5)
                        (Tr.ast (decide (t8 ≤ t2))
                          (Tr.ast (l1_is3_s (u3_Add a b).fst t9)
                            (Tr.ast (l1_is3_s (u3_Sub a b).fst t6)
                              (Tr.ast (wide_Sum_s t0)
                                (Tr.ast (and (decide (0 ≤ t13)) (decide (t13 ≤ t12)))
                                  (Tr.ast (l1_is3_s t1 t14)
                                    (Tr.br l1_works
                                      (Tr.br (l1_is3 (u3_Add a b).fst t9)
                                        (Tr.br (l1_is3 (u3_Sub a b).fst t6)
                                          (Tr.br (l1_is3 t1 t14)
                                            (Tr.br (decide (t2 > 192))
                                              (Tr.ast (decide (192 < t2))
                                                (Tr.br
                                                  ((u3_Add a b).snd ==
                                                    l1_one ((r1_Add (l1_of3 a) (l1_of3 b)).getD (Int.toNat 192) false))
                                                  (Tr.br ((u3_Sub a b).snd == l1_one t7)
                                                    (Tr.ast (l1_of3_s a)
                                                      (Tr.ast (l1_of3_s b)
                                                        (Tr.ast (r1_Cmp_s (l1_of3 a) (l1_of3 b))
                                                          (Tr.br (u3_Cmp a b == r1_Cmp (l1_of3 a) (l1_of3 b))
                                                            (Tr.ast (l1_of3_s a)
                                                              (Tr.ast (r1_Len_s (l1_of3 a))
                                                                (Tr.leaf (u3_Len a == r1_Len (l1_of3 a)))))
                                                            (Tr.leaf false)))))
                                                    (Tr.leaf false))
                                                  (Tr.leaf false)))
                                              (Tr.br ((u3_Add a b).snd == l1_one false)
                                                (Tr.br ((u3_Sub a b).snd == l1_one t7)
                                                  (Tr.ast (l1_of3_s a)
                                                    (Tr.ast (l1_of3_s b)
                                                      (Tr.ast (r1_Cmp_s (l1_of3 a) (l1_of3 b))
                                                        (Tr.br (u3_Cmp a b == r1_Cmp (l1_of3 a) (l1_of3 b))
                                                          (Tr.ast (l1_of3_s a)
                                                            (Tr.ast (r1_Len_s (l1_of3 a))
                                                              (Tr.leaf (u3_Len a == r1_Len (l1_of3 a)))))
                                                          (Tr.leaf false)))))
                                                  (Tr.leaf false))
                                                (Tr.leaf false)))
                                            (Tr.leaf false))
                                          (Tr.leaf false))
                                        (Tr.leaf false))
                                      (Tr.leaf false))))))))))))))))))
def l1_WideThrees_t (a : U3) (b : U3) (l : List (List Cv)) : Tr (Bool) := l1_WideThrees_T l1_works u3_Add u3_Add_s u3_Sub u3_Sub_s l1_of3 l1_of3_s r1_Add r1_Add_s r1_Sub r1_Sub_s l1_is3 l1_is3_s wide_Sum wide_Sum_s l1_one u3_Cmp r1_Cmp r1_Cmp_s u3_Len r1_Len r1_Len_s l1_WideThrees_L0_ok l1_WideThrees_L0_v a b l
def l1_WideThrees (a : U3) (b : U3) (l : List (List Cv)) : Bool := (l1_WideThrees_t a b l).val
def l1_WideThrees_s (a : U3) (b : U3) (l : List (List Cv)) : Bool := (l1_WideThrees_t a b l).safe
/-! flyball/flyballlaw01.WideDivides -/
def l1_WideDivides_T (l1_works : Bool) (u2_Div : U2 → Int → U2 × Int) (u2_Div_s : U2 → Int → Bool) (u3_Div : U3 → U2 → U3 × U2) (u3_Div_s : U3 → U2 → Bool) (l1_of : U2 → (List Bool)) (l1_of_s : U2 → Bool) (r1_Of1 : Int → (List Bool)) (r1_Of1_s : Int → Bool) (r1_Div : (List Bool) → (List Bool) → (List Bool) × (List Bool)) (r1_Div_s : (List Bool) → (List Bool) → Bool) (l1_is : U2 → (List Bool) → Bool) (l1_is_s : U2 → (List Bool) → Bool) (r1_Cmp : (List Bool) → (List Bool) → Int) (r1_Cmp_s : (List Bool) → (List Bool) → Bool) (l1_of3 : U3 → (List Bool)) (l1_of3_s : U3 → Bool) (l1_is3 : U3 → (List Bool) → Bool) (l1_is3_s : U3 → (List Bool) → Bool) (a : U2) (b : Int) (c : U3) (d : U2) : Tr (Bool) :=
  Tr.br (!l1_works) (Tr.leaf false)
    (Tr.ast (u2_Div_s a b)
      (Tr.ast (u3_Div_s c d)
        (Tr.br (b == 0)
          (Tr.br (!((u2_Div a b).fst.hi == 0 && ((u2_Div a b).fst.lo == 0 && true))) (Tr.leaf false)
            (Tr.br ((u2_Div a b).snd != 0) (Tr.leaf false)
              (Tr.br (and (d.hi == 0) (and (d.lo == 0) true))
                (Tr.br l1_works
                  (Tr.br
                    (and ((u3_Div c d).fst.hi == 0)
                      (and ((u3_Div c d).fst.mid == 0) (and ((u3_Div c d).fst.lo == 0) true)))
                    (Tr.leaf ((u3_Div c d).snd.hi == 0 && ((u3_Div c d).snd.lo == 0 && true))) (Tr.leaf false))
                  (Tr.leaf false))
                (Tr.ast (l1_of3_s c)
                  (Tr.ast (l1_of_s d)
                    (Tr.ast (r1_Div_s (l1_of3 c) (l1_of d))
                      (Tr.ast (l1_is3_s (u3_Div c d).fst (r1_Div (l1_of3 c) (l1_of d)).fst)
                        (Tr.ast (l1_is_s (u3_Div c d).snd (r1_Div (l1_of3 c) (l1_of d)).snd)
                          (Tr.br l1_works
                            (Tr.br (l1_is3 (u3_Div c d).fst (r1_Div (l1_of3 c) (l1_of d)).fst)
                              (Tr.leaf (l1_is (u3_Div c d).snd (r1_Div (l1_of3 c) (l1_of d)).snd)) (Tr.leaf false))
                            (Tr.leaf false))))))))))
          (Tr.ast (l1_of_s a)
            (Tr.ast (r1_Of1_s b)
              (Tr.ast (r1_Div_s (l1_of a) (r1_Of1 b))
                (Tr.ast (l1_is_s (u2_Div a b).fst (r1_Div (l1_of a) (r1_Of1 b)).fst)
                  (Tr.br (!l1_is (u2_Div a b).fst (r1_Div (l1_of a) (r1_Of1 b)).fst) (Tr.leaf false)
                    (Tr.ast (r1_Of1_s (u2_Div a b).snd)
                      (Tr.ast (r1_Cmp_s (r1_Of1 (u2_Div a b).snd) (r1_Div (l1_of a) (r1_Of1 b)).snd)
                        (Tr.br (r1_Cmp (r1_Of1 (u2_Div a b).snd) (r1_Div (l1_of a) (r1_Of1 b)).snd != 0) (Tr.leaf false)
                          (Tr.br (and (d.hi == 0) (and (d.lo == 0) true))
                            (Tr.br l1_works
                              (Tr.br
                                (and ((u3_Div c d).fst.hi == 0)
                                  (and ((u3_Div c d).fst.mid == 0) (and ((u3_Div c d).fst.lo == 0) true)))
                                (Tr.leaf ((u3_Div c d).snd.hi == 0 && ((u3_Div c d).snd.lo == 0 && true)))
                                (Tr.leaf false))
                              (Tr.leaf false))
                            (Tr.ast (l1_of3_s c)
                              (Tr.ast (l1_of_s d)
                                (Tr.ast (r1_Div_s (l1_of3 c) (l1_of d))
                                  (Tr.ast (l1_is3_s (u3_Div c d).fst (r1_Div (l1_of3 c) (l1_of d)).fst)
                                    (Tr.ast (l1_is_s (u3_Div c d).snd (r1_Div (l1_of3 c) (l1_of d)).snd)
                                      (Tr.br l1_works
                                        (Tr.br (l1_is3 (u3_Div c d).fst (r1_Div (l1_of3 c) (l1_of d)).fst)
                                          (Tr.leaf (l1_is (u3_Div c d).snd (r1_Div (l1_of3 c) (l1_of d)).snd))
                                          (Tr.leaf false))
                                        (Tr.leaf false)))))))))))))))))))
def l1_WideDivides_t (a : U2) (b : Int) (c : U3) (d : U2) : Tr (Bool) := l1_WideDivides_T l1_works u2_Div u2_Div_s u3_Div u3_Div_s l1_of l1_of_s r1_Of1 r1_Of1_s r1_Div r1_Div_s l1_is l1_is_s r1_Cmp r1_Cmp_s l1_of3 l1_of3_s l1_is3 l1_is3_s a b c d
def l1_WideDivides (a : U2) (b : Int) (c : U3) (d : U2) : Bool := (l1_WideDivides_t a b c d).val
def l1_WideDivides_s (a : U2) (b : Int) (c : U3) (d : U2) : Bool := (l1_WideDivides_t a b c d).safe
/-! flyball/flyballlaw01.WideBack -/
def l1_WideBack_T (l1_works : Bool) (u2_Add : U2 → U2 → U2 × Int) (u2_Add_s : U2 → U2 → Bool) (u2_Sub : U2 → U2 → U2 × Int) (u2_Sub_s : U2 → U2 → Bool) (u2_Mul : U2 → Int → U3) (u2_Mul_s : U2 → Int → Bool) (u3_Div : U3 → U2 → U3 × U2) (u3_Div_s : U3 → U2 → Bool) (u2_Len : U2 → Int) (u2_Shl : U2 → Int → U2) (u2_Shl_s : U2 → Int → Bool) (u2_Shr : U2 → Int → U2 × Bool) (u2_Shr_s : U2 → Int → Bool) (a : U2) (b : Int) (n : Int) : Tr (Bool) :=
  Tr.br (!l1_works) (Tr.leaf false)
    (Tr.ast (u2_Add_s a (U2.mk 0 b))
      (Tr.ast (u2_Sub_s (u2_Add a (U2.mk 0 b)).fst (U2.mk 0 b))
        (Tr.ast (u2_Mul_s a b)
          (Tr.ast (u3_Div_s (u2_Mul a b) (U2.mk 0 b))
            (Tr.ast (u2_Shl_s a (imin (imax n 0) (IntKind.i64.wrap (128 - u2_Len a))))
              (Tr.ast
                (u2_Shr_s (u2_Shl a (imin (imax n 0) (IntKind.i64.wrap (128 - u2_Len a))))
                  (imin (imax n 0) (IntKind.i64.wrap (128 - u2_Len a))))
                (Tr.br
                  (and ((u3_Div (u2_Mul a b) (U2.mk 0 b)).fst.hi == 0)
                    (and ((u3_Div (u2_Mul a b) (U2.mk 0 b)).fst.mid == a.hi)
                      (and ((u3_Div (u2_Mul a b) (U2.mk 0 b)).fst.lo == a.lo) true)))
                  (Tr.br l1_works
                    (Tr.br
                      (and ((u2_Sub (u2_Add a (U2.mk 0 b)).fst (U2.mk 0 b)).fst.hi == a.hi)
                        (and ((u2_Sub (u2_Add a (U2.mk 0 b)).fst (U2.mk 0 b)).fst.lo == a.lo) true))
                      (Tr.br (b == 0)
                        (Tr.br
                          (and
                            ((u2_Shr (u2_Shl a (imin (imax n 0) (IntKind.i64.wrap (128 - u2_Len a))))
                                    (imin (imax n 0) (IntKind.i64.wrap (128 - u2_Len a)))).fst.hi ==
                              a.hi)
                            (and
                              ((u2_Shr (u2_Shl a (imin (imax n 0) (IntKind.i64.wrap (128 - u2_Len a))))
                                      (imin (imax n 0) (IntKind.i64.wrap (128 - u2_Len a)))).fst.lo ==
                                a.lo)
                              true))
                          (Tr.leaf
                            !(u2_Shr (u2_Shl a (imin (imax n 0) (IntKind.i64.wrap (128 - u2_Len a))))
                                  (imin (imax n 0) (IntKind.i64.wrap (128 - u2_Len a)))).snd)
                          (Tr.leaf false))
                        (Tr.br
                          (and ((u3_Div (u2_Mul a b) (U2.mk 0 b)).snd.hi == 0)
                            (and ((u3_Div (u2_Mul a b) (U2.mk 0 b)).snd.lo == 0) true))
                          (Tr.br
                            (and
                              ((u2_Shr (u2_Shl a (imin (imax n 0) (IntKind.i64.wrap (128 - u2_Len a))))
                                      (imin (imax n 0) (IntKind.i64.wrap (128 - u2_Len a)))).fst.hi ==
                                a.hi)
                              (and
                                ((u2_Shr (u2_Shl a (imin (imax n 0) (IntKind.i64.wrap (128 - u2_Len a))))
                                        (imin (imax n 0) (IntKind.i64.wrap (128 - u2_Len a)))).fst.lo ==
                                  a.lo)
                                true))
                            (Tr.leaf
                              !(u2_Shr (u2_Shl a (imin (imax n 0) (IntKind.i64.wrap (128 - u2_Len a))))
                                    (imin (imax n 0) (IntKind.i64.wrap (128 - u2_Len a)))).snd)
                            (Tr.leaf false))
                          (Tr.leaf false)))
                      (Tr.leaf false))
                    (Tr.leaf false))
                  (Tr.br l1_works
                    (Tr.br
                      (and ((u2_Sub (u2_Add a (U2.mk 0 b)).fst (U2.mk 0 b)).fst.hi == a.hi)
                        (and ((u2_Sub (u2_Add a (U2.mk 0 b)).fst (U2.mk 0 b)).fst.lo == a.lo) true))
                      (Tr.br (b == 0)
                        (Tr.br
                          (and
                            ((u2_Shr (u2_Shl a (imin (imax n 0) (IntKind.i64.wrap (128 - u2_Len a))))
                                    (imin (imax n 0) (IntKind.i64.wrap (128 - u2_Len a)))).fst.hi ==
                              a.hi)
                            (and
                              ((u2_Shr (u2_Shl a (imin (imax n 0) (IntKind.i64.wrap (128 - u2_Len a))))
                                      (imin (imax n 0) (IntKind.i64.wrap (128 - u2_Len a)))).fst.lo ==
                                a.lo)
                              true))
                          (Tr.leaf
                            !(u2_Shr (u2_Shl a (imin (imax n 0) (IntKind.i64.wrap (128 - u2_Len a))))
                                  (imin (imax n 0) (IntKind.i64.wrap (128 - u2_Len a)))).snd)
                          (Tr.leaf false))
                        (Tr.leaf false))
                      (Tr.leaf false))
                    (Tr.leaf false)))))))))
def l1_WideBack_t (a : U2) (b : Int) (n : Int) : Tr (Bool) := l1_WideBack_T l1_works u2_Add u2_Add_s u2_Sub u2_Sub_s u2_Mul u2_Mul_s u3_Div u3_Div_s u2_Len u2_Shl u2_Shl_s u2_Shr u2_Shr_s a b n
def l1_WideBack (a : U2) (b : Int) (n : Int) : Bool := (l1_WideBack_t a b n).val
def l1_WideBack_s (a : U2) (b : Int) (n : Int) : Bool := (l1_WideBack_t a b n).safe
end Go.Fb
