/- Layer 2: what the laws compute, as definitions. Conditions: none. -/
import Derived.Test.YtggmmkdfgjnjfaaNd
namespace Go.Fb
open Go.Ev
def l2_works_T (n_New : Int → (List Int)) (n_New_s : Int → Bool) (n_Sub : (List Int) → (List Int) → (List Int) × Bool) (n_Sub_s : (List Int) → (List Int) → Bool) (n_Parse : (List UInt8) → (List Int) × Int) (n_Parse_s : (List UInt8) → Bool) (n_Pow : Int → Int → (List Int) × Int) (n_Pow_s : Int → Int → Bool) (n_Gcd : (List Int) → (List Int) → (List Int)) (n_Gcd_s : (List Int) → (List Int) → Bool) (n_Uint : (List Int) → Int × Bool) (n_Uint_s : (List Int) → Bool) (n_Div : (List Int) → (List Int) → (List Int) × (List Int) × Int) (n_Div_s : (List Int) → (List Int) → Bool) (n_Shl : (List Int) → Int → (List Int) × Int) (n_Shl_s : (List Int) → Int → Bool) (n_Text : (List Int) → (List UInt8)) (n_Text_s : (List Int) → Bool) (n_Cmp : (List Int) → (List Int) → Int) (n_Cmp_s : (List Int) → (List Int) → Bool) (n_Bit : (List Int) → Int → Int) (n_Bit_s : (List Int) → Int → Bool) (n_Shr : (List Int) → Int → (List Int)) (n_Shr_s : (List Int) → Int → Bool) (n_Len : (List Int) → Int) (n_Len_s : (List Int) → Bool) (n_Mul : (List Int) → (List Int) → (List Int)) (n_Mul_s : (List Int) → (List Int) → Bool) (n_Add : (List Int) → (List Int) → (List Int)) (n_Add_s : (List Int) → (List Int) → Bool)  : Tr (Bool) :=
  let t0 : Int := ((n_New 4294967296).length : Int);
  let t1 : List Int × Int := n_Pow 10 3;
  let t2 : List Int × Int := n_Shl (n_New 1) 40;
  let t3 : List Int := n_Mul (n_New 4294967296) (n_New 4294967296);
  let t4 : List Int × List Int × Int := n_Div (n_New 17) (n_New 5);
  let t5 : List Int := n_Add (n_New 4294967296) (n_New 4294967296);
  let t6 : List Int := n_Gcd (n_New 12) (n_New 18);
  let t7 : Int × Bool := n_Uint t6;
  let t8 : List Int := t1.fst;
  let t9 : List Int := t2.fst;
  let t10 : List Int × Int := t4.snd;
  let t11 : List Int := t4.fst;
  let t12 : List Int := n_Shr t9 40;
  let t13 : List Int := t10.fst;
  let t14 : List Int × Int :=
    n_Parse
      #[48, 48, 51, 52, 48, 50, 56, 50, 51, 54, 54, 57, 50, 48, 57, 51, 56, 52, 54, 51, 52, 54, 51, 51, 55, 52, 54, 48,
          55, 52, 51, 49, 55, 54, 56, 50, 49, 49, 52, 53, 54].toList;
  let t15 : List Int := t14.fst;
  let t16 : Int := (t15.length : Int);
  Tr.ast (n_New_s 4294967296)
    (Tr.ast (n_New_s 7)
      (Tr.ast (n_New_s 9)
        (Tr.ast (n_Sub_s (n_New 7) (n_New 9))
          (Tr.ast
            (n_Parse_s
              #[48, 48, 51, 52, 48, 50, 56, 50, 51, 54, 54, 57, 50, 48, 57, 51, 56, 52, 54, 51, 52, 54, 51, 51, 55, 52,
                  54, 48, 55, 52, 51, 49, 55, 54, 56, 50, 49, 49, 52, 53, 54].toList)
            (Tr.ast (n_Pow_s 10 3)
              (Tr.ast (n_Pow_s 2 65536)
                (Tr.ast (n_New_s 12)
                  (Tr.ast (n_New_s 18)
                    (Tr.ast (n_Gcd_s (n_New 12) (n_New 18))
                      (Tr.ast (n_Uint_s t6)
                        (Tr.ast (n_New_s 17)
                          (Tr.ast (n_New_s 5)
                            (Tr.ast (n_Div_s (n_New 17) (n_New 5))
                              (Tr.ast (n_New_s 1)
                                (Tr.ast (n_Shl_s (n_New 1) 40)
                                  (Tr.br (t0 == 2)
                                    (Tr.ast (decide (0 < t0))
                                      (Tr.br ((n_New 4294967296).getD (Int.toNat 0) 0 == 0)
                                        (Tr.ast (decide (1 < t0))
                                          (Tr.br ((n_New 4294967296).getD (Int.toNat 1) 0 == 1)
                                            (Tr.br (!(n_Sub (n_New 7) (n_New 9)).snd)
                                              (Tr.br (t16 == 5)
                                                (Tr.ast (decide (4 < t16))
                                                  (Tr.br (t15.getD (Int.toNat 4) 0 == 1)
                                                    (Tr.br (t14.snd == 0)
                                                      (Tr.ast (n_Text_s t8)
                                                        (Tr.br (n_Text t8 == #[49, 48, 48, 48].toList)
                                                          (Tr.br (t1.snd == 0)
                                                            (Tr.br ((n_Pow 2 65536).snd == 20)
                                                              (Tr.br (t7.fst == 6)
                                                                (Tr.br t7.snd
                                                                  (Tr.ast (n_New_s 3)
                                                                    (Tr.ast (n_Cmp_s t11 (n_New 3))
                                                                      (Tr.br (n_Cmp t11 (n_New 3) == 0)
                                                                        (Tr.ast (n_New_s 2)
                                                                          (Tr.ast (n_Cmp_s t13 (n_New 2))
                                                                            (Tr.br (n_Cmp t13 (n_New 2) == 0)
                                                                              (Tr.br (t10.snd == 0)
                                                                                (Tr.ast (n_Bit_s t9 40)
                                                                                  (Tr.br (n_Bit t9 40 == 1)
                                                                                    (Tr.br (t2.snd == 0)
                                                                                      (Tr.ast (n_Shr_s t9 40)
                                                                                        (Tr.ast (n_Len_s t12)
                                                                                          (Tr.br (n_Len t12 == 1)
                                                                                            (Tr.ast
                                                                                              (n_Mul_s (n_New 4294967296)
                                                                                                (n_New 4294967296))
                                                                                              (Tr.ast (n_Len_s t3)
                                                                                                (Tr.br (n_Len t3 == 65)
                                                                                                  (Tr.ast
                                                                                                    (n_Add_s
                                                                                                      (n_New 4294967296)
                                                                                                      (n_New 4294967296))
                                                                                                    (Tr.ast (n_Len_s t5)
                                                                                                      (Tr.leaf
                                                                                                        (n_Len t5 ==
                                                                                                          34))))
                                                                                                  (Tr.leaf false))))
                                                                                            (Tr.leaf false))))
                                                                                      (Tr.leaf false))
                                                                                    (Tr.leaf false)))
                                                                                (Tr.leaf false))
                                                                              (Tr.leaf false))))
                                                                        (Tr.leaf false))))
                                                                  (Tr.leaf false))
                                                                (Tr.leaf false))
                                                              (Tr.leaf false))
                                                            (Tr.leaf false))
                                                          (Tr.leaf false)))
                                                      (Tr.leaf false))
                                                    (Tr.leaf false)))
                                                (Tr.leaf false))
                                              (Tr.leaf false))
                                            (Tr.leaf false)))
                                        (Tr.leaf false)))
                                    (Tr.leaf false)))))))))))))))))
def l2_works_t  : Tr (Bool) := l2_works_T n_New n_New_s n_Sub n_Sub_s n_Parse n_Parse_s n_Pow n_Pow_s n_Gcd n_Gcd_s n_Uint n_Uint_s n_Div n_Div_s n_Shl n_Shl_s n_Text n_Text_s n_Cmp n_Cmp_s n_Bit n_Bit_s n_Shr n_Shr_s n_Len n_Len_s n_Mul n_Mul_s n_Add n_Add_s 
def l2_works  : Bool := (l2_works_t ).val
def l2_works_s  : Bool := (l2_works_t ).safe
def l2_small_L0_T  (v0 : List (List Cv)) (_v2 : Bool) (v3 : Int) : Tr ((Int) ⊕ ((Int) ⊕ (Bool))) :=
  Tr.br (decide (v3 < (v0.length : Int)))
    (Tr.ast (decide (0 ≤ v3) && decide (v3 < (v0.length : Int)))
      (Tr.br (decide ((((v0.getD v3.toNat []).headD (Cv.i 0)).ints.length : Int) > 24)) (Tr.leaf (Sum.inr (Sum.inr false)))
        (Tr.leaf (Sum.inl (IntKind.i64.wrap (v3 + 1))))))
    (Tr.leaf (Sum.inr (Sum.inl v3)))
def l2_small_L0_step (p : (List (List Cv)) × Bool) (x : Int) : Tr ((Int) ⊕ ((Int) ⊕ (Bool))) := l2_small_L0_T  p.1 p.2 x
def l2_small_L0_r (p : (List (List Cv)) × Bool) (x : Int) : Option ((Int) ⊕ (Bool)) := runB (l2_small_L0_step p) x
def l2_small_L0_rt (p : (List (List Cv)) × Bool) (x : Int) : Bool := isR (l2_small_L0_r p x)
def l2_small_L0_v (p : (List (List Cv)) × Bool) (x : Int) : Int := outL_ x (l2_small_L0_r p x)
def l2_small_L0_rv (p : (List (List Cv)) × Bool) (x : Int) : Bool := outR_ false (l2_small_L0_r p x)
def l2_small_L0_ok (p : (List (List Cv)) × Bool) (x : Int) : Bool := (l2_small_L0_r p x).isSome
def l2_small_T (l2_small_L0_ok : ((List (List Cv)) × Bool) → Int → Bool) (l2_small_L0_rt : ((List (List Cv)) × Bool) → Int → Bool) (l2_small_L0_rv : ((List (List Cv)) × Bool) → Int → Bool) (l : List (List Cv)) : Tr (Bool) :=
  Tr.ast (l2_small_L0_ok (id l, false) 0)
    (Tr.br (l2_small_L0_rt (id l, false) 0) (Tr.leaf (l2_small_L0_rv (id l, false) 0)) (Tr.leaf true))
def l2_small_t (l : List (List Cv)) : Tr (Bool) := l2_small_T l2_small_L0_ok l2_small_L0_rt l2_small_L0_rv l
def l2_small (l : List (List Cv)) : Bool := (l2_small_t l).val
def l2_small_s (l : List (List Cv)) : Bool := (l2_small_t l).safe
def l_NatAdds_T (l2_works : Bool) (l2_works_s : Bool) (l2_small : (List (List Cv)) → Bool) (l2_small_s : (List (List Cv)) → Bool) (r2_Bits : (List Int) → (List Bool)) (r2_Bits_s : (List Int) → Bool) (r1_Cmp : (List Bool) → (List Bool) → Int) (r1_Cmp_s : (List Bool) → (List Bool) → Bool) (n_Add : (List Int) → (List Int) → (List Int)) (n_Add_s : (List Int) → (List Int) → Bool) (r1_Add : (List Bool) → (List Bool) → (List Bool)) (r1_Add_s : (List Bool) → (List Bool) → Bool) (r2_Is : (List Int) → (List Bool) → Bool) (r2_Is_s : (List Int) → (List Bool) → Bool) (n_Mul : (List Int) → (List Int) → (List Int)) (n_Mul_s : (List Int) → (List Int) → Bool) (r1_Mul : (List Bool) → (List Bool) → (List Bool)) (r1_Mul_s : (List Bool) → (List Bool) → Bool) (n_Sub : (List Int) → (List Int) → (List Int) × Bool) (n_Sub_s : (List Int) → (List Int) → Bool) (n_Cmp : (List Int) → (List Int) → Int) (n_Cmp_s : (List Int) → (List Int) → Bool) (r1_Sub : (List Bool) → (List Bool) → Int → (List Bool) × Bool) (r1_Sub_s : (List Bool) → (List Bool) → Int → Bool) (a : List Int) (b : List Int) : Tr (Bool) :=
  Tr.ast l2_works_s
    (Tr.br (!l2_works) (Tr.leaf false)
      (Tr.ast (l2_small_s (id [[Cv.l a], [Cv.l b]]))
        (Tr.br (!l2_small (id [[Cv.l a], [Cv.l b]])) (Tr.leaf l2_works)
          (Tr.ast (r2_Bits_s a)
            (Tr.ast (r2_Bits_s b)
              (Tr.ast (r1_Cmp_s (r2_Bits a) (r2_Bits b))
                (Tr.ast (n_Add_s a b)
                  (Tr.ast (r1_Add_s (r2_Bits a) (r2_Bits b))
                    (Tr.ast (r2_Is_s (n_Add a b) (r1_Add (r2_Bits a) (r2_Bits b)))
                      (Tr.ast (n_Mul_s a b)
                        (Tr.ast (r1_Mul_s (r2_Bits a) (r2_Bits b))
                          (Tr.ast (r2_Is_s (n_Mul a b) (r1_Mul (r2_Bits a) (r2_Bits b)))
                            (Tr.ast (n_Sub_s a b)
                              (Tr.br (decide (r1_Cmp (r2_Bits a) (r2_Bits b) < 0))
                                (Tr.br l2_works
                                  (Tr.br (r2_Is (n_Add a b) (r1_Add (r2_Bits a) (r2_Bits b)))
                                    (Tr.br (r2_Is (n_Mul a b) (r1_Mul (r2_Bits a) (r2_Bits b)))
                                      (Tr.br (!(n_Sub a b).snd)
                                        (Tr.br (((n_Sub a b).fst.length : Int) == 0)
                                          (Tr.ast (n_Cmp_s a b) (Tr.leaf (n_Cmp a b == r1_Cmp (r2_Bits a) (r2_Bits b))))
                                          (Tr.leaf false))
                                        (Tr.leaf false))
                                      (Tr.leaf false))
                                    (Tr.leaf false))
                                  (Tr.leaf false))
                                (Tr.ast (r1_Sub_s (r2_Bits a) (r2_Bits b) ((r2_Bits a).length : Int))
                                  (Tr.ast
                                    (r2_Is_s (n_Sub a b).fst (r1_Sub (r2_Bits a) (r2_Bits b) ((r2_Bits a).length : Int)).fst)
                                    (Tr.br l2_works
                                      (Tr.br (r2_Is (n_Add a b) (r1_Add (r2_Bits a) (r2_Bits b)))
                                        (Tr.br (r2_Is (n_Mul a b) (r1_Mul (r2_Bits a) (r2_Bits b)))
                                          (Tr.br (n_Sub a b).snd
                                            (Tr.br
                                              (r2_Is (n_Sub a b).fst
                                                (r1_Sub (r2_Bits a) (r2_Bits b) ((r2_Bits a).length : Int)).fst)
                                              (Tr.ast (n_Cmp_s a b)
                                                (Tr.leaf (n_Cmp a b == r1_Cmp (r2_Bits a) (r2_Bits b))))
                                              (Tr.leaf false))
                                            (Tr.leaf false))
                                          (Tr.leaf false))
                                        (Tr.leaf false))
                                      (Tr.leaf false))))))))))))))))))
def l_NatAdds_t (a : List Int) (b : List Int) : Tr (Bool) := l_NatAdds_T l2_works l2_works_s l2_small l2_small_s r2_Bits r2_Bits_s r1_Cmp r1_Cmp_s n_Add n_Add_s r1_Add r1_Add_s r2_Is r2_Is_s n_Mul n_Mul_s r1_Mul r1_Mul_s n_Sub n_Sub_s n_Cmp n_Cmp_s r1_Sub r1_Sub_s a b
def l_NatAdds (a : List Int) (b : List Int) : Bool := (l_NatAdds_t a b).val
def l_NatAdds_s (a : List Int) (b : List Int) : Bool := (l_NatAdds_t a b).safe
def l_NatDivides_T (l2_works : Bool) (l2_works_s : Bool) (l2_small : (List (List Cv)) → Bool) (l2_small_s : (List (List Cv)) → Bool) (r2_Bits : (List Int) → (List Bool)) (r2_Bits_s : (List Int) → Bool) (n_Gcd : (List Int) → (List Int) → (List Int)) (n_Gcd_s : (List Int) → (List Int) → Bool) (r2_Gcd : (List Bool) → (List Bool) → (List Bool)) (r2_Gcd_s : (List Bool) → (List Bool) → Bool) (r2_Is : (List Int) → (List Bool) → Bool) (r2_Is_s : (List Int) → (List Bool) → Bool) (n_Div : (List Int) → (List Int) → (List Int) × (List Int) × Int) (n_Div_s : (List Int) → (List Int) → Bool) (r1_Div : (List Bool) → (List Bool) → (List Bool) × (List Bool)) (r1_Div_s : (List Bool) → (List Bool) → Bool) (a : List Int) (b : List Int) : Tr (Bool) :=
  Tr.ast l2_works_s
    (Tr.br (!l2_works) (Tr.leaf false)
      (Tr.ast (l2_small_s (id [[Cv.l a], [Cv.l b]]))
        (Tr.br (!l2_small (id [[Cv.l a], [Cv.l b]])) (Tr.leaf l2_works)
          (Tr.ast (r2_Bits_s a)
            (Tr.ast (r2_Bits_s b)
              (Tr.br (decide (IntKind.i64.wrap ((a.length : Int) + (b.length : Int)) > 6))
                (Tr.ast (n_Div_s a b)
                  (Tr.br (((r2_Bits b).length : Int) == 0)
                    (Tr.br l2_works
                      (Tr.br (((n_Div a b).fst.length : Int) == 0)
                        (Tr.br (((n_Div a b).snd.fst.length : Int) == 0) (Tr.leaf ((n_Div a b).snd.snd == 21)) (Tr.leaf false))
                        (Tr.leaf false))
                      (Tr.leaf false))
                    (Tr.ast (r1_Div_s (r2_Bits a) (r2_Bits b))
                      (Tr.ast (r2_Is_s (n_Div a b).fst (r1_Div (r2_Bits a) (r2_Bits b)).fst)
                        (Tr.ast (r2_Is_s (n_Div a b).snd.fst (r1_Div (r2_Bits a) (r2_Bits b)).snd)
                          (Tr.br l2_works
                            (Tr.br (r2_Is (n_Div a b).fst (r1_Div (r2_Bits a) (r2_Bits b)).fst)
                              (Tr.br (r2_Is (n_Div a b).snd.fst (r1_Div (r2_Bits a) (r2_Bits b)).snd)
                                (Tr.leaf ((n_Div a b).snd.snd == 0)) (Tr.leaf false))
                              (Tr.leaf false))
                            (Tr.leaf false)))))))
                (Tr.ast (n_Gcd_s a b)
                  (Tr.ast (r2_Gcd_s (r2_Bits a) (r2_Bits b))
                    (Tr.ast (r2_Is_s (n_Gcd a b) (r2_Gcd (r2_Bits a) (r2_Bits b)))
                      (Tr.ast (n_Div_s a b)
                        (Tr.br (((r2_Bits b).length : Int) == 0)
                          (Tr.br l2_works
                            (Tr.br (r2_Is (n_Gcd a b) (r2_Gcd (r2_Bits a) (r2_Bits b)))
                              (Tr.br (((n_Div a b).fst.length : Int) == 0)
                                (Tr.br (((n_Div a b).snd.fst.length : Int) == 0) (Tr.leaf ((n_Div a b).snd.snd == 21))
                                  (Tr.leaf false))
                                (Tr.leaf false))
                              (Tr.leaf false))
                            (Tr.leaf false))
                          (Tr.ast (r1_Div_s (r2_Bits a) (r2_Bits b))
                            (Tr.ast (r2_Is_s (n_Div a b).fst (r1_Div (r2_Bits a) (r2_Bits b)).fst)
                              (Tr.ast (r2_Is_s (n_Div a b).snd.fst (r1_Div (r2_Bits a) (r2_Bits b)).snd)
                                (Tr.br l2_works
                                  (Tr.br (r2_Is (n_Gcd a b) (r2_Gcd (r2_Bits a) (r2_Bits b)))
                                    (Tr.br (r2_Is (n_Div a b).fst (r1_Div (r2_Bits a) (r2_Bits b)).fst)
                                      (Tr.br (r2_Is (n_Div a b).snd.fst (r1_Div (r2_Bits a) (r2_Bits b)).snd)
                                        (Tr.leaf ((n_Div a b).snd.snd == 0)) (Tr.leaf false))
                                      (Tr.leaf false))
                                    (Tr.leaf false))
                                  (Tr.leaf false))))))))))))))))
def l_NatDivides_t (a : List Int) (b : List Int) : Tr (Bool) := l_NatDivides_T l2_works l2_works_s l2_small l2_small_s r2_Bits r2_Bits_s n_Gcd n_Gcd_s r2_Gcd r2_Gcd_s r2_Is r2_Is_s n_Div n_Div_s r1_Div r1_Div_s a b
def l_NatDivides (a : List Int) (b : List Int) : Bool := (l_NatDivides_t a b).val
def l_NatDivides_s (a : List Int) (b : List Int) : Bool := (l_NatDivides_t a b).safe
def l_NatShifts_T (l2_works : Bool) (l2_works_s : Bool) (l2_small : (List (List Cv)) → Bool) (l2_small_s : (List (List Cv)) → Bool) (r2_Bits : (List Int) → (List Bool)) (r2_Bits_s : (List Int) → Bool) (n_Shr : (List Int) → Int → (List Int)) (n_Shr_s : (List Int) → Int → Bool) (r2_Is : (List Int) → (List Bool) → Bool) (r2_Is_s : (List Int) → (List Bool) → Bool) (r1_Words : (List Bool) → Int → (List Int)) (r1_Words_s : (List Bool) → Int → Bool) (n_Uint : (List Int) → Int × Bool) (n_Uint_s : (List Int) → Bool) (n_Bit : (List Int) → Int → Int) (n_Bit_s : (List Int) → Int → Bool) (n_Len : (List Int) → Int) (n_Len_s : (List Int) → Bool) (n_Shl : (List Int) → Int → (List Int) × Int) (n_Shl_s : (List Int) → Int → Bool) (r1_Shl : (List Bool) → Int → (List Bool)) (r1_Shl_s : (List Bool) → Int → Bool) (a : List Int) (n : Int) (i : Int) : Tr (Bool) :=
  let t0 : Bool := r1_Words_s (r2_Bits a) 1;
  let t1 : List Int := r1_Words (r2_Bits a) 1;
  let t2 : List Bool := r1_Shl (r2_Bits a) (imax n 0);
  let t3 : Int := none.getD ((r2_Bits a).length : Int);
  let t4 : Int := (t1.length : Int);
  let t5 : Bool := (n_Uint a).fst != 0;
  let t6 : List (List Cv) := id [[Cv.l a]];
  let t7 : Int := IntKind.i64.wrap (65536 - ((r2_Bits a).length : Int));
  let t8 : Bool := decide (i < ((r2_Bits a).length : Int));
  let t9 : Bool := ((n_Shl a n).fst.length : Int) == 0;
  let t10 : Int := (some (imin (imax n 0) ((r2_Bits a).length : Int))).getD 0;
  let t11 : Nat := t10.toNat;
  let t12 : Bool := (n_Uint a).fst != t1.getD (Int.toNat 0) 0;
  let t13 : Bool := !(n_Uint a).snd == decide (((r2_Bits a).length : Int) ≤ 64);
  let t14 : Bool := decide (0 < t4);
  let t15 : List Bool := List.take (t3.toNat - t11) (List.drop t11 (r2_Bits a));
  Tr.ast l2_works_s
    (Tr.br (!l2_works) (Tr.leaf false)
      (Tr.ast (l2_small_s t6)
        (Tr.br (!l2_small t6) (Tr.leaf l2_works)
          (Tr.ast (r2_Bits_s a)
            (Tr.ast (n_Shr_s a n)
              (Tr.ast (decide (0 ≤ t10) && (decide (t10 ≤ t3) && decide (t3 ≤ ((r2_Bits a).length : Int))))
                (Tr.ast (r2_Is_s (n_Shr a n) t15)
                  (Tr.br (decide (i ≥ 0))
                    (Tr.br t8
                      (Tr.ast (decide (0 ≤ i) && t8)
                        (Tr.br ((r2_Bits a).getD i.toNat false)
                          (Tr.ast t0
                            (Tr.ast (n_Uint_s a)
                              (Tr.br t13 (Tr.leaf false)
                                (Tr.br (n_Uint a).snd
                                  (Tr.ast t14
                                    (Tr.br t12 (Tr.leaf false)
                                      (Tr.br (!(n_Uint a).snd)
                                        (Tr.br t5 (Tr.leaf false)
                                          (Tr.ast (n_Bit_s a i)
                                            (Tr.br (n_Bit a i != 1) (Tr.leaf false)
                                              (Tr.ast (n_Len_s a)
                                                (Tr.br (n_Len a != ((r2_Bits a).length : Int)) (Tr.leaf false)
                                                  (Tr.br (!r2_Is (n_Shr a n) t15) (Tr.leaf false)
                                                    (Tr.ast (n_Shl_s a n)
                                                      (Tr.br (decide (((r2_Bits a).length : Int) > 0))
                                                        (Tr.br (decide (n > t7))
                                                          (Tr.br l2_works
                                                            (Tr.br t9 (Tr.leaf ((n_Shl a n).snd == 20)) (Tr.leaf false))
                                                            (Tr.leaf false))
                                                          (Tr.br (((r2_Bits a).length : Int) == 0)
                                                            (Tr.br l2_works
                                                              (Tr.br t9 (Tr.leaf ((n_Shl a n).snd == 0)) (Tr.leaf false))
                                                              (Tr.leaf false))
                                                            (Tr.ast (r1_Shl_s (r2_Bits a) (imax n 0))
                                                              (Tr.ast (r2_Is_s (n_Shl a n).fst t2)
                                                                (Tr.br l2_works
                                                                  (Tr.br (r2_Is (n_Shl a n).fst t2)
                                                                    (Tr.leaf ((n_Shl a n).snd == 0)) (Tr.leaf false))
                                                                  (Tr.leaf false))))))
                                                        (Tr.br (((r2_Bits a).length : Int) == 0)
                                                          (Tr.br l2_works
                                                            (Tr.br t9 (Tr.leaf ((n_Shl a n).snd == 0)) (Tr.leaf false))
                                                            (Tr.leaf false))
                                                          (Tr.ast (r1_Shl_s (r2_Bits a) (imax n 0))
                                                            (Tr.ast (r2_Is_s (n_Shl a n).fst t2)
                                                              (Tr.br l2_works
                                                                (Tr.br (r2_Is (n_Shl a n).fst t2)
                                                                  (Tr.leaf ((n_Shl a n).snd == 0)) (Tr.leaf false))
                                                                (Tr.leaf false)))))))))))))
                                        (Tr.ast (n_Bit_s a i)
                                          (Tr.br (n_Bit a i != 1) (Tr.leaf false)
                                            (Tr.ast (n_Len_s a)
                                              (Tr.br (n_Len a != ((r2_Bits a).length : Int)) (Tr.leaf false)
                                                (Tr.br (!r2_Is (n_Shr a n) t15) (Tr.leaf false)
                                                  (Tr.ast (n_Shl_s a n)
                                                    (Tr.br (decide (((r2_Bits a).length : Int) > 0))
                                                      (Tr.br (decide (n > t7))
                                                        (Tr.br l2_works
                                                          (Tr.br t9 (Tr.leaf ((n_Shl a n).snd == 20)) (Tr.leaf false))
                                                          (Tr.leaf false))
                                                        (Tr.br (((r2_Bits a).length : Int) == 0)
                                                          (Tr.br l2_works
                                                            (Tr.br t9 (Tr.leaf ((n_Shl a n).snd == 0)) (Tr.leaf false))
                                                            (Tr.leaf false))
                                                          (Tr.ast (r1_Shl_s (r2_Bits a) (imax n 0))
                                                            (Tr.ast (r2_Is_s (n_Shl a n).fst t2)
                                                              (Tr.br l2_works
                                                                (Tr.br (r2_Is (n_Shl a n).fst t2)
                                                                  (Tr.leaf ((n_Shl a n).snd == 0)) (Tr.leaf false))
                                                                (Tr.leaf false))))))
                                                      (Tr.br (((r2_Bits a).length : Int) == 0)
                                                        (Tr.br l2_works
                                                          (Tr.br t9 (Tr.leaf ((n_Shl a n).snd == 0)) (Tr.leaf false))
                                                          (Tr.leaf false))
                                                        (Tr.ast (r1_Shl_s (r2_Bits a) (imax n 0))
                                                          (Tr.ast (r2_Is_s (n_Shl a n).fst t2)
                                                            (Tr.br l2_works
                                                              (Tr.br (r2_Is (n_Shl a n).fst t2)
                                                                (Tr.leaf ((n_Shl a n).snd == 0)) (Tr.leaf false))
                                                              (Tr.leaf false)))))))))))))))
                                  (Tr.br (!(n_Uint a).snd)
                                    (Tr.br t5 (Tr.leaf false)
                                      (Tr.ast (n_Bit_s a i)
                                        (Tr.br (n_Bit a i != 1) (Tr.leaf false)
                                          (Tr.ast (n_Len_s a)
                                            (Tr.br (n_Len a != ((r2_Bits a).length : Int)) (Tr.leaf false)
                                              (Tr.br (!r2_Is (n_Shr a n) t15) (Tr.leaf false)
                                                (Tr.ast (n_Shl_s a n)
                                                  (Tr.br (decide (((r2_Bits a).length : Int) > 0))
                                                    (Tr.br (decide (n > t7))
                                                      (Tr.br l2_works
                                                        (Tr.br t9 (Tr.leaf ((n_Shl a n).snd == 20)) (Tr.leaf false))
                                                        (Tr.leaf false))
                                                      (Tr.br (((r2_Bits a).length : Int) == 0)
                                                        (Tr.br l2_works
                                                          (Tr.br t9 (Tr.leaf ((n_Shl a n).snd == 0)) (Tr.leaf false))
                                                          (Tr.leaf false))
                                                        (Tr.ast (r1_Shl_s (r2_Bits a) (imax n 0))
                                                          (Tr.ast (r2_Is_s (n_Shl a n).fst t2)
                                                            (Tr.br l2_works
                                                              (Tr.br (r2_Is (n_Shl a n).fst t2)
                                                                (Tr.leaf ((n_Shl a n).snd == 0)) (Tr.leaf false))
                                                              (Tr.leaf false))))))
                                                    (Tr.br (((r2_Bits a).length : Int) == 0)
                                                      (Tr.br l2_works
                                                        (Tr.br t9 (Tr.leaf ((n_Shl a n).snd == 0)) (Tr.leaf false))
                                                        (Tr.leaf false))
                                                      (Tr.ast (r1_Shl_s (r2_Bits a) (imax n 0))
                                                        (Tr.ast (r2_Is_s (n_Shl a n).fst t2)
                                                          (Tr.br l2_works
                                                            (Tr.br (r2_Is (n_Shl a n).fst t2)
                                                              (Tr.leaf ((n_Shl a n).snd == 0)) (Tr.leaf false))
                                                            (Tr.leaf false)))))))))))))
                                    (Tr.ast (n_Bit_s a i)
                                      (Tr.br (n_Bit a i != 1) (Tr.leaf false)
                                        (Tr.ast (n_Len_s a)
                                          (Tr.br (n_Len a != ((r2_Bits a).length : Int)) (Tr.leaf false)
                                            (Tr.br (!r2_Is (n_Shr a n) t15) (Tr.leaf false)
                                              (Tr.ast (n_Shl_s a n)
                                                (Tr.br (decide (((r2_Bits a).length : Int) > 0))
                                                  (Tr.br (decide (n > t7))
                                                    (Tr.br l2_works
                                                      (Tr.br t9 (Tr.leaf ((n_Shl a n).snd == 20)) (Tr.leaf false))
                                                      (Tr.leaf false))
                                                    (Tr.br (((r2_Bits a).length : Int) == 0)
                                                      (Tr.br l2_works
                                                        (Tr.br t9 (Tr.leaf ((n_Shl a n).snd == 0)) (Tr.leaf false))
                                                        (Tr.leaf false))
                                                      (Tr.ast (r1_Shl_s (r2_Bits a) (imax n 0))
                                                        (Tr.ast (r2_Is_s (n_Shl a n).fst t2)
                                                          (Tr.br l2_works
                                                            (Tr.br (r2_Is (n_Shl a n).fst t2)
                                                              (Tr.leaf ((n_Shl a n).snd == 0)) (Tr.leaf false))
                                                            (Tr.leaf false))))))
                                                  (Tr.br (((r2_Bits a).length : Int) == 0)
                                                    (Tr.br l2_works
                                                      (Tr.br t9 (Tr.leaf ((n_Shl a n).snd == 0)) (Tr.leaf false))
                                                      (Tr.leaf false))
                                                    (Tr.ast (r1_Shl_s (r2_Bits a) (imax n 0))
                                                      (Tr.ast (r2_Is_s (n_Shl a n).fst t2)
                                                        (Tr.br l2_works
                                                          (Tr.br (r2_Is (n_Shl a n).fst t2)
                                                            (Tr.leaf ((n_Shl a n).snd == 0)) (Tr.leaf false))
                                                          (Tr.leaf false)))))))))))))))))
                          (Tr.ast t0
                            (Tr.ast (n_Uint_s a)
                              (Tr.br t13 (Tr.leaf false)
                                (Tr.br (n_Uint a).snd
                                  (Tr.ast t14
                                    (Tr.br t12 (Tr.leaf false)
                                      (Tr.br (!(n_Uint a).snd)
                                        (Tr.br t5 (Tr.leaf false)
                                          (Tr.ast (n_Bit_s a i)
                                            (Tr.br (n_Bit a i != 0) (Tr.leaf false)
                                              (Tr.ast (n_Len_s a)
                                                (Tr.br (n_Len a != ((r2_Bits a).length : Int)) (Tr.leaf false)
                                                  (Tr.br (!r2_Is (n_Shr a n) t15) (Tr.leaf false)
                                                    (Tr.ast (n_Shl_s a n)
                                                      (Tr.br (decide (((r2_Bits a).length : Int) > 0))
                                                        (Tr.br (decide (n > t7))
                                                          (Tr.br l2_works
                                                            (Tr.br t9 (Tr.leaf ((n_Shl a n).snd == 20)) (Tr.leaf false))
                                                            (Tr.leaf false))
                                                          (Tr.br (((r2_Bits a).length : Int) == 0)
                                                            (Tr.br l2_works
                                                              (Tr.br t9 (Tr.leaf ((n_Shl a n).snd == 0)) (Tr.leaf false))
                                                              (Tr.leaf false))
                                                            (Tr.ast (r1_Shl_s (r2_Bits a) (imax n 0))
                                                              (Tr.ast (r2_Is_s (n_Shl a n).fst t2)
                                                                (Tr.br l2_works
                                                                  (Tr.br (r2_Is (n_Shl a n).fst t2)
                                                                    (Tr.leaf ((n_Shl a n).snd == 0)) (Tr.leaf false))
                                                                  (Tr.leaf false))))))
                                                        (Tr.br (((r2_Bits a).length : Int) == 0)
                                                          (Tr.br l2_works
                                                            (Tr.br t9 (Tr.leaf ((n_Shl a n).snd == 0)) (Tr.leaf false))
                                                            (Tr.leaf false))
                                                          (Tr.ast (r1_Shl_s (r2_Bits a) (imax n 0))
                                                            (Tr.ast (r2_Is_s (n_Shl a n).fst t2)
                                                              (Tr.br l2_works
                                                                (Tr.br (r2_Is (n_Shl a n).fst t2)
                                                                  (Tr.leaf ((n_Shl a n).snd == 0)) (Tr.leaf false))
                                                                (Tr.leaf false)))))))))))))
                                        (Tr.ast (n_Bit_s a i)
                                          (Tr.br (n_Bit a i != 0) (Tr.leaf false)
                                            (Tr.ast (n_Len_s a)
                                              (Tr.br (n_Len a != ((r2_Bits a).length : Int)) (Tr.leaf false)
                                                (Tr.br (!r2_Is (n_Shr a n) t15) (Tr.leaf false)
                                                  (Tr.ast (n_Shl_s a n)
                                                    (Tr.br (decide (((r2_Bits a).length : Int) > 0))
                                                      (Tr.br (decide (n > t7))
                                                        (Tr.br l2_works
                                                          (Tr.br t9 (Tr.leaf ((n_Shl a n).snd == 20)) (Tr.leaf false))
                                                          (Tr.leaf false))
                                                        (Tr.br (((r2_Bits a).length : Int) == 0)
                                                          (Tr.br l2_works
                                                            (Tr.br t9 (Tr.leaf ((n_Shl a n).snd == 0)) (Tr.leaf false))
                                                            (Tr.leaf false))
                                                          (Tr.ast (r1_Shl_s (r2_Bits a) (imax n 0))
                                                            (Tr.ast (r2_Is_s (n_Shl a n).fst t2)
                                                              (Tr.br l2_works
                                                                (Tr.br (r2_Is (n_Shl a n).fst t2)
                                                                  (Tr.leaf ((n_Shl a n).snd == 0)) (Tr.leaf false))
                                                                (Tr.leaf false))))))
                                                      (Tr.br (((r2_Bits a).length : Int) == 0)
                                                        (Tr.br l2_works
                                                          (Tr.br t9 (Tr.leaf ((n_Shl a n).snd == 0)) (Tr.leaf false))
                                                          (Tr.leaf false))
                                                        (Tr.ast (r1_Shl_s (r2_Bits a) (imax n 0))
                                                          (Tr.ast (r2_Is_s (n_Shl a n).fst t2)
                                                            (Tr.br l2_works
                                                              (Tr.br (r2_Is (n_Shl a n).fst t2)
                                                                (Tr.leaf ((n_Shl a n).snd == 0)) (Tr.leaf false))
                                                              (Tr.leaf false)))))))))))))))
                                  (Tr.br (!(n_Uint a).snd)
                                    (Tr.br t5 (Tr.leaf false)
                                      (Tr.ast (n_Bit_s a i)
                                        (Tr.br (n_Bit a i != 0) (Tr.leaf false)
                                          (Tr.ast (n_Len_s a)
                                            (Tr.br (n_Len a != ((r2_Bits a).length : Int)) (Tr.leaf false)
                                              (Tr.br (!r2_Is (n_Shr a n) t15) (Tr.leaf false)
                                                (Tr.ast (n_Shl_s a n)
                                                  (Tr.br (decide (((r2_Bits a).length : Int) > 0))
                                                    (Tr.br (decide (n > t7))
                                                      (Tr.br l2_works
                                                        (Tr.br t9 (Tr.leaf ((n_Shl a n).snd == 20)) (Tr.leaf false))
                                                        (Tr.leaf false))
                                                      (Tr.br (((r2_Bits a).length : Int) == 0)
                                                        (Tr.br l2_works
                                                          (Tr.br t9 (Tr.leaf ((n_Shl a n).snd == 0)) (Tr.leaf false))
                                                          (Tr.leaf false))
                                                        (Tr.ast (r1_Shl_s (r2_Bits a) (imax n 0))
                                                          (Tr.ast (r2_Is_s (n_Shl a n).fst t2)
                                                            (Tr.br l2_works
                                                              (Tr.br (r2_Is (n_Shl a n).fst t2)
                                                                (Tr.leaf ((n_Shl a n).snd == 0)) (Tr.leaf false))
                                                              (Tr.leaf false))))))
                                                    (Tr.br (((r2_Bits a).length : Int) == 0)
                                                      (Tr.br l2_works
                                                        (Tr.br t9 (Tr.leaf ((n_Shl a n).snd == 0)) (Tr.leaf false))
                                                        (Tr.leaf false))
                                                      (Tr.ast (r1_Shl_s (r2_Bits a) (imax n 0))
                                                        (Tr.ast (r2_Is_s (n_Shl a n).fst t2)
                                                          (Tr.br l2_works
                                                            (Tr.br (r2_Is (n_Shl a n).fst t2)
                                                              (Tr.leaf ((n_Shl a n).snd == 0)) (Tr.leaf false))
                                                            (Tr.leaf false)))))))))))))
                                    (Tr.ast (n_Bit_s a i)
                                      (Tr.br (n_Bit a i != 0) (Tr.leaf false)
                                        (Tr.ast (n_Len_s a)
                                          (Tr.br (n_Len a != ((r2_Bits a).length : Int)) (Tr.leaf false)
                                            (Tr.br (!r2_Is (n_Shr a n) t15) (Tr.leaf false)
                                              (Tr.ast (n_Shl_s a n)
                                                (Tr.br (decide (((r2_Bits a).length : Int) > 0))
                                                  (Tr.br (decide (n > t7))
                                                    (Tr.br l2_works
                                                      (Tr.br t9 (Tr.leaf ((n_Shl a n).snd == 20)) (Tr.leaf false))
                                                      (Tr.leaf false))
                                                    (Tr.br (((r2_Bits a).length : Int) == 0)
                                                      (Tr.br l2_works
                                                        (Tr.br t9 (Tr.leaf ((n_Shl a n).snd == 0)) (Tr.leaf false))
                                                        (Tr.leaf false))
                                                      (Tr.ast (r1_Shl_s (r2_Bits a) (imax n 0))
                                                        (Tr.ast (r2_Is_s (n_Shl a n).fst t2)
                                                          (Tr.br l2_works
                                                            (Tr.br (r2_Is (n_Shl a n).fst t2)
                                                              (Tr.leaf ((n_Shl a n).snd == 0)) (Tr.leaf false))
                                                            (Tr.leaf false))))))
                                                  (Tr.br (((r2_Bits a).length : Int) == 0)
                                                    (Tr.br l2_works
                                                      (Tr.br t9 (Tr.leaf ((n_Shl a n).snd == 0)) (Tr.leaf false))
                                                      (Tr.leaf false))
                                                    (Tr.ast (r1_Shl_s (r2_Bits a) (imax n 0))
                                                      (Tr.ast (r2_Is_s (n_Shl a n).fst t2)
                                                        (Tr.br l2_works
                                                          (Tr.br (r2_Is (n_Shl a n).fst t2)
                                                            (Tr.leaf ((n_Shl a n).snd == 0)) (Tr.leaf false))
                                                          (Tr.leaf false)))))))))))))))))))
                      (Tr.ast t0
                        (Tr.ast (n_Uint_s a)
                          (Tr.br t13 (Tr.leaf false)
                            (Tr.br (n_Uint a).snd
                              (Tr.ast t14
                                (Tr.br t12 (Tr.leaf false)
                                  (Tr.br (!(n_Uint a).snd)
                                    (Tr.br t5 (Tr.leaf false)
                                      (Tr.ast (n_Bit_s a i)
                                        (Tr.br (n_Bit a i != 0) (Tr.leaf false)
                                          (Tr.ast (n_Len_s a)
                                            (Tr.br (n_Len a != ((r2_Bits a).length : Int)) (Tr.leaf false)
                                              (Tr.br (!r2_Is (n_Shr a n) t15) (Tr.leaf false)
                                                (Tr.ast (n_Shl_s a n)
                                                  (Tr.br (decide (((r2_Bits a).length : Int) > 0))
                                                    (Tr.br (decide (n > t7))
                                                      (Tr.br l2_works
                                                        (Tr.br t9 (Tr.leaf ((n_Shl a n).snd == 20)) (Tr.leaf false))
                                                        (Tr.leaf false))
                                                      (Tr.br (((r2_Bits a).length : Int) == 0)
                                                        (Tr.br l2_works
                                                          (Tr.br t9 (Tr.leaf ((n_Shl a n).snd == 0)) (Tr.leaf false))
                                                          (Tr.leaf false))
                                                        (Tr.ast (r1_Shl_s (r2_Bits a) (imax n 0))
                                                          (Tr.ast (r2_Is_s (n_Shl a n).fst t2)
                                                            (Tr.br l2_works
                                                              (Tr.br (r2_Is (n_Shl a n).fst t2)
                                                                (Tr.leaf ((n_Shl a n).snd == 0)) (Tr.leaf false))
                                                              (Tr.leaf false))))))
                                                    (Tr.br (((r2_Bits a).length : Int) == 0)
                                                      (Tr.br l2_works
                                                        (Tr.br t9 (Tr.leaf ((n_Shl a n).snd == 0)) (Tr.leaf false))
                                                        (Tr.leaf false))
                                                      (Tr.ast (r1_Shl_s (r2_Bits a) (imax n 0))
                                                        (Tr.ast (r2_Is_s (n_Shl a n).fst t2)
                                                          (Tr.br l2_works
                                                            (Tr.br (r2_Is (n_Shl a n).fst t2)
                                                              (Tr.leaf ((n_Shl a n).snd == 0)) (Tr.leaf false))
                                                            (Tr.leaf false)))))))))))))
                                    (Tr.ast (n_Bit_s a i)
                                      (Tr.br (n_Bit a i != 0) (Tr.leaf false)
                                        (Tr.ast (n_Len_s a)
                                          (Tr.br (n_Len a != ((r2_Bits a).length : Int)) (Tr.leaf false)
                                            (Tr.br (!r2_Is (n_Shr a n) t15) (Tr.leaf false)
                                              (Tr.ast (n_Shl_s a n)
                                                (Tr.br (decide (((r2_Bits a).length : Int) > 0))
                                                  (Tr.br (decide (n > t7))
                                                    (Tr.br l2_works
                                                      (Tr.br t9 (Tr.leaf ((n_Shl a n).snd == 20)) (Tr.leaf false))
                                                      (Tr.leaf false))
                                                    (Tr.br (((r2_Bits a).length : Int) == 0)
                                                      (Tr.br l2_works
                                                        (Tr.br t9 (Tr.leaf ((n_Shl a n).snd == 0)) (Tr.leaf false))
                                                        (Tr.leaf false))
                                                      (Tr.ast (r1_Shl_s (r2_Bits a) (imax n 0))
                                                        (Tr.ast (r2_Is_s (n_Shl a n).fst t2)
                                                          (Tr.br l2_works
                                                            (Tr.br (r2_Is (n_Shl a n).fst t2)
                                                              (Tr.leaf ((n_Shl a n).snd == 0)) (Tr.leaf false))
                                                            (Tr.leaf false))))))
                                                  (Tr.br (((r2_Bits a).length : Int) == 0)
                                                    (Tr.br l2_works
                                                      (Tr.br t9 (Tr.leaf ((n_Shl a n).snd == 0)) (Tr.leaf false))
                                                      (Tr.leaf false))
                                                    (Tr.ast (r1_Shl_s (r2_Bits a) (imax n 0))
                                                      (Tr.ast (r2_Is_s (n_Shl a n).fst t2)
                                                        (Tr.br l2_works
                                                          (Tr.br (r2_Is (n_Shl a n).fst t2)
                                                            (Tr.leaf ((n_Shl a n).snd == 0)) (Tr.leaf false))
                                                          (Tr.leaf false)))))))))))))))
                              (Tr.br (!(n_Uint a).snd)
                                (Tr.br t5 (Tr.leaf false)
                                  (Tr.ast (n_Bit_s a i)
                                    (Tr.br (n_Bit a i != 0) (Tr.leaf false)
                                      (Tr.ast (n_Len_s a)
                                        (Tr.br (n_Len a != ((r2_Bits a).length : Int)) (Tr.leaf false)
                                          (Tr.br (!r2_Is (n_Shr a n) t15) (Tr.leaf false)
                                            (Tr.ast (n_Shl_s a n)
                                              (Tr.br (decide (((r2_Bits a).length : Int) > 0))
                                                (Tr.br (decide (n > t7))
                                                  (Tr.br l2_works
                                                    (Tr.br t9 (Tr.leaf ((n_Shl a n).snd == 20)) (Tr.leaf false))
                                                    (Tr.leaf false))
                                                  (Tr.br (((r2_Bits a).length : Int) == 0)
                                                    (Tr.br l2_works
                                                      (Tr.br t9 (Tr.leaf ((n_Shl a n).snd == 0)) (Tr.leaf false))
                                                      (Tr.leaf false))
                                                    (Tr.ast (r1_Shl_s (r2_Bits a) (imax n 0))
                                                      (Tr.ast (r2_Is_s (n_Shl a n).fst t2)
                                                        (Tr.br l2_works
                                                          (Tr.br (r2_Is (n_Shl a n).fst t2)
                                                            (Tr.leaf ((n_Shl a n).snd == 0)) (Tr.leaf false))
                                                          (Tr.leaf false))))))
                                                (Tr.br (((r2_Bits a).length : Int) == 0)
                                                  (Tr.br l2_works
                                                    (Tr.br t9 (Tr.leaf ((n_Shl a n).snd == 0)) (Tr.leaf false))
                                                    (Tr.leaf false))
                                                  (Tr.ast (r1_Shl_s (r2_Bits a) (imax n 0))
                                                    (Tr.ast (r2_Is_s (n_Shl a n).fst t2)
                                                      (Tr.br l2_works
                                                        (Tr.br (r2_Is (n_Shl a n).fst t2) (Tr.leaf ((n_Shl a n).snd == 0))
                                                          (Tr.leaf false))
                                                        (Tr.leaf false)))))))))))))
                                (Tr.ast (n_Bit_s a i)
                                  (Tr.br (n_Bit a i != 0) (Tr.leaf false)
                                    (Tr.ast (n_Len_s a)
                                      (Tr.br (n_Len a != ((r2_Bits a).length : Int)) (Tr.leaf false)
                                        (Tr.br (!r2_Is (n_Shr a n) t15) (Tr.leaf false)
                                          (Tr.ast (n_Shl_s a n)
                                            (Tr.br (decide (((r2_Bits a).length : Int) > 0))
                                              (Tr.br (decide (n > t7))
                                                (Tr.br l2_works
                                                  (Tr.br t9 (Tr.leaf ((n_Shl a n).snd == 20)) (Tr.leaf false))
                                                  (Tr.leaf false))
                                                (Tr.br (((r2_Bits a).length : Int) == 0)
                                                  (Tr.br l2_works
                                                    (Tr.br t9 (Tr.leaf ((n_Shl a n).snd == 0)) (Tr.leaf false))
                                                    (Tr.leaf false))
                                                  (Tr.ast (r1_Shl_s (r2_Bits a) (imax n 0))
                                                    (Tr.ast (r2_Is_s (n_Shl a n).fst t2)
                                                      (Tr.br l2_works
                                                        (Tr.br (r2_Is (n_Shl a n).fst t2) (Tr.leaf ((n_Shl a n).snd == 0))
                                                          (Tr.leaf false))
                                                        (Tr.leaf false))))))
                                              (Tr.br (((r2_Bits a).length : Int) == 0)
                                                (Tr.br l2_works
                                                  (Tr.br t9 (Tr.leaf ((n_Shl a n).snd == 0)) (Tr.leaf false))
                                                  (Tr.leaf false))
                                                (Tr.ast (r1_Shl_s (r2_Bits a) (imax n 0))
                                                  (Tr.ast (r2_Is_s (n_Shl a n).fst t2)
                                                    (Tr.br l2_works
                                                      (Tr.br (r2_Is (n_Shl a n).fst t2) (Tr.leaf ((n_Shl a n).snd == 0))
                                                        (Tr.leaf false))
                                                      (Tr.leaf false))))))))))))))))))
                    (Tr.ast t0
                      (Tr.ast (n_Uint_s a)
                        (Tr.br t13 (Tr.leaf false)
                          (Tr.br (n_Uint a).snd
                            (Tr.ast t14
                              (Tr.br t12 (Tr.leaf false)
                                (Tr.br (!(n_Uint a).snd)
                                  (Tr.br t5 (Tr.leaf false)
                                    (Tr.ast (n_Bit_s a i)
                                      (Tr.br (n_Bit a i != 0) (Tr.leaf false)
                                        (Tr.ast (n_Len_s a)
                                          (Tr.br (n_Len a != ((r2_Bits a).length : Int)) (Tr.leaf false)
                                            (Tr.br (!r2_Is (n_Shr a n) t15) (Tr.leaf false)
                                              (Tr.ast (n_Shl_s a n)
                                                (Tr.br (decide (((r2_Bits a).length : Int) > 0))
                                                  (Tr.br (decide (n > t7))
                                                    (Tr.br l2_works
                                                      (Tr.br t9 (Tr.leaf ((n_Shl a n).snd == 20)) (Tr.leaf false))
                                                      (Tr.leaf false))
                                                    (Tr.br (((r2_Bits a).length : Int) == 0)
                                                      (Tr.br l2_works
                                                        (Tr.br t9 (Tr.leaf ((n_Shl a n).snd == 0)) (Tr.leaf false))
                                                        (Tr.leaf false))
                                                      (Tr.ast (r1_Shl_s (r2_Bits a) (imax n 0))
                                                        (Tr.ast (r2_Is_s (n_Shl a n).fst t2)
                                                          (Tr.br l2_works
                                                            (Tr.br (r2_Is (n_Shl a n).fst t2)
                                                              (Tr.leaf ((n_Shl a n).snd == 0)) (Tr.leaf false))
                                                            (Tr.leaf false))))))
                                                  (Tr.br (((r2_Bits a).length : Int) == 0)
                                                    (Tr.br l2_works
                                                      (Tr.br t9 (Tr.leaf ((n_Shl a n).snd == 0)) (Tr.leaf false))
                                                      (Tr.leaf false))
                                                    (Tr.ast (r1_Shl_s (r2_Bits a) (imax n 0))
                                                      (Tr.ast (r2_Is_s (n_Shl a n).fst t2)
                                                        (Tr.br l2_works
                                                          (Tr.br (r2_Is (n_Shl a n).fst t2)
                                                            (Tr.leaf ((n_Shl a n).snd == 0)) (Tr.leaf false))
                                                          (Tr.leaf false)))))))))))))
                                  (Tr.ast (n_Bit_s a i)
                                    (Tr.br (n_Bit a i != 0) (Tr.leaf false)
                                      (Tr.ast (n_Len_s a)
                                        (Tr.br (n_Len a != ((r2_Bits a).length : Int)) (Tr.leaf false)
                                          (Tr.br (!r2_Is (n_Shr a n) t15) (Tr.leaf false)
                                            (Tr.ast (n_Shl_s a n)
                                              (Tr.br (decide (((r2_Bits a).length : Int) > 0))
                                                (Tr.br (decide (n > t7))
                                                  (Tr.br l2_works
                                                    (Tr.br t9 (Tr.leaf ((n_Shl a n).snd == 20)) (Tr.leaf false))
                                                    (Tr.leaf false))
                                                  (Tr.br (((r2_Bits a).length : Int) == 0)
                                                    (Tr.br l2_works
                                                      (Tr.br t9 (Tr.leaf ((n_Shl a n).snd == 0)) (Tr.leaf false))
                                                      (Tr.leaf false))
                                                    (Tr.ast (r1_Shl_s (r2_Bits a) (imax n 0))
                                                      (Tr.ast (r2_Is_s (n_Shl a n).fst t2)
                                                        (Tr.br l2_works
                                                          (Tr.br (r2_Is (n_Shl a n).fst t2)
                                                            (Tr.leaf ((n_Shl a n).snd == 0)) (Tr.leaf false))
                                                          (Tr.leaf false))))))
                                                (Tr.br (((r2_Bits a).length : Int) == 0)
                                                  (Tr.br l2_works
                                                    (Tr.br t9 (Tr.leaf ((n_Shl a n).snd == 0)) (Tr.leaf false))
                                                    (Tr.leaf false))
                                                  (Tr.ast (r1_Shl_s (r2_Bits a) (imax n 0))
                                                    (Tr.ast (r2_Is_s (n_Shl a n).fst t2)
                                                      (Tr.br l2_works
                                                        (Tr.br (r2_Is (n_Shl a n).fst t2) (Tr.leaf ((n_Shl a n).snd == 0))
                                                          (Tr.leaf false))
                                                        (Tr.leaf false)))))))))))))))
                            (Tr.br (!(n_Uint a).snd)
                              (Tr.br t5 (Tr.leaf false)
                                (Tr.ast (n_Bit_s a i)
                                  (Tr.br (n_Bit a i != 0) (Tr.leaf false)
                                    (Tr.ast (n_Len_s a)
                                      (Tr.br (n_Len a != ((r2_Bits a).length : Int)) (Tr.leaf false)
                                        (Tr.br (!r2_Is (n_Shr a n) t15) (Tr.leaf false)
                                          (Tr.ast (n_Shl_s a n)
                                            (Tr.br (decide (((r2_Bits a).length : Int) > 0))
                                              (Tr.br (decide (n > t7))
                                                (Tr.br l2_works
                                                  (Tr.br t9 (Tr.leaf ((n_Shl a n).snd == 20)) (Tr.leaf false))
                                                  (Tr.leaf false))
                                                (Tr.br (((r2_Bits a).length : Int) == 0)
                                                  (Tr.br l2_works
                                                    (Tr.br t9 (Tr.leaf ((n_Shl a n).snd == 0)) (Tr.leaf false))
                                                    (Tr.leaf false))
                                                  (Tr.ast (r1_Shl_s (r2_Bits a) (imax n 0))
                                                    (Tr.ast (r2_Is_s (n_Shl a n).fst t2)
                                                      (Tr.br l2_works
                                                        (Tr.br (r2_Is (n_Shl a n).fst t2) (Tr.leaf ((n_Shl a n).snd == 0))
                                                          (Tr.leaf false))
                                                        (Tr.leaf false))))))
                                              (Tr.br (((r2_Bits a).length : Int) == 0)
                                                (Tr.br l2_works
                                                  (Tr.br t9 (Tr.leaf ((n_Shl a n).snd == 0)) (Tr.leaf false))
                                                  (Tr.leaf false))
                                                (Tr.ast (r1_Shl_s (r2_Bits a) (imax n 0))
                                                  (Tr.ast (r2_Is_s (n_Shl a n).fst t2)
                                                    (Tr.br l2_works
                                                      (Tr.br (r2_Is (n_Shl a n).fst t2) (Tr.leaf ((n_Shl a n).snd == 0))
                                                        (Tr.leaf false))
                                                      (Tr.leaf false)))))))))))))
                              (Tr.ast (n_Bit_s a i)
                                (Tr.br (n_Bit a i != 0) (Tr.leaf false)
                                  (Tr.ast (n_Len_s a)
                                    (Tr.br (n_Len a != ((r2_Bits a).length : Int)) (Tr.leaf false)
                                      (Tr.br (!r2_Is (n_Shr a n) t15) (Tr.leaf false)
                                        (Tr.ast (n_Shl_s a n)
                                          (Tr.br (decide (((r2_Bits a).length : Int) > 0))
                                            (Tr.br (decide (n > t7))
                                              (Tr.br l2_works (Tr.br t9 (Tr.leaf ((n_Shl a n).snd == 20)) (Tr.leaf false))
                                                (Tr.leaf false))
                                              (Tr.br (((r2_Bits a).length : Int) == 0)
                                                (Tr.br l2_works
                                                  (Tr.br t9 (Tr.leaf ((n_Shl a n).snd == 0)) (Tr.leaf false))
                                                  (Tr.leaf false))
                                                (Tr.ast (r1_Shl_s (r2_Bits a) (imax n 0))
                                                  (Tr.ast (r2_Is_s (n_Shl a n).fst t2)
                                                    (Tr.br l2_works
                                                      (Tr.br (r2_Is (n_Shl a n).fst t2) (Tr.leaf ((n_Shl a n).snd == 0))
                                                        (Tr.leaf false))
                                                      (Tr.leaf false))))))
                                            (Tr.br (((r2_Bits a).length : Int) == 0)
                                              (Tr.br l2_works (Tr.br t9 (Tr.leaf ((n_Shl a n).snd == 0)) (Tr.leaf false))
                                                (Tr.leaf false))
                                              (Tr.ast (r1_Shl_s (r2_Bits a) (imax n 0))
                                                (Tr.ast (r2_Is_s (n_Shl a n).fst t2)
                                                  (Tr.br l2_works
                                                    (Tr.br (r2_Is (n_Shl a n).fst t2) (Tr.leaf ((n_Shl a n).snd == 0))
                                                      (Tr.leaf false))
                                                    (Tr.leaf false)))))))))))))))))))))))))
def l_NatShifts_t (a : List Int) (n : Int) (i : Int) : Tr (Bool) := l_NatShifts_T l2_works l2_works_s l2_small l2_small_s r2_Bits r2_Bits_s n_Shr n_Shr_s r2_Is r2_Is_s r1_Words r1_Words_s n_Uint n_Uint_s n_Bit n_Bit_s n_Len n_Len_s n_Shl n_Shl_s r1_Shl r1_Shl_s a n i
def l_NatShifts (a : List Int) (n : Int) (i : Int) : Bool := (l_NatShifts_t a n i).val
def l_NatShifts_s (a : List Int) (n : Int) (i : Int) : Bool := (l_NatShifts_t a n i).safe
def l_NatTexts_T (l2_works : Bool) (l2_works_s : Bool) (l2_small : (List (List Cv)) → Bool) (l2_small_s : (List (List Cv)) → Bool) (n_Text : (List Int) → (List UInt8)) (n_Text_s : (List Int) → Bool) (n_Parse : (List UInt8) → (List Int) × Int) (n_Parse_s : (List UInt8) → Bool) (r2_Bits : (List Int) → (List Bool)) (r2_Bits_s : (List Int) → Bool) (r2_Text : (List Bool) → (List UInt8)) (r2_Text_s : (List Bool) → Bool) (n_Cmp : (List Int) → (List Int) → Int) (n_Cmp_s : (List Int) → (List Int) → Bool) (r2_Parse : (List UInt8) → (List Bool) × Bool) (r2_Parse_s : (List UInt8) → Bool) (r2_Is : (List Int) → (List Bool) → Bool) (r2_Is_s : (List Int) → (List Bool) → Bool) (a : List Int) (s : List UInt8) : Tr (Bool) :=
  Tr.ast l2_works_s
    (Tr.br (!l2_works) (Tr.leaf false)
      (Tr.ast (l2_small_s (id [[Cv.l a]]))
        (Tr.br (!l2_small (id [[Cv.l a]])) (Tr.leaf l2_works)
          (Tr.br (decide ((s.length : Int) > 200)) (Tr.leaf l2_works)
            (Tr.ast (n_Text_s a)
              (Tr.ast (n_Parse_s (n_Text a))
                (Tr.ast (r2_Bits_s a)
                  (Tr.ast (r2_Text_s (r2_Bits a))
                    (Tr.br (!n_Text a == r2_Text (r2_Bits a)) (Tr.leaf false)
                      (Tr.br ((n_Parse (n_Text a)).snd != 0) (Tr.leaf false)
                        (Tr.ast (n_Cmp_s (n_Parse (n_Text a)).fst a)
                          (Tr.br (n_Cmp (n_Parse (n_Text a)).fst a != 0) (Tr.leaf false)
                            (Tr.ast (n_Parse_s s)
                              (Tr.ast (r2_Parse_s s)
                                (Tr.br (!(r2_Parse s).snd)
                                  (Tr.br l2_works
                                    (Tr.br (((n_Parse s).fst.length : Int) == 0) (Tr.leaf ((n_Parse s).snd == 22))
                                      (Tr.leaf false))
                                    (Tr.leaf false))
                                  (Tr.ast (r2_Is_s (n_Parse s).fst (r2_Parse s).fst)
                                    (Tr.br l2_works
                                      (Tr.br (r2_Is (n_Parse s).fst (r2_Parse s).fst) (Tr.leaf ((n_Parse s).snd == 0))
                                        (Tr.leaf false))
                                      (Tr.leaf false))))))))))))))))))
def l_NatTexts_t (a : List Int) (s : List UInt8) : Tr (Bool) := l_NatTexts_T l2_works l2_works_s l2_small l2_small_s n_Text n_Text_s n_Parse n_Parse_s r2_Bits r2_Bits_s r2_Text r2_Text_s n_Cmp n_Cmp_s r2_Parse r2_Parse_s r2_Is r2_Is_s a s
def l_NatTexts (a : List Int) (s : List UInt8) : Bool := (l_NatTexts_t a s).val
def l_NatTexts_s (a : List Int) (s : List UInt8) : Bool := (l_NatTexts_t a s).safe
def l_NatPowers_L0_T (r1_Mul : (List Bool) → (List Bool) → (List Bool)) (r1_Mul_s : (List Bool) → (List Bool) → Bool) (r1_Len : (List Bool) → Int) (r1_Len_s : (List Bool) → Bool) (_v0 : Int) (v1 : Int) (_v4 : Bool) (_v5 : Bool) (_v6 : List Int) (_v7 : Int) (v9 : List Bool) (_v14 : Bool) (_v22 : Bool) (v8 : List Bool) (v10 : Int) : Tr (((List Bool) × Int) ⊕ ((List Bool) × Int)) :=
  Tr.br (decide (v10 < v1))
    (Tr.ast (r1_Mul_s v8 v9)
      (Tr.ast (r1_Len_s (r1_Mul v8 v9))
        (Tr.ast
          (decide (0 ≤ (some (r1_Len (r1_Mul v8 v9))).getD ((r1_Mul v8 v9).length : Int)) &&
            decide ((some (r1_Len (r1_Mul v8 v9))).getD ((r1_Mul v8 v9).length : Int) ≤ ((r1_Mul v8 v9).length : Int)))
          (Tr.leaf
            (Sum.inl
              (List.take (((some (r1_Len (r1_Mul v8 v9))).getD ((r1_Mul v8 v9).length : Int)).toNat - Int.toNat 0)
                  (List.drop (Int.toNat 0) (r1_Mul v8 v9)),
                IntKind.i64.wrap (v10 + 1)))))))
    (Tr.leaf (Sum.inr (v8, v10)))
def l_NatPowers_L0_step (p : Int × Int × Bool × Bool × (List Int) × Int × (List Bool) × Bool × Bool) (x : (List Bool) × Int) : Tr (((List Bool) × Int) ⊕ ((List Bool) × Int)) := l_NatPowers_L0_T r1_Mul r1_Mul_s r1_Len r1_Len_s p.1 p.2.1 p.2.2.1 p.2.2.2.1 p.2.2.2.2.1 p.2.2.2.2.2.1 p.2.2.2.2.2.2.1 p.2.2.2.2.2.2.2.1 p.2.2.2.2.2.2.2.2 x.1 x.2
def l_NatPowers_L0_r (p : Int × Int × Bool × Bool × (List Int) × Int × (List Bool) × Bool × Bool) (x : (List Bool) × Int) : Option ((List Bool) × Int) := runB (l_NatPowers_L0_step p) x
def l_NatPowers_L0_v (p : Int × Int × Bool × Bool × (List Int) × Int × (List Bool) × Bool × Bool) (x : (List Bool) × Int) : (List Bool) × Int := (l_NatPowers_L0_r p x).getD x
def l_NatPowers_L0_ok (p : Int × Int × Bool × Bool × (List Int) × Int × (List Bool) × Bool × Bool) (x : (List Bool) × Int) : Bool := (l_NatPowers_L0_r p x).isSome
def l_NatPowers_T (l2_works : Bool) (l2_works_s : Bool) (n_Pow : Int → Int → (List Int) × Int) (n_Pow_s : Int → Int → Bool) (r1_Of1 : Int → (List Bool)) (r1_Of1_s : Int → Bool) (n_New : Int → (List Int)) (n_New_s : Int → Bool) (r2_Bits : (List Int) → (List Bool)) (r2_Bits_s : (List Int) → Bool) (r2_Is : (List Int) → (List Bool) → Bool) (r2_Is_s : (List Int) → (List Bool) → Bool) (l_NatPowers_L0_ok : (Int × Int × Bool × Bool × (List Int) × Int × (List Bool) × Bool × Bool) → ((List Bool) × Int) → Bool) (l_NatPowers_L0_v : (Int × Int × Bool × Bool × (List Int) × Int × (List Bool) × Bool × Bool) → ((List Bool) × Int) → (List Bool) × Int) (x : Int) (n : Int) : Tr (Bool) :=
  Tr.ast l2_works_s
    (Tr.br (!l2_works) (Tr.leaf false)
      (Tr.ast (n_Pow_s x n)
        (Tr.br (decide (n > 120))
          (Tr.br l2_works
            (Tr.br (decide (x > 1))
              (Tr.br ((n_Pow x n).snd == 0) (Tr.leaf true)
                (Tr.br ((n_Pow x n).snd == 20) (Tr.leaf (((n_Pow x n).fst.length : Int) == 0)) (Tr.leaf false)))
              (Tr.br ((n_Pow x n).snd == 0)
                (Tr.br ((n_Pow x n).snd == 0) (Tr.leaf true)
                  (Tr.br ((n_Pow x n).snd == 20) (Tr.leaf (((n_Pow x n).fst.length : Int) == 0)) (Tr.leaf false)))
                (Tr.leaf false)))
            (Tr.leaf false))
          (Tr.ast (r1_Of1_s 1)
            (Tr.ast (n_New_s x)
              (Tr.ast (r2_Bits_s (n_New x))
                (Tr.ast
                  (l_NatPowers_L0_ok
                    (x, n, false, l2_works, (n_Pow x n).fst, (n_Pow x n).snd, r2_Bits (n_New x), false, false)
                    (r1_Of1 1, 0))
                  (Tr.ast
                    (r2_Is_s (n_Pow x n).fst
                      (l_NatPowers_L0_v
                          (x, n, false, l2_works, (n_Pow x n).fst, (n_Pow x n).snd, r2_Bits (n_New x), false, false)
                          (r1_Of1 1, 0)).fst)
                    (Tr.br l2_works
                      (Tr.br
                        (r2_Is (n_Pow x n).fst
                          (l_NatPowers_L0_v
                              (x, n, false, l2_works, (n_Pow x n).fst, (n_Pow x n).snd, r2_Bits (n_New x), false, false)
                              (r1_Of1 1, 0)).fst)
                        (Tr.br ((n_Pow x n).snd == 0)
                          (Tr.ast (n_New_s x)
                            (Tr.ast (r2_Is_s (n_New x) (r2_Bits (n_New x)))
                              (Tr.leaf (r2_Is (n_New x) (r2_Bits (n_New x))))))
                          (Tr.leaf false))
                        (Tr.leaf false))
                      (Tr.leaf false))))))))))
def l_NatPowers_t (x : Int) (n : Int) : Tr (Bool) := l_NatPowers_T l2_works l2_works_s n_Pow n_Pow_s r1_Of1 r1_Of1_s n_New n_New_s r2_Bits r2_Bits_s r2_Is r2_Is_s l_NatPowers_L0_ok l_NatPowers_L0_v x n
def l_NatPowers (x : Int) (n : Int) : Bool := (l_NatPowers_t x n).val
def l_NatPowers_s (x : Int) (n : Int) : Bool := (l_NatPowers_t x n).safe
def l_NatLaws_T (l2_works : Bool) (l2_works_s : Bool) (l2_small : (List (List Cv)) → Bool) (l2_small_s : (List (List Cv)) → Bool) (n_Add : (List Int) → (List Int) → (List Int)) (n_Add_s : (List Int) → (List Int) → Bool) (n_Cmp : (List Int) → (List Int) → Int) (n_Cmp_s : (List Int) → (List Int) → Bool) (n_Mul : (List Int) → (List Int) → (List Int)) (n_Mul_s : (List Int) → (List Int) → Bool) (n_Sub : (List Int) → (List Int) → (List Int) × Bool) (n_Sub_s : (List Int) → (List Int) → Bool) (n_Div : (List Int) → (List Int) → (List Int) × (List Int) × Int) (n_Div_s : (List Int) → (List Int) → Bool) (n_Len : (List Int) → Int) (n_Len_s : (List Int) → Bool) (a : List Int) (b : List Int) (c : List Int) : Tr (Bool) :=
  let t0 : Bool := (n_Sub (n_Add a b) b).snd;
  let t1 : List Int := (n_Sub (n_Add a b) b).fst;
  let t2 : Bool := n_Cmp_s (n_Add (n_Add a b) c) (n_Add a (n_Add b c));
  let t3 : Bool := n_Cmp_s t1 a;
  let t4 : Bool := n_Cmp_s (n_Mul (n_Mul a b) c) (n_Mul a (n_Mul b c));
  let t5 : Bool := n_Len b == 0;
  let t6 : Bool := n_Cmp_s (n_Mul a (n_Add b c)) (n_Add (n_Mul a b) (n_Mul a c));
  let t7 : List Int × Int := (n_Div (n_Add (n_Mul a b) c) b).snd;
  let t8 : List Int := (n_Div (n_Add (n_Mul a b) c) b).fst;
  let t9 : Bool := n_Mul_s t8 b;
  let t10 : List Int := n_Mul t8 b;
  let t11 : Bool := n_Cmp (n_Mul a b) (n_Mul b a) == 0;
  let t12 : List Int := t7.fst;
  let t13 : Int := t7.snd;
  let t14 : Int := n_Cmp t12 b;
  let t15 : Bool := n_Cmp t1 a == 0;
  let t16 : Bool := n_Cmp (n_Add (n_Add a b) c) (n_Add a (n_Add b c)) == 0;
  let t17 : Bool := n_Cmp (n_Mul (n_Mul a b) c) (n_Mul a (n_Mul b c)) == 0;
  let t18 : Bool := n_Cmp (n_Mul a (n_Add b c)) (n_Add (n_Mul a b) (n_Mul a c)) == 0;
  let t19 : List (List Cv) := id [[Cv.l a], [Cv.l b], [Cv.l c]];
  let t20 : List Int := n_Add t10 t12;
  let t21 : Bool := n_Add_s t10 t12;
  Tr.ast l2_works_s
    (Tr.br (!l2_works) (Tr.leaf false)
      (Tr.ast (l2_small_s t19)
        (Tr.br (!l2_small t19) (Tr.leaf l2_works)
          (Tr.ast (n_Add_s a b)
            (Tr.ast (n_Add_s b a)
              (Tr.ast (n_Cmp_s (n_Add a b) (n_Add b a))
                (Tr.br (n_Cmp (n_Add a b) (n_Add b a) == 0)
                  (Tr.ast (n_Mul_s a b)
                    (Tr.ast (n_Mul_s b a)
                      (Tr.ast (n_Cmp_s (n_Mul a b) (n_Mul b a))
                        (Tr.ast (n_Add_s a b)
                          (Tr.ast (n_Add_s (n_Add a b) c)
                            (Tr.ast (n_Add_s b c)
                              (Tr.ast (n_Add_s a (n_Add b c))
                                (Tr.ast t2
                                  (Tr.br t16
                                    (Tr.ast (n_Mul_s a b)
                                      (Tr.ast (n_Mul_s (n_Mul a b) c)
                                        (Tr.ast (n_Mul_s b c)
                                          (Tr.ast (n_Mul_s a (n_Mul b c))
                                            (Tr.ast t4
                                              (Tr.ast (n_Add_s b c)
                                                (Tr.ast (n_Mul_s a (n_Add b c))
                                                  (Tr.ast (n_Mul_s a b)
                                                    (Tr.ast (n_Mul_s a c)
                                                      (Tr.ast (n_Add_s (n_Mul a b) (n_Mul a c))
                                                        (Tr.ast t6
                                                          (Tr.ast (n_Add_s a b)
                                                            (Tr.ast (n_Sub_s (n_Add a b) b)
                                                              (Tr.ast (n_Mul_s a b)
                                                                (Tr.ast (n_Add_s (n_Mul a b) c)
                                                                  (Tr.ast (n_Div_s (n_Add (n_Mul a b) c) b)
                                                                    (Tr.ast (n_Len_s b)
                                                                      (Tr.br t5
                                                                        (Tr.br l2_works
                                                                          (Tr.br t11
                                                                            (Tr.br t17
                                                                              (Tr.br t18
                                                                                (Tr.br t0
                                                                                  (Tr.ast t3
                                                                                    (Tr.br t15 (Tr.leaf (t13 == 21))
                                                                                      (Tr.leaf false)))
                                                                                  (Tr.leaf false))
                                                                                (Tr.leaf false))
                                                                              (Tr.leaf false))
                                                                            (Tr.leaf false))
                                                                          (Tr.leaf false))
                                                                        (Tr.ast t9
                                                                          (Tr.ast t21
                                                                            (Tr.br l2_works
                                                                              (Tr.br t11
                                                                                (Tr.br t17
                                                                                  (Tr.br t18
                                                                                    (Tr.br t0
                                                                                      (Tr.ast t3
                                                                                        (Tr.br t15
                                                                                          (Tr.br (t13 == 0)
                                                                                            (Tr.ast (n_Cmp_s t12 b)
                                                                                              (Tr.br (decide (t14 < 0))
                                                                                                (Tr.ast (n_Mul_s a b)
                                                                                                  (Tr.ast
                                                                                                    (n_Add_s (n_Mul a b)
                                                                                                      c)
                                                                                                    (Tr.ast
                                                                                                      (n_Cmp_s t20
                                                                                                        (n_Add (n_Mul a b)
                                                                                                          c))
                                                                                                      (Tr.leaf
                                                                                                        (n_Cmp t20
                                                                                                            (n_Add
                                                                                                              (n_Mul a b)
                                                                                                              c) ==
                                                                                                          0)))))
                                                                                                (Tr.leaf false)))
                                                                                            (Tr.leaf false))
                                                                                          (Tr.leaf false)))
                                                                                      (Tr.leaf false))
                                                                                    (Tr.leaf false))
                                                                                  (Tr.leaf false))
                                                                                (Tr.leaf false))
                                                                              (Tr.leaf false))))))))))))))))))))))
                                    (Tr.ast (n_Add_s b c)
                                      (Tr.ast (n_Mul_s a (n_Add b c))
                                        (Tr.ast (n_Mul_s a b)
                                          (Tr.ast (n_Mul_s a c)
                                            (Tr.ast (n_Add_s (n_Mul a b) (n_Mul a c))
                                              (Tr.ast t6
                                                (Tr.ast (n_Add_s a b)
                                                  (Tr.ast (n_Sub_s (n_Add a b) b)
                                                    (Tr.ast (n_Mul_s a b)
                                                      (Tr.ast (n_Add_s (n_Mul a b) c)
                                                        (Tr.ast (n_Div_s (n_Add (n_Mul a b) c) b)
                                                          (Tr.ast (n_Len_s b)
                                                            (Tr.br t5
                                                              (Tr.br l2_works (Tr.br t11 (Tr.leaf false) (Tr.leaf false))
                                                                (Tr.leaf false))
                                                              (Tr.ast t9
                                                                (Tr.ast t21
                                                                  (Tr.br l2_works
                                                                    (Tr.br t11 (Tr.leaf false) (Tr.leaf false))
                                                                    (Tr.leaf false))))))))))))))))))))))))))
                  (Tr.ast (n_Add_s a b)
                    (Tr.ast (n_Add_s (n_Add a b) c)
                      (Tr.ast (n_Add_s b c)
                        (Tr.ast (n_Add_s a (n_Add b c))
                          (Tr.ast t2
                            (Tr.br t16
                              (Tr.ast (n_Mul_s a b)
                                (Tr.ast (n_Mul_s (n_Mul a b) c)
                                  (Tr.ast (n_Mul_s b c)
                                    (Tr.ast (n_Mul_s a (n_Mul b c))
                                      (Tr.ast t4
                                        (Tr.ast (n_Add_s b c)
                                          (Tr.ast (n_Mul_s a (n_Add b c))
                                            (Tr.ast (n_Mul_s a b)
                                              (Tr.ast (n_Mul_s a c)
                                                (Tr.ast (n_Add_s (n_Mul a b) (n_Mul a c))
                                                  (Tr.ast t6
                                                    (Tr.ast (n_Add_s a b)
                                                      (Tr.ast (n_Sub_s (n_Add a b) b)
                                                        (Tr.ast (n_Mul_s a b)
                                                          (Tr.ast (n_Add_s (n_Mul a b) c)
                                                            (Tr.ast (n_Div_s (n_Add (n_Mul a b) c) b)
                                                              (Tr.ast (n_Len_s b)
                                                                (Tr.br t5 (Tr.br l2_works (Tr.leaf false) (Tr.leaf false))
                                                                  (Tr.ast t9
                                                                    (Tr.ast t21
                                                                      (Tr.br l2_works (Tr.leaf false)
                                                                        (Tr.leaf false))))))))))))))))))))))
                              (Tr.ast (n_Add_s b c)
                                (Tr.ast (n_Mul_s a (n_Add b c))
                                  (Tr.ast (n_Mul_s a b)
                                    (Tr.ast (n_Mul_s a c)
                                      (Tr.ast (n_Add_s (n_Mul a b) (n_Mul a c))
                                        (Tr.ast t6
                                          (Tr.ast (n_Add_s a b)
                                            (Tr.ast (n_Sub_s (n_Add a b) b)
                                              (Tr.ast (n_Mul_s a b)
                                                (Tr.ast (n_Add_s (n_Mul a b) c)
                                                  (Tr.ast (n_Div_s (n_Add (n_Mul a b) c) b)
                                                    (Tr.ast (n_Len_s b)
                                                      (Tr.br t5 (Tr.br l2_works (Tr.leaf false) (Tr.leaf false))
                                                        (Tr.ast t9
                                                          (Tr.ast t21
                                                            (Tr.br l2_works (Tr.leaf false)
                                                              (Tr.leaf false))))))))))))))))))))))))))))))
def l_NatLaws_t (a : List Int) (b : List Int) (c : List Int) : Tr (Bool) := l_NatLaws_T l2_works l2_works_s l2_small l2_small_s n_Add n_Add_s n_Cmp n_Cmp_s n_Mul n_Mul_s n_Sub n_Sub_s n_Div n_Div_s n_Len n_Len_s a b c
def l_NatLaws (a : List Int) (b : List Int) (c : List Int) : Bool := (l_NatLaws_t a b c).val
def l_NatLaws_s (a : List Int) (b : List Int) (c : List Int) : Bool := (l_NatLaws_t a b c).safe
def l_NatCommon_T (l2_works : Bool) (l2_works_s : Bool) (l2_small : (List (List Cv)) → Bool) (l2_small_s : (List (List Cv)) → Bool) (n_Gcd : (List Int) → (List Int) → (List Int)) (n_Gcd_s : (List Int) → (List Int) → Bool) (n_Len : (List Int) → Int) (n_Len_s : (List Int) → Bool) (n_Div : (List Int) → (List Int) → (List Int) × (List Int) × Int) (n_Div_s : (List Int) → (List Int) → Bool) (n_Cmp : (List Int) → (List Int) → Int) (n_Cmp_s : (List Int) → (List Int) → Bool) (a : List Int) (b : List Int) : Tr (Bool) :=
  Tr.ast l2_works_s
    (Tr.br (!l2_works) (Tr.leaf false)
      (Tr.ast (l2_small_s (id [[Cv.l a], [Cv.l b]]))
        (Tr.br (!l2_small (id [[Cv.l a], [Cv.l b]])) (Tr.leaf l2_works)
          (Tr.ast (n_Gcd_s a b)
            (Tr.ast (n_Len_s (n_Gcd a b))
              (Tr.br (n_Len (n_Gcd a b) == 0)
                (Tr.br l2_works
                  (Tr.ast (n_Len_s a)
                    (Tr.br (n_Len a == 0) (Tr.ast (n_Len_s b) (Tr.leaf (n_Len b == 0))) (Tr.leaf false)))
                  (Tr.leaf false))
                (Tr.ast (n_Div_s a (n_Gcd a b))
                  (Tr.ast (n_Div_s b (n_Gcd a b))
                    (Tr.ast (n_Gcd_s (n_Div a (n_Gcd a b)).fst (n_Div b (n_Gcd a b)).fst)
                      (Tr.br l2_works
                        (Tr.br ((n_Div a (n_Gcd a b)).snd.snd == 0)
                          (Tr.br ((n_Div b (n_Gcd a b)).snd.snd == 0)
                            (Tr.ast (n_Len_s (n_Div a (n_Gcd a b)).snd.fst)
                              (Tr.br (n_Len (n_Div a (n_Gcd a b)).snd.fst == 0)
                                (Tr.ast (n_Len_s (n_Div b (n_Gcd a b)).snd.fst)
                                  (Tr.br (n_Len (n_Div b (n_Gcd a b)).snd.fst == 0)
                                    (Tr.ast (n_Len_s (n_Gcd (n_Div a (n_Gcd a b)).fst (n_Div b (n_Gcd a b)).fst))
                                      (Tr.br (n_Len (n_Gcd (n_Div a (n_Gcd a b)).fst (n_Div b (n_Gcd a b)).fst) == 1)
                                        (Tr.ast (n_Gcd_s b a)
                                          (Tr.ast (n_Cmp_s (n_Gcd b a) (n_Gcd a b))
                                            (Tr.leaf (n_Cmp (n_Gcd b a) (n_Gcd a b) == 0))))
                                        (Tr.leaf false)))
                                    (Tr.leaf false)))
                                (Tr.leaf false)))
                            (Tr.leaf false))
                          (Tr.leaf false))
                        (Tr.leaf false)))))))))))
def l_NatCommon_t (a : List Int) (b : List Int) : Tr (Bool) := l_NatCommon_T l2_works l2_works_s l2_small l2_small_s n_Gcd n_Gcd_s n_Len n_Len_s n_Div n_Div_s n_Cmp n_Cmp_s a b
def l_NatCommon (a : List Int) (b : List Int) : Bool := (l_NatCommon_t a b).val
def l_NatCommon_s (a : List Int) (b : List Int) : Bool := (l_NatCommon_t a b).safe
end Go.Fb
