/- Layer 6: what the laws compute, as definitions. Conditions: none. -/
import Derived.Test.YtggmmkdfgjnjfaaSd
namespace Go.Fb
open Go.Ev
def l6_works_T (s_Add : Int → Int → Int → Int × Int) (s_Add_s : Int → Int → Int → Bool) (s_Sub : Int → Int → Int → Int × Int) (s_Sub_s : Int → Int → Int → Bool) (s_Div : Int → Int → Int → Int × Int) (s_Div_s : Int → Int → Int → Bool) (s_Sqrt : Int → Int → Int × Int) (s_Sqrt_s : Int → Int → Bool) (p_Inf : Bool → Int) (s_Mul : Int → Int → Int → Int × Int) (s_Mul_s : Int → Int → Int → Bool) (s_Sum : Int → (List Int) → Int) (s_Sum_s : Int → (List Int) → Bool) (p_Quiet : Int)  : Tr (Bool) :=
  Tr.ast (s_Add_s 4607182418800017408 4368491638549381120 0)
    (Tr.ast (s_Add_s 4607182418800017408 4368491638549381120 1)
      (Tr.ast (s_Sub_s 4607182418800017408 4607182418800017408 0)
        (Tr.ast (s_Sub_s 4607182418800017408 4607182418800017408 2)
          (Tr.ast (s_Div_s 13830554455654793216 0 0)
            (Tr.ast (s_Sqrt_s 4611686018427387904 0)
              (Tr.ast (s_Mul_s 0 (p_Inf false) 0)
                (Tr.ast (s_Sum_s 0 [4607182418800017408, 4607182418800017408, 4607182418800017408])
                  (Tr.br ((s_Add 4607182418800017408 4368491638549381120 0).fst == 4607182418800017408)
                    (Tr.br ((s_Add 4607182418800017408 4368491638549381120 0).snd == 1)
                      (Tr.br ((s_Add 4607182418800017408 4368491638549381120 1).fst == 4607182418800017409)
                        (Tr.br ((s_Sub 4607182418800017408 4607182418800017408 0).fst == 0)
                          (Tr.br ((s_Sub 4607182418800017408 4607182418800017408 2).fst == 9223372036854775808)
                            (Tr.br ((s_Div 13830554455654793216 0 0).fst == p_Inf true)
                              (Tr.br ((s_Div 13830554455654793216 0 0).snd == 8)
                                (Tr.br ((s_Sqrt 4611686018427387904 0).fst == 4609047870845172685)
                                  (Tr.br ((s_Mul 0 (p_Inf false) 0).fst == p_Quiet)
                                    (Tr.br ((s_Mul 0 (p_Inf false) 0).snd == 16)
                                      (Tr.leaf
                                        (s_Sum 0 [4607182418800017408, 4607182418800017408, 4607182418800017408] ==
                                          4613937818241073152))
                                      (Tr.leaf false))
                                    (Tr.leaf false))
                                  (Tr.leaf false))
                                (Tr.leaf false))
                              (Tr.leaf false))
                            (Tr.leaf false))
                          (Tr.leaf false))
                        (Tr.leaf false))
                      (Tr.leaf false))
                    (Tr.leaf false)))))))))
def l6_works_t  : Tr (Bool) := l6_works_T s_Add s_Add_s s_Sub s_Sub_s s_Div s_Div_s s_Sqrt s_Sqrt_s p_Inf s_Mul s_Mul_s s_Sum s_Sum_s p_Quiet 
def l6_works  : Bool := (l6_works_t ).val
def l6_works_s  : Bool := (l6_works_t ).safe
def l_SoftAdds_T (l6_works : Bool) (l6_works_s : Bool) (s_Add : Int → Int → Int → Int × Int) (s_Add_s : Int → Int → Int → Bool) (r6_Add : Int → Int → Int → Int × Int) (r6_Add_s : Int → Int → Int → Bool) (s_Sub : Int → Int → Int → Int × Int) (s_Sub_s : Int → Int → Int → Bool) (p_Class : Int → Int) (a : Int) (b : Int) (mode : Int) : Tr (Bool) :=
  Tr.ast l6_works_s
    (Tr.br (!l6_works) (Tr.leaf false)
      (Tr.ast (s_Add_s a b mode)
        (Tr.ast (r6_Add_s a b mode)
          (Tr.ast (s_Sub_s a b mode)
            (Tr.br (p_Class b != 4)
              (Tr.ast (r6_Add_s a (bitsI BinOp.xor IntKind.u64 b 9223372036854775808) mode)
                (Tr.br l6_works
                  (Tr.br ((s_Add a b mode).fst == (r6_Add a b mode).fst)
                    (Tr.br ((s_Add a b mode).snd == (r6_Add a b mode).snd)
                      (Tr.br
                        ((s_Sub a b mode).fst == (r6_Add a (bitsI BinOp.xor IntKind.u64 b 9223372036854775808) mode).fst)
                        (Tr.leaf
                          ((s_Sub a b mode).snd ==
                            (r6_Add a (bitsI BinOp.xor IntKind.u64 b 9223372036854775808) mode).snd))
                        (Tr.leaf false))
                      (Tr.leaf false))
                    (Tr.leaf false))
                  (Tr.leaf false)))
              (Tr.ast (r6_Add_s a b mode)
                (Tr.br l6_works
                  (Tr.br ((s_Add a b mode).fst == (r6_Add a b mode).fst)
                    (Tr.br ((s_Add a b mode).snd == (r6_Add a b mode).snd)
                      (Tr.br ((s_Sub a b mode).fst == (r6_Add a b mode).fst)
                        (Tr.leaf ((s_Sub a b mode).snd == (r6_Add a b mode).snd)) (Tr.leaf false))
                      (Tr.leaf false))
                    (Tr.leaf false))
                  (Tr.leaf false))))))))
def l_SoftAdds_t (a : Int) (b : Int) (mode : Int) : Tr (Bool) := l_SoftAdds_T l6_works l6_works_s s_Add s_Add_s r6_Add r6_Add_s s_Sub s_Sub_s p_Class a b mode
def l_SoftAdds (a : Int) (b : Int) (mode : Int) : Bool := (l_SoftAdds_t a b mode).val
def l_SoftAdds_s (a : Int) (b : Int) (mode : Int) : Bool := (l_SoftAdds_t a b mode).safe
def l_SoftMuls_T (l6_works : Bool) (l6_works_s : Bool) (s_Mul : Int → Int → Int → Int × Int) (s_Mul_s : Int → Int → Int → Bool) (r6_Mul : Int → Int → Int → Int × Int) (r6_Mul_s : Int → Int → Int → Bool) (a : Int) (b : Int) (mode : Int) : Tr (Bool) :=
  Tr.ast l6_works_s
    (Tr.br (!l6_works) (Tr.leaf false)
      (Tr.ast (s_Mul_s a b mode)
        (Tr.ast (r6_Mul_s a b mode)
          (Tr.br l6_works
            (Tr.br ((s_Mul a b mode).fst == (r6_Mul a b mode).fst)
              (Tr.leaf ((s_Mul a b mode).snd == (r6_Mul a b mode).snd)) (Tr.leaf false))
            (Tr.leaf false)))))
def l_SoftMuls_t (a : Int) (b : Int) (mode : Int) : Tr (Bool) := l_SoftMuls_T l6_works l6_works_s s_Mul s_Mul_s r6_Mul r6_Mul_s a b mode
def l_SoftMuls (a : Int) (b : Int) (mode : Int) : Bool := (l_SoftMuls_t a b mode).val
def l_SoftMuls_s (a : Int) (b : Int) (mode : Int) : Bool := (l_SoftMuls_t a b mode).safe
def l_SoftDivides_T (l6_works : Bool) (l6_works_s : Bool) (s_Div : Int → Int → Int → Int × Int) (s_Div_s : Int → Int → Int → Bool) (r6_Div : Int → Int → Int → Int × Int) (r6_Div_s : Int → Int → Int → Bool) (a : Int) (b : Int) (mode : Int) : Tr (Bool) :=
  Tr.ast l6_works_s
    (Tr.br (!l6_works) (Tr.leaf false)
      (Tr.ast (s_Div_s a b mode)
        (Tr.ast (r6_Div_s a b mode)
          (Tr.br l6_works
            (Tr.br ((s_Div a b mode).fst == (r6_Div a b mode).fst)
              (Tr.leaf ((s_Div a b mode).snd == (r6_Div a b mode).snd)) (Tr.leaf false))
            (Tr.leaf false)))))
def l_SoftDivides_t (a : Int) (b : Int) (mode : Int) : Tr (Bool) := l_SoftDivides_T l6_works l6_works_s s_Div s_Div_s r6_Div r6_Div_s a b mode
def l_SoftDivides (a : Int) (b : Int) (mode : Int) : Bool := (l_SoftDivides_t a b mode).val
def l_SoftDivides_s (a : Int) (b : Int) (mode : Int) : Bool := (l_SoftDivides_t a b mode).safe
def l_SoftRoots_T (l6_works : Bool) (l6_works_s : Bool) (s_Sqrt : Int → Int → Int × Int) (s_Sqrt_s : Int → Int → Bool) (r6_Sqrt : Int → Int → Int × Int) (r6_Sqrt_s : Int → Int → Bool) (a : Int) (mode : Int) : Tr (Bool) :=
  Tr.ast l6_works_s
    (Tr.br (!l6_works) (Tr.leaf false)
      (Tr.ast (s_Sqrt_s a mode)
        (Tr.ast (r6_Sqrt_s a mode)
          (Tr.br l6_works
            (Tr.br ((s_Sqrt a mode).fst == (r6_Sqrt a mode).fst) (Tr.leaf ((s_Sqrt a mode).snd == (r6_Sqrt a mode).snd))
              (Tr.leaf false))
            (Tr.leaf false)))))
def l_SoftRoots_t (a : Int) (mode : Int) : Tr (Bool) := l_SoftRoots_T l6_works l6_works_s s_Sqrt s_Sqrt_s r6_Sqrt r6_Sqrt_s a mode
def l_SoftRoots (a : Int) (mode : Int) : Bool := (l_SoftRoots_t a mode).val
def l_SoftRoots_s (a : Int) (mode : Int) : Bool := (l_SoftRoots_t a mode).safe
def l_SoftSums_L0_T (r6_Add : Int → Int → Int → Int × Int) (r6_Add_s : Int → Int → Int → Bool) (v0 : Int) (v1 : List Int) (_v5 : Bool) (v6 : Int) (v7 : Int) : Tr ((Int × Int) ⊕ (Int × Int)) :=
  Tr.br (decide (v7 < (v1.length : Int)))
    (Tr.ast (decide (0 ≤ v7) && decide (v7 < (v1.length : Int)))
      (Tr.ast (r6_Add_s v6 (v1.getD v7.toNat 0) v0)
        (Tr.leaf (Sum.inl ((r6_Add v6 (v1.getD v7.toNat 0) v0).fst, IntKind.i64.wrap (v7 + 1))))))
    (Tr.leaf (Sum.inr (v6, v7)))
def l_SoftSums_L0_step (p : Int × (List Int) × Bool) (x : Int × Int) : Tr ((Int × Int) ⊕ (Int × Int)) := l_SoftSums_L0_T r6_Add r6_Add_s p.1 p.2.1 p.2.2 x.1 x.2
def l_SoftSums_L0_r (p : Int × (List Int) × Bool) (x : Int × Int) : Option (Int × Int) := runB (l_SoftSums_L0_step p) x
def l_SoftSums_L0_v (p : Int × (List Int) × Bool) (x : Int × Int) : Int × Int := (l_SoftSums_L0_r p x).getD x
def l_SoftSums_L0_ok (p : Int × (List Int) × Bool) (x : Int × Int) : Bool := (l_SoftSums_L0_r p x).isSome
def l_SoftSums_T (l6_works : Bool) (l6_works_s : Bool) (s_Sum : Int → (List Int) → Int) (s_Sum_s : Int → (List Int) → Bool) (l_SoftSums_L0_ok : (Int × (List Int) × Bool) → (Int × Int) → Bool) (l_SoftSums_L0_v : (Int × (List Int) × Bool) → (Int × Int) → Int × Int) (mode : Int) (l : List Int) : Tr (Bool) :=
  Tr.ast l6_works_s
    (Tr.br (!l6_works) (Tr.leaf false)
      (Tr.br (decide ((l.length : Int) > 100)) (Tr.leaf l6_works)
        (Tr.ast (l_SoftSums_L0_ok (mode, l, l6_works) (0, 0))
          (Tr.br l6_works
            (Tr.ast (s_Sum_s mode l) (Tr.leaf (s_Sum mode l == (l_SoftSums_L0_v (mode, l, l6_works) (0, 0)).fst)))
            (Tr.leaf false)))))
def l_SoftSums_t (mode : Int) (l : List Int) : Tr (Bool) := l_SoftSums_T l6_works l6_works_s s_Sum s_Sum_s l_SoftSums_L0_ok l_SoftSums_L0_v mode l
def l_SoftSums (mode : Int) (l : List Int) : Bool := (l_SoftSums_t mode l).val
def l_SoftSums_s (mode : Int) (l : List Int) : Bool := (l_SoftSums_t mode l).safe
end Go.Fb
