/- Layer 6: what the laws compute, as definitions. Conditions: none. -/
import Derived.Test.YtggmmkdfgjnjfaaSd
namespace Go.Fb
open Go.Ev
def l6_works_T (s_Add : Int → Int → Int → Int × Int) (s_Add_s : Int → Int → Int → Bool) (s_Sub : Int → Int → Int → Int × Int) (s_Sub_s : Int → Int → Int → Bool) (s_Div : Int → Int → Int → Int × Int) (s_Div_s : Int → Int → Int → Bool) (s_Sqrt : Int → Int → Int × Int) (s_Sqrt_s : Int → Int → Bool) (p_Inf : Bool → Int) (s_Mul : Int → Int → Int → Int × Int) (s_Mul_s : Int → Int → Int → Bool) (s_Sum : Int → (List Int) → Int) (s_Sum_s : Int → (List Int) → Bool) (p_Quiet : Int)  : Tr (Bool) :=
  Tr.ast (s_Add_s 4607182418800017408 4368491638549381120 0)
    (Tr.ast (s_Add_s 4607182418800017408 4368491638549381120 1)
      (Tr.ast (s_Sub_s 4607182418800017408 4607182418800017408 0)
        (Tr.ast (s_Sub_s 4607182418800017408 4607182418800017408 2)
          (Tr.ast (s_Div_s 13830554455654793216 0 0)
            (Tr.ast (s_Sqrt_s 4611686018427387904 0)
              (Tr.ast (s_Mul_s 0 (p_Inf false) 0)
                (Tr.ast (s_Sum_s 0 [4607182418800017408, 4607182418800017408, 4607182418800017408])
                  (Tr.br ((s_Add 4607182418800017408 4368491638549381120 0).fst == 4607182418800017408)
                    (Tr.br ((s_Add 4607182418800017408 4368491638549381120 0).snd == 1)
                      (Tr.br ((s_Add 4607182418800017408 4368491638549381120 1).fst == 4607182418800017409)
                        (Tr.br ((s_Sub 4607182418800017408 4607182418800017408 0).fst == 0)
                          (Tr.br ((s_Sub 4607182418800017408 4607182418800017408 2).fst == 9223372036854775808)
                            (Tr.br ((s_Div 13830554455654793216 0 0).fst == p_Inf true)
                              (Tr.br ((s_Div 13830554455654793216 0 0).snd == 8)
                                (Tr.br ((s_Sqrt 4611686018427387904 0).fst == 4609047870845172685)
                                  (Tr.br ((s_Mul 0 (p_Inf false) 0).fst == p_Quiet)
                                    (Tr.br ((s_Mul 0 (p_Inf false) 0).snd == 16)
                                      (Tr.leaf
                                        (s_Sum 0 [4607182418800017408, 4607182418800017408, 4607182418800017408] ==
                                          4613937818241073152))
                                      (Tr.leaf false))
                                    (Tr.leaf false))
                                  (Tr.leaf false))
                                (Tr.leaf false))
                              (Tr.leaf false))
                            (Tr.leaf false))
                          (Tr.leaf false))
                        (Tr.leaf false))
                      (Tr.leaf false))
                    (Tr.leaf false)))))))))
def l6_works_t  : Tr (Bool) := l6_works_T s_Add s_Add_s s_Sub s_Sub_s s_Div s_Div_s s_Sqrt s_Sqrt_s p_Inf s_Mul s_Mul_s s_Sum s_Sum_s p_Quiet 
def l6_works  : Bool := (l6_works_t ).val
def l6_works_s  : Bool := (l6_works_t ).safe
def l_SoftSquares_T (l6_works : Bool) (l6_works_s : Bool) (p_Value : Int → RR × Bool) (p_Value_s : Int → Bool) (q_Sign : RR → Int) (q_Sign_s : RR → Bool) (s_Sqrt : Int → Int → Int × Int) (s_Sqrt_s : Int → Int → Bool) (p_Next : Int → Int) (q_Mul : RR → RR → RR) (q_Mul_s : RR → RR → Bool) (q_Cmp : RR → RR → Int) (q_Cmp_s : RR → RR → Bool) (a : Int) : Tr (Bool) :=
  Tr.ast l6_works_s
    (Tr.br (!l6_works) (Tr.leaf false)
      (Tr.ast (p_Value_s a)
        (Tr.br (!(p_Value a).snd) (Tr.leaf l6_works)
          (Tr.ast (q_Sign_s (p_Value a).fst)
            (Tr.br (decide (q_Sign (p_Value a).fst ≤ 0)) (Tr.leaf l6_works)
              (Tr.ast (s_Sqrt_s a 2)
                (Tr.ast (s_Sqrt_s a 1)
                  (Tr.ast (s_Sqrt_s a 0)
                    (Tr.ast (p_Value_s (s_Sqrt a 2).fst)
                      (Tr.ast (p_Value_s (s_Sqrt a 1).fst)
                        (Tr.ast (p_Value_s (p_Next (s_Sqrt a 2).fst))
                          (Tr.br l6_works
                            (Tr.ast (q_Mul_s (p_Value (s_Sqrt a 2).fst).fst (p_Value (s_Sqrt a 2).fst).fst)
                              (Tr.ast
                                (q_Cmp_s (q_Mul (p_Value (s_Sqrt a 2).fst).fst (p_Value (s_Sqrt a 2).fst).fst)
                                  (p_Value a).fst)
                                (Tr.br
                                  (decide
                                    (q_Cmp (q_Mul (p_Value (s_Sqrt a 2).fst).fst (p_Value (s_Sqrt a 2).fst).fst)
                                        (p_Value a).fst ≤
                                      0))
                                  (Tr.ast (q_Mul_s (p_Value (s_Sqrt a 1).fst).fst (p_Value (s_Sqrt a 1).fst).fst)
                                    (Tr.ast
                                      (q_Cmp_s (q_Mul (p_Value (s_Sqrt a 1).fst).fst (p_Value (s_Sqrt a 1).fst).fst)
                                        (p_Value a).fst)
                                      (Tr.br
                                        (decide
                                          (q_Cmp (q_Mul (p_Value (s_Sqrt a 1).fst).fst (p_Value (s_Sqrt a 1).fst).fst)
                                              (p_Value a).fst ≥
                                            0))
                                        (Tr.ast
                                          (q_Mul_s (p_Value (p_Next (s_Sqrt a 2).fst)).fst
                                            (p_Value (p_Next (s_Sqrt a 2).fst)).fst)
                                          (Tr.ast
                                            (q_Cmp_s
                                              (q_Mul (p_Value (p_Next (s_Sqrt a 2).fst)).fst
                                                (p_Value (p_Next (s_Sqrt a 2).fst)).fst)
                                              (p_Value a).fst)
                                            (Tr.br
                                              (decide
                                                (q_Cmp
                                                    (q_Mul (p_Value (p_Next (s_Sqrt a 2).fst)).fst
                                                      (p_Value (p_Next (s_Sqrt a 2).fst)).fst)
                                                    (p_Value a).fst >
                                                  0))
                                              (Tr.br ((s_Sqrt a 0).fst == (s_Sqrt a 2).fst)
                                                (Tr.br ((s_Sqrt a 2).fst == (s_Sqrt a 1).fst) (Tr.leaf true)
                                                  (Tr.leaf (p_Next (s_Sqrt a 2).fst == (s_Sqrt a 1).fst)))
                                                (Tr.br ((s_Sqrt a 0).fst == (s_Sqrt a 1).fst)
                                                  (Tr.br ((s_Sqrt a 2).fst == (s_Sqrt a 1).fst) (Tr.leaf true)
                                                    (Tr.leaf (p_Next (s_Sqrt a 2).fst == (s_Sqrt a 1).fst)))
                                                  (Tr.leaf false)))
                                              (Tr.leaf false))))
                                        (Tr.leaf false))))
                                  (Tr.leaf false))))
                            (Tr.leaf false)))))))))))))
def l_SoftSquares_t (a : Int) : Tr (Bool) := l_SoftSquares_T l6_works l6_works_s p_Value p_Value_s q_Sign q_Sign_s s_Sqrt s_Sqrt_s p_Next q_Mul q_Mul_s q_Cmp q_Cmp_s a
def l_SoftSquares (a : Int) : Bool := (l_SoftSquares_t a).val
def l_SoftSquares_s (a : Int) : Bool := (l_SoftSquares_t a).safe
end Go.Fb
