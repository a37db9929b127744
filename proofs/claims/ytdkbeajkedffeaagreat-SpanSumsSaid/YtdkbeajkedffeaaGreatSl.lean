/- Layer 6: what the laws compute, as definitions. Conditions: none. -/
import Derived.Test.YtdkbeajkedffeaaGreatSd
namespace Go.Fb
open Go.Ev
def l6_works_T (s_Add : Int → Int → Int → Int × Int) (s_Add_s : Int → Int → Int → Bool) (s_Sub : Int → Int → Int → Int × Int) (s_Sub_s : Int → Int → Int → Bool) (s_Div : Int → Int → Int → Int × Int) (s_Div_s : Int → Int → Int → Bool) (s_Sqrt : Int → Int → Int × Int) (s_Sqrt_s : Int → Int → Bool) (p_Inf : Bool → Int) (s_Mul : Int → Int → Int → Int × Int) (s_Mul_s : Int → Int → Int → Bool) (s_Sum : Int → (List Int) → Int) (s_Sum_s : Int → (List Int) → Bool) (p_Quiet : Int)  : Tr (Bool) :=
  Tr.ast (s_Add_s 4607182418800017408 4368491638549381120 0)
    (Tr.ast (s_Add_s 4607182418800017408 4368491638549381120 1)
      (Tr.ast (s_Sub_s 4607182418800017408 4607182418800017408 0)
        (Tr.ast (s_Sub_s 4607182418800017408 4607182418800017408 2)
          (Tr.ast (s_Div_s 13830554455654793216 0 0)
            (Tr.ast (s_Sqrt_s 4611686018427387904 0)
              (Tr.ast (s_Mul_s 0 (p_Inf false) 0)
                (Tr.ast (s_Sum_s 0 [4607182418800017408, 4607182418800017408, 4607182418800017408])
                  (Tr.br ((s_Add 4607182418800017408 4368491638549381120 0).fst == 4607182418800017408)
                    (Tr.br ((s_Add 4607182418800017408 4368491638549381120 0).snd == 1)
                      (Tr.br ((s_Add 4607182418800017408 4368491638549381120 1).fst == 4607182418800017409)
                        (Tr.br ((s_Sub 4607182418800017408 4607182418800017408 0).fst == 0)
                          (Tr.br ((s_Sub 4607182418800017408 4607182418800017408 2).fst == 9223372036854775808)
                            (Tr.br ((s_Div 13830554455654793216 0 0).fst == p_Inf true)
                              (Tr.br ((s_Div 13830554455654793216 0 0).snd == 8)
                                (Tr.br ((s_Sqrt 4611686018427387904 0).fst == 4609047870845172685)
                                  (Tr.br ((s_Mul 0 (p_Inf false) 0).fst == p_Quiet)
                                    (Tr.br ((s_Mul 0 (p_Inf false) 0).snd == 16)
                                      (Tr.leaf
                                        (s_Sum 0 [4607182418800017408, 4607182418800017408, 4607182418800017408] ==
                                          4613937818241073152))
                                      (Tr.leaf false))
                                    (Tr.leaf false))
                                  (Tr.leaf false))
                                (Tr.leaf false))
                              (Tr.leaf false))
                            (Tr.leaf false))
                          (Tr.leaf false))
                        (Tr.leaf false))
                      (Tr.leaf false))
                    (Tr.leaf false)))))))))
def l6_works_t  : Tr (Bool) := l6_works_T s_Add s_Add_s s_Sub s_Sub_s s_Div s_Div_s s_Sqrt s_Sqrt_s p_Inf s_Mul s_Mul_s s_Sum s_Sum_s p_Quiet 
def l6_works  : Bool := (l6_works_t ).val
def l6_works_s  : Bool := (l6_works_t ).safe
end Go.Fb
