/- Layer 6: what the laws compute, as definitions. Conditions: none. -/
import Derived.Test.YtggmmkdfgjnjfaaSd
namespace Go.Fb
open Go.Ev
def l6_works_T (s_Add : Int → Int → Int → Int × Int) (s_Add_s : Int → Int → Int → Bool) (s_Sub : Int → Int → Int → Int × Int) (s_Sub_s : Int → Int → Int → Bool) (s_Div : Int → Int → Int → Int × Int) (s_Div_s : Int → Int → Int → Bool) (s_Sqrt : Int → Int → Int × Int) (s_Sqrt_s : Int → Int → Bool) (p_Inf : Bool → Int) (s_Mul : Int → Int → Int → Int × Int) (s_Mul_s : Int → Int → Int → Bool) (s_Sum : Int → (List Int) → Int) (s_Sum_s : Int → (List Int) → Bool) (p_Quiet : Int)  : Tr (Bool) :=
  Tr.ast (s_Add_s 4607182418800017408 4368491638549381120 0)
    (Tr.ast (s_Add_s 4607182418800017408 4368491638549381120 1)
      (Tr.ast (s_Sub_s 4607182418800017408 4607182418800017408 0)
        (Tr.ast (s_Sub_s 4607182418800017408 4607182418800017408 2)
          (Tr.ast (s_Div_s 13830554455654793216 0 0)
            (Tr.ast (s_Sqrt_s 4611686018427387904 0)
              (Tr.ast (s_Mul_s 0 (p_Inf false) 0)
                (Tr.ast (s_Sum_s 0 [4607182418800017408, 4607182418800017408, 4607182418800017408])
                  (Tr.br ((s_Add 4607182418800017408 4368491638549381120 0).fst == 4607182418800017408)
                    (Tr.br ((s_Add 4607182418800017408 4368491638549381120 0).snd == 1)
                      (Tr.br ((s_Add 4607182418800017408 4368491638549381120 1).fst == 4607182418800017409)
                        (Tr.br ((s_Sub 4607182418800017408 4607182418800017408 0).fst == 0)
                          (Tr.br ((s_Sub 4607182418800017408 4607182418800017408 2).fst == 9223372036854775808)
                            (Tr.br ((s_Div 13830554455654793216 0 0).fst == p_Inf true)
                              (Tr.br ((s_Div 13830554455654793216 0 0).snd == 8)
                                (Tr.br ((s_Sqrt 4611686018427387904 0).fst == 4609047870845172685)
                                  (Tr.br ((s_Mul 0 (p_Inf false) 0).fst == p_Quiet)
                                    (Tr.br ((s_Mul 0 (p_Inf false) 0).snd == 16)
                                      (Tr.leaf
                                        (s_Sum 0 [4607182418800017408, 4607182418800017408, 4607182418800017408] ==
                                          4613937818241073152))
                                      (Tr.leaf false))
                                    (Tr.leaf false))
                                  (Tr.leaf false))
                                (Tr.leaf false))
                              (Tr.leaf false))
                            (Tr.leaf false))
                          (Tr.leaf false))
                        (Tr.leaf false))
                      (Tr.leaf false))
                    (Tr.leaf false)))))))))
def l6_works_t  : Tr (Bool) := l6_works_T s_Add s_Add_s s_Sub s_Sub_s s_Div s_Div_s s_Sqrt s_Sqrt_s p_Inf s_Mul s_Mul_s s_Sum s_Sum_s p_Quiet 
def l6_works  : Bool := (l6_works_t ).val
def l6_works_s  : Bool := (l6_works_t ).safe
def l6_agrees_T (q_Sign : RR → Int) (q_Sign_s : RR → Bool) (p_Class : Int → Int) (n_Exact : RR → Int → Int × Int) (n_Exact_s : RR → Int → Bool) (f : Int) (g : Int) (r : RR) (mode : Int) : Tr (Bool) :=
  Tr.ast (q_Sign_s r)
    (Tr.br (q_Sign r == 0) (Tr.br (p_Class f == 0) (Tr.leaf (g == 0)) (Tr.leaf false))
      (Tr.ast (n_Exact_s r mode)
        (Tr.br (f == (n_Exact r mode).fst) (Tr.leaf (g == (n_Exact r mode).snd)) (Tr.leaf false))))
def l6_agrees_t (f : Int) (g : Int) (r : RR) (mode : Int) : Tr (Bool) := l6_agrees_T q_Sign q_Sign_s p_Class n_Exact n_Exact_s f g r mode
def l6_agrees (f : Int) (g : Int) (r : RR) (mode : Int) : Bool := (l6_agrees_t f g r mode).val
def l6_agrees_s (f : Int) (g : Int) (r : RR) (mode : Int) : Bool := (l6_agrees_t f g r mode).safe
def l_SoftExact_T (l6_works : Bool) (l6_works_s : Bool) (p_Value : Int → RR × Bool) (p_Value_s : Int → Bool) (s_Add : Int → Int → Int → Int × Int) (s_Add_s : Int → Int → Int → Bool) (s_Mul : Int → Int → Int → Int × Int) (s_Mul_s : Int → Int → Int → Bool) (q_Add : RR → RR → RR) (q_Add_s : RR → RR → Bool) (l6_agrees : Int → Int → RR → Int → Bool) (l6_agrees_s : Int → Int → RR → Int → Bool) (q_Mul : RR → RR → RR) (q_Mul_s : RR → RR → Bool) (q_Div : RR → RR → RR × Int) (q_Div_s : RR → RR → Bool) (s_Div : Int → Int → Int → Int × Int) (s_Div_s : Int → Int → Int → Bool) (a : Int) (b : Int) (mode : Int) : Tr (Bool) :=
  Tr.ast l6_works_s
    (Tr.br (!l6_works) (Tr.leaf false)
      (Tr.ast (p_Value_s a)
        (Tr.ast (p_Value_s b)
          (Tr.br (!(p_Value a).snd) (Tr.leaf l6_works)
            (Tr.br (!(p_Value b).snd) (Tr.leaf l6_works)
              (Tr.ast (s_Add_s a b mode)
                (Tr.ast (s_Mul_s a b mode)
                  (Tr.ast (q_Add_s (p_Value a).fst (p_Value b).fst)
                    (Tr.ast
                      (l6_agrees_s (s_Add a b mode).fst (s_Add a b mode).snd (q_Add (p_Value a).fst (p_Value b).fst) mode)
                      (Tr.ast (q_Mul_s (p_Value a).fst (p_Value b).fst)
                        (Tr.ast
                          (l6_agrees_s (s_Mul a b mode).fst (s_Mul a b mode).snd (q_Mul (p_Value a).fst (p_Value b).fst)
                            mode)
                          (Tr.br
                            (!l6_agrees (s_Add a b mode).fst (s_Add a b mode).snd (q_Add (p_Value a).fst (p_Value b).fst)
                                mode)
                            (Tr.leaf false)
                            (Tr.br
                              (!l6_agrees (s_Mul a b mode).fst (s_Mul a b mode).snd
                                  (q_Mul (p_Value a).fst (p_Value b).fst) mode)
                              (Tr.leaf false)
                              (Tr.ast (q_Div_s (p_Value a).fst (p_Value b).fst)
                                (Tr.br ((q_Div (p_Value a).fst (p_Value b).fst).snd != 0) (Tr.leaf l6_works)
                                  (Tr.ast (s_Div_s a b mode)
                                    (Tr.ast
                                      (l6_agrees_s (s_Div a b mode).fst (s_Div a b mode).snd
                                        (q_Div (p_Value a).fst (p_Value b).fst).fst mode)
                                      (Tr.br l6_works
                                        (Tr.leaf
                                          (l6_agrees (s_Div a b mode).fst (s_Div a b mode).snd
                                            (q_Div (p_Value a).fst (p_Value b).fst).fst mode))
                                        (Tr.leaf false)))))))))))))))))))
def l_SoftExact_t (a : Int) (b : Int) (mode : Int) : Tr (Bool) := l_SoftExact_T l6_works l6_works_s p_Value p_Value_s s_Add s_Add_s s_Mul s_Mul_s q_Add q_Add_s l6_agrees l6_agrees_s q_Mul q_Mul_s q_Div q_Div_s s_Div s_Div_s a b mode
def l_SoftExact (a : Int) (b : Int) (mode : Int) : Bool := (l_SoftExact_t a b mode).val
def l_SoftExact_s (a : Int) (b : Int) (mode : Int) : Bool := (l_SoftExact_t a b mode).safe
end Go.Fb
