/- Layer 7: what the laws compute, as definitions. Conditions: none. -/
import Derived.Test.YtggmmkdfgjnjfaaCd
namespace Go.Fb
open Go.Ev
def l7_works_T (c_FromInt : Int → Int → Int × Int) (c_FromInt_s : Int → Int → Bool) (c_ToInt32 : Int → Int × Int) (c_ToInt32_s : Int → Bool) (c_ToInt64 : Int → Int × Int) (c_ToInt64_s : Int → Bool) (c_Whole : Int → Int → Int × Int) (c_Whole_s : Int → Int → Bool)  : Tr (Bool) :=
  Tr.ast (c_FromInt_s 9007199254740993 0)
    (Tr.ast (c_FromInt_s 9007199254740993 1)
      (Tr.ast (c_ToInt32_s 13833932155375321088)
        (Tr.ast (c_ToInt32_s 4746794007248502784)
          (Tr.ast (c_ToInt64_s 4746794007248502784)
            (Tr.ast (c_Whole_s 4612811918334230528 0)
              (Tr.ast (c_Whole_s 13826050856027422720 1)
                (Tr.br ((c_FromInt 9007199254740993 0).fst == 4845873199050653696)
                  (Tr.br ((c_FromInt 9007199254740993 0).snd == 1)
                    (Tr.br ((c_FromInt 9007199254740993 1).fst == 4845873199050653697)
                      (Tr.br ((c_ToInt32 13833932155375321088).fst == -1)
                        (Tr.br ((c_ToInt32 13833932155375321088).snd == 1)
                          (Tr.br ((c_ToInt32 4746794007248502784).fst == 0)
                            (Tr.br ((c_ToInt32 4746794007248502784).snd == 16)
                              (Tr.br ((c_ToInt64 4746794007248502784).fst == 2147483648)
                                (Tr.br ((c_ToInt64 4746794007248502784).snd == 0)
                                  (Tr.br ((c_Whole 4612811918334230528 0).fst == 4611686018427387904)
                                    (Tr.br ((c_Whole 4612811918334230528 0).snd == 1)
                                      (Tr.leaf ((c_Whole 13826050856027422720 1).fst == 9223372036854775808))
                                      (Tr.leaf false))
                                    (Tr.leaf false))
                                  (Tr.leaf false))
                                (Tr.leaf false))
                              (Tr.leaf false))
                            (Tr.leaf false))
                          (Tr.leaf false))
                        (Tr.leaf false))
                      (Tr.leaf false))
                    (Tr.leaf false))
                  (Tr.leaf false))))))))
def l7_works_t  : Tr (Bool) := l7_works_T c_FromInt c_FromInt_s c_ToInt32 c_ToInt32_s c_ToInt64 c_ToInt64_s c_Whole c_Whole_s 
def l7_works  : Bool := (l7_works_t ).val
def l7_works_s  : Bool := (l7_works_t ).safe
def l_ConvNear_T (l7_works : Bool) (l7_works_s : Bool) (p_Value : Int → RR × Bool) (p_Value_s : Int → Bool) (q_Int : Int → RR) (q_Int_s : Int → Bool) (c_ToInt64 : Int → Int × Int) (c_ToInt64_s : Int → Bool) (q_Sub : RR → RR → RR) (q_Sub_s : RR → RR → Bool) (q_Abs : RR → RR) (q_Abs_s : RR → Bool) (q_Cmp : RR → RR → Int) (q_Cmp_s : RR → RR → Bool) (c_Whole : Int → Int → Int × Int) (c_Whole_s : Int → Int → Bool) (f : Int) (mode : Int) : Tr (Bool) :=
  Tr.ast l7_works_s
    (Tr.br (!l7_works) (Tr.leaf false)
      (Tr.ast (p_Value_s f)
        (Tr.br (!(p_Value f).snd) (Tr.leaf l7_works)
          (Tr.ast (q_Int_s 1)
            (Tr.ast (c_ToInt64_s f)
              (Tr.br ((c_ToInt64 f).snd != 16)
                (Tr.ast (q_Int_s (c_ToInt64 f).fst)
                  (Tr.ast (q_Sub_s (q_Int (c_ToInt64 f).fst) (p_Value f).fst)
                    (Tr.ast (q_Abs_s (q_Sub (q_Int (c_ToInt64 f).fst) (p_Value f).fst))
                      (Tr.ast (q_Cmp_s (q_Abs (q_Sub (q_Int (c_ToInt64 f).fst) (p_Value f).fst)) (q_Int 1))
                        (Tr.br (decide (q_Cmp (q_Abs (q_Sub (q_Int (c_ToInt64 f).fst) (p_Value f).fst)) (q_Int 1) ≥ 0))
                          (Tr.leaf false)
                          (Tr.ast (q_Abs_s (q_Int (c_ToInt64 f).fst))
                            (Tr.ast (q_Abs_s (p_Value f).fst)
                              (Tr.ast (q_Cmp_s (q_Abs (q_Int (c_ToInt64 f).fst)) (q_Abs (p_Value f).fst))
                                (Tr.br (decide (q_Cmp (q_Abs (q_Int (c_ToInt64 f).fst)) (q_Abs (p_Value f).fst) > 0))
                                  (Tr.leaf false)
                                  (Tr.ast (q_Cmp_s (q_Int (c_ToInt64 f).fst) (p_Value f).fst)
                                    (Tr.br
                                      (!((c_ToInt64 f).snd == 1) ==
                                          (q_Cmp (q_Int (c_ToInt64 f).fst) (p_Value f).fst != 0))
                                      (Tr.leaf false)
                                      (Tr.ast (c_Whole_s f mode)
                                        (Tr.ast (p_Value_s (c_Whole f mode).fst)
                                          (Tr.br (!(p_Value (c_Whole f mode).fst).snd) (Tr.leaf false)
                                            (Tr.ast (q_Sub_s (p_Value (c_Whole f mode).fst).fst (p_Value f).fst)
                                              (Tr.ast (q_Abs_s (q_Sub (p_Value (c_Whole f mode).fst).fst (p_Value f).fst))
                                                (Tr.ast
                                                  (q_Cmp_s
                                                    (q_Abs (q_Sub (p_Value (c_Whole f mode).fst).fst (p_Value f).fst))
                                                    (q_Int 1))
                                                  (Tr.br
                                                    (decide
                                                      (q_Cmp
                                                          (q_Abs
                                                            (q_Sub (p_Value (c_Whole f mode).fst).fst (p_Value f).fst))
                                                          (q_Int 1) ≥
                                                        0))
                                                    (Tr.leaf false)
                                                    (Tr.ast (q_Cmp_s (p_Value (c_Whole f mode).fst).fst (p_Value f).fst)
                                                      (Tr.br
                                                        (!((c_Whole f mode).snd == 1) ==
                                                            (q_Cmp (p_Value (c_Whole f mode).fst).fst (p_Value f).fst !=
                                                              0))
                                                        (Tr.leaf false)
                                                        (Tr.ast
                                                          (q_Cmp_s (p_Value (c_Whole f mode).fst).fst (p_Value f).fst)
                                                          (Tr.br l7_works
                                                            (Tr.br (mode != 1)
                                                              (Tr.br (mode != 2) (Tr.leaf true)
                                                                (Tr.leaf
                                                                  (decide
                                                                    (q_Cmp (p_Value (c_Whole f mode).fst).fst
                                                                        (p_Value f).fst ≤
                                                                      0))))
                                                              (Tr.br
                                                                (decide
                                                                  (q_Cmp (p_Value (c_Whole f mode).fst).fst
                                                                      (p_Value f).fst ≥
                                                                    0))
                                                                (Tr.br (mode != 2) (Tr.leaf true)
                                                                  (Tr.leaf
                                                                    (decide
                                                                      (q_Cmp (p_Value (c_Whole f mode).fst).fst
                                                                          (p_Value f).fst ≤
                                                                        0))))
                                                                (Tr.leaf false)))
                                                            (Tr.leaf false)))))))))))))))))))))))
                (Tr.ast (c_Whole_s f mode)
                  (Tr.ast (p_Value_s (c_Whole f mode).fst)
                    (Tr.br (!(p_Value (c_Whole f mode).fst).snd) (Tr.leaf false)
                      (Tr.ast (q_Sub_s (p_Value (c_Whole f mode).fst).fst (p_Value f).fst)
                        (Tr.ast (q_Abs_s (q_Sub (p_Value (c_Whole f mode).fst).fst (p_Value f).fst))
                          (Tr.ast (q_Cmp_s (q_Abs (q_Sub (p_Value (c_Whole f mode).fst).fst (p_Value f).fst)) (q_Int 1))
                            (Tr.br
                              (decide
                                (q_Cmp (q_Abs (q_Sub (p_Value (c_Whole f mode).fst).fst (p_Value f).fst)) (q_Int 1) ≥ 0))
                              (Tr.leaf false)
                              (Tr.ast (q_Cmp_s (p_Value (c_Whole f mode).fst).fst (p_Value f).fst)
                                (Tr.br
                                  (!((c_Whole f mode).snd == 1) ==
                                      (q_Cmp (p_Value (c_Whole f mode).fst).fst (p_Value f).fst != 0))
                                  (Tr.leaf false)
                                  (Tr.ast (q_Cmp_s (p_Value (c_Whole f mode).fst).fst (p_Value f).fst)
                                    (Tr.br l7_works
                                      (Tr.br (mode != 1)
                                        (Tr.br (mode != 2) (Tr.leaf true)
                                          (Tr.leaf
                                            (decide (q_Cmp (p_Value (c_Whole f mode).fst).fst (p_Value f).fst ≤ 0))))
                                        (Tr.br (decide (q_Cmp (p_Value (c_Whole f mode).fst).fst (p_Value f).fst ≥ 0))
                                          (Tr.br (mode != 2) (Tr.leaf true)
                                            (Tr.leaf
                                              (decide (q_Cmp (p_Value (c_Whole f mode).fst).fst (p_Value f).fst ≤ 0))))
                                          (Tr.leaf false)))
                                      (Tr.leaf false))))))))))))))))))
def l_ConvNear_t (f : Int) (mode : Int) : Tr (Bool) := l_ConvNear_T l7_works l7_works_s p_Value p_Value_s q_Int q_Int_s c_ToInt64 c_ToInt64_s q_Sub q_Sub_s q_Abs q_Abs_s q_Cmp q_Cmp_s c_Whole c_Whole_s f mode
def l_ConvNear (f : Int) (mode : Int) : Bool := (l_ConvNear_t f mode).val
def l_ConvNear_s (f : Int) (mode : Int) : Bool := (l_ConvNear_t f mode).safe
end Go.Fb
