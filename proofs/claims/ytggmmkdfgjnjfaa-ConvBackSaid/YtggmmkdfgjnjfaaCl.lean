/- Layer 7: what the laws compute, as definitions. Conditions: none. -/
import Derived.Test.YtggmmkdfgjnjfaaCd
namespace Go.Fb
open Go.Ev
def l7_works_T (c_FromInt : Int → Int → Int × Int) (c_FromInt_s : Int → Int → Bool) (c_ToInt32 : Int → Int × Int) (c_ToInt32_s : Int → Bool) (c_ToInt64 : Int → Int × Int) (c_ToInt64_s : Int → Bool) (c_Whole : Int → Int → Int × Int) (c_Whole_s : Int → Int → Bool)  : Tr (Bool) :=
  Tr.ast (c_FromInt_s 9007199254740993 0)
    (Tr.ast (c_FromInt_s 9007199254740993 1)
      (Tr.ast (c_ToInt32_s 13833932155375321088)
        (Tr.ast (c_ToInt32_s 4746794007248502784)
          (Tr.ast (c_ToInt64_s 4746794007248502784)
            (Tr.ast (c_Whole_s 4612811918334230528 0)
              (Tr.ast (c_Whole_s 13826050856027422720 1)
                (Tr.br ((c_FromInt 9007199254740993 0).fst == 4845873199050653696)
                  (Tr.br ((c_FromInt 9007199254740993 0).snd == 1)
                    (Tr.br ((c_FromInt 9007199254740993 1).fst == 4845873199050653697)
                      (Tr.br ((c_ToInt32 13833932155375321088).fst == -1)
                        (Tr.br ((c_ToInt32 13833932155375321088).snd == 1)
                          (Tr.br ((c_ToInt32 4746794007248502784).fst == 0)
                            (Tr.br ((c_ToInt32 4746794007248502784).snd == 16)
                              (Tr.br ((c_ToInt64 4746794007248502784).fst == 2147483648)
                                (Tr.br ((c_ToInt64 4746794007248502784).snd == 0)
                                  (Tr.br ((c_Whole 4612811918334230528 0).fst == 4611686018427387904)
                                    (Tr.br ((c_Whole 4612811918334230528 0).snd == 1)
                                      (Tr.leaf ((c_Whole 13826050856027422720 1).fst == 9223372036854775808))
                                      (Tr.leaf false))
                                    (Tr.leaf false))
                                  (Tr.leaf false))
                                (Tr.leaf false))
                              (Tr.leaf false))
                            (Tr.leaf false))
                          (Tr.leaf false))
                        (Tr.leaf false))
                      (Tr.leaf false))
                    (Tr.leaf false))
                  (Tr.leaf false))))))))
def l7_works_t  : Tr (Bool) := l7_works_T c_FromInt c_FromInt_s c_ToInt32 c_ToInt32_s c_ToInt64 c_ToInt64_s c_Whole c_Whole_s 
def l7_works  : Bool := (l7_works_t ).val
def l7_works_s  : Bool := (l7_works_t ).safe
def l_ConvFrom_T (l7_works : Bool) (l7_works_s : Bool) (c_FromInt : Int → Int → Int × Int) (c_FromInt_s : Int → Int → Bool) (r7_FromInt : Int → Int → Int × Int) (r7_FromInt_s : Int → Int → Bool) (x : Int) (mode : Int) : Tr (Bool) :=
  Tr.ast l7_works_s
    (Tr.br (!l7_works) (Tr.leaf false)
      (Tr.ast (c_FromInt_s x mode)
        (Tr.ast (r7_FromInt_s x mode)
          (Tr.br l7_works
            (Tr.br ((c_FromInt x mode).fst == (r7_FromInt x mode).fst)
              (Tr.leaf ((c_FromInt x mode).snd == (r7_FromInt x mode).snd)) (Tr.leaf false))
            (Tr.leaf false)))))
def l_ConvFrom_t (x : Int) (mode : Int) : Tr (Bool) := l_ConvFrom_T l7_works l7_works_s c_FromInt c_FromInt_s r7_FromInt r7_FromInt_s x mode
def l_ConvFrom (x : Int) (mode : Int) : Bool := (l_ConvFrom_t x mode).val
def l_ConvFrom_s (x : Int) (mode : Int) : Bool := (l_ConvFrom_t x mode).safe
def l_ConvTo_T (l7_works : Bool) (l7_works_s : Bool) (c_ToInt32 : Int → Int × Int) (c_ToInt32_s : Int → Bool) (r7_To : Int → Int → Int × Int) (r7_To_s : Int → Int → Bool) (c_ToInt64 : Int → Int × Int) (c_ToInt64_s : Int → Bool) (f : Int) : Tr (Bool) :=
  Tr.ast l7_works_s
    (Tr.br (!l7_works) (Tr.leaf false)
      (Tr.ast (c_ToInt32_s f)
        (Tr.ast (r7_To_s f 32)
          (Tr.ast (c_ToInt64_s f)
            (Tr.ast (r7_To_s f 64)
              (Tr.br l7_works
                (Tr.br (IntKind.i64.wrap (c_ToInt32 f).fst == (r7_To f 32).fst)
                  (Tr.br ((c_ToInt32 f).snd == (r7_To f 32).snd)
                    (Tr.br ((c_ToInt64 f).fst == (r7_To f 64).fst) (Tr.leaf ((c_ToInt64 f).snd == (r7_To f 64).snd))
                      (Tr.leaf false))
                    (Tr.leaf false))
                  (Tr.leaf false))
                (Tr.leaf false)))))))
def l_ConvTo_t (f : Int) : Tr (Bool) := l_ConvTo_T l7_works l7_works_s c_ToInt32 c_ToInt32_s r7_To r7_To_s c_ToInt64 c_ToInt64_s f
def l_ConvTo (f : Int) : Bool := (l_ConvTo_t f).val
def l_ConvTo_s (f : Int) : Bool := (l_ConvTo_t f).safe
def l_ConvWhole_T (l7_works : Bool) (l7_works_s : Bool) (c_Whole : Int → Int → Int × Int) (c_Whole_s : Int → Int → Bool) (r7_Whole : Int → Int → Int × Int) (r7_Whole_s : Int → Int → Bool) (f : Int) (mode : Int) : Tr (Bool) :=
  Tr.ast l7_works_s
    (Tr.br (!l7_works) (Tr.leaf false)
      (Tr.ast (c_Whole_s f mode)
        (Tr.ast (r7_Whole_s f mode)
          (Tr.br l7_works
            (Tr.br ((c_Whole f mode).fst == (r7_Whole f mode).fst)
              (Tr.leaf ((c_Whole f mode).snd == (r7_Whole f mode).snd)) (Tr.leaf false))
            (Tr.leaf false)))))
def l_ConvWhole_t (f : Int) (mode : Int) : Tr (Bool) := l_ConvWhole_T l7_works l7_works_s c_Whole c_Whole_s r7_Whole r7_Whole_s f mode
def l_ConvWhole (f : Int) (mode : Int) : Bool := (l_ConvWhole_t f mode).val
def l_ConvWhole_s (f : Int) (mode : Int) : Bool := (l_ConvWhole_t f mode).safe
def l_ConvBack_T (l7_works : Bool) (l7_works_s : Bool) (c_FromInt : Int → Int → Int × Int) (c_FromInt_s : Int → Int → Bool) (c_ToInt32 : Int → Int × Int) (c_ToInt32_s : Int → Bool) (c_ToInt64 : Int → Int × Int) (c_ToInt64_s : Int → Bool) (c_Whole : Int → Int → Int × Int) (c_Whole_s : Int → Int → Bool) (x : Int) (mode : Int) : Tr (Bool) :=
  Tr.ast l7_works_s
    (Tr.br (!l7_works) (Tr.leaf false)
      (Tr.ast (c_FromInt_s (IntKind.i64.wrap x) mode)
        (Tr.ast (c_ToInt32_s (c_FromInt (IntKind.i64.wrap x) mode).fst)
          (Tr.ast (c_ToInt64_s (c_FromInt (IntKind.i64.wrap x) mode).fst)
            (Tr.ast (c_Whole_s (c_FromInt (IntKind.i64.wrap x) mode).fst mode)
              (Tr.br l7_works
                (Tr.br ((c_FromInt (IntKind.i64.wrap x) mode).snd == 0)
                  (Tr.br ((c_ToInt32 (c_FromInt (IntKind.i64.wrap x) mode).fst).fst == x)
                    (Tr.br ((c_ToInt32 (c_FromInt (IntKind.i64.wrap x) mode).fst).snd == 0)
                      (Tr.br ((c_ToInt64 (c_FromInt (IntKind.i64.wrap x) mode).fst).fst == IntKind.i64.wrap x)
                        (Tr.br ((c_ToInt64 (c_FromInt (IntKind.i64.wrap x) mode).fst).snd == 0)
                          (Tr.br
                            ((c_Whole (c_FromInt (IntKind.i64.wrap x) mode).fst mode).fst ==
                              (c_FromInt (IntKind.i64.wrap x) mode).fst)
                            (Tr.leaf ((c_Whole (c_FromInt (IntKind.i64.wrap x) mode).fst mode).snd == 0)) (Tr.leaf false))
                          (Tr.leaf false))
                        (Tr.leaf false))
                      (Tr.leaf false))
                    (Tr.leaf false))
                  (Tr.leaf false))
                (Tr.leaf false)))))))
def l_ConvBack_t (x : Int) (mode : Int) : Tr (Bool) := l_ConvBack_T l7_works l7_works_s c_FromInt c_FromInt_s c_ToInt32 c_ToInt32_s c_ToInt64 c_ToInt64_s c_Whole c_Whole_s x mode
def l_ConvBack (x : Int) (mode : Int) : Bool := (l_ConvBack_t x mode).val
def l_ConvBack_s (x : Int) (mode : Int) : Bool := (l_ConvBack_t x mode).safe
end Go.Fb
