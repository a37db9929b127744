/- Layer 4: what the functions compute, as definitions. Conditions: none. -/
import Derived.Test.YtggmmkdfgjnjfaaRd
namespace Go.Fb
open Go.Ev
def p_Make_T  (neg : Bool) (exp : Int) (frac : Int) : Tr (Int × Int) :=
  Tr.br (decide (exp < 0)) (Tr.leaf (0, 1))
    (Tr.br (decide (exp > 2047)) (Tr.leaf (0, 1))
      (Tr.br (decide (frac > 4503599627370495)) (Tr.leaf (0, 1))
        (Tr.br neg
          (Tr.leaf
            (bitsI BinOp.or IntKind.u64 (bitsI BinOp.or IntKind.u64 (shlI IntKind.u64 (IntKind.u64.wrap exp) 52) frac)
                9223372036854775808,
              0))
          (Tr.leaf (bitsI BinOp.or IntKind.u64 (shlI IntKind.u64 (IntKind.u64.wrap exp) 52) frac, 0)))))
def p_Make_t (neg : Bool) (exp : Int) (frac : Int) : Tr (Int × Int) := p_Make_T  neg exp frac
def p_Make (neg : Bool) (exp : Int) (frac : Int) : Int × Int := (p_Make_t neg exp frac).val
def p_Parts_T  (f : Int) : Tr (Bool × Int × Int) :=
  Tr.leaf
    (shrI IntKind.u64 f 63 == 1, IntKind.i64.wrap (bitsI BinOp.and IntKind.u64 (shrI IntKind.u64 f 52) 2047),
      bitsI BinOp.and IntKind.u64 f 4503599627370495)
def p_Parts_t (f : Int) : Tr (Bool × Int × Int) := p_Parts_T  f
def p_Parts (f : Int) : Bool × Int × Int := (p_Parts_t f).val
def p_Class_T (p_Parts : Int → Bool × Int × Int) (f : Int) : Tr (Int) :=
  Tr.br ((p_Parts f).snd.fst == 2047)
    (Tr.br ((p_Parts f).snd.snd == 0) (Tr.leaf 3)
      (Tr.br ((p_Parts f).snd.fst == 2047) (Tr.leaf 4)
        (Tr.br ((p_Parts f).snd.fst == 0)
          (Tr.br ((p_Parts f).snd.snd == 0) (Tr.leaf 0) (Tr.br ((p_Parts f).snd.fst == 0) (Tr.leaf 1) (Tr.leaf 2)))
          (Tr.br ((p_Parts f).snd.fst == 0) (Tr.leaf 1) (Tr.leaf 2)))))
    (Tr.br ((p_Parts f).snd.fst == 2047) (Tr.leaf 4)
      (Tr.br ((p_Parts f).snd.fst == 0)
        (Tr.br ((p_Parts f).snd.snd == 0) (Tr.leaf 0) (Tr.br ((p_Parts f).snd.fst == 0) (Tr.leaf 1) (Tr.leaf 2)))
        (Tr.br ((p_Parts f).snd.fst == 0) (Tr.leaf 1) (Tr.leaf 2))))
def p_Class_t (f : Int) : Tr (Int) := p_Class_T p_Parts f
def p_Class (f : Int) : Int := (p_Class_t f).val
def p_Split_T (p_Parts : Int → Bool × Int × Int) (p_Class : Int → Int) (f : Int) : Tr (Int × Int) :=
  Tr.br (p_Class f == 2)
    (Tr.leaf
      (bitsI BinOp.or IntKind.u64 4503599627370496 (p_Parts f).snd.snd, IntKind.i64.wrap ((p_Parts f).snd.fst - 1075)))
    (Tr.br (p_Class f == 1) (Tr.leaf ((p_Parts f).snd.snd, -1074)) (Tr.leaf (0, 0)))
def p_Split_t (f : Int) : Tr (Int × Int) := p_Split_T p_Parts p_Class f
def p_Split (f : Int) : Int × Int := (p_Split_t f).val
def p_Value_T (p_Class : Int → Int) (p_Split : Int → Int × Int) (q_Dyad : Bool → Int → Int → RR × Int) (q_Dyad_s : Bool → Int → Int → Bool) (f : Int) : Tr (RR × Bool) :=
  Tr.br (p_Class f == 3) (Tr.leaf (RR.mk false [] [], false))
    (Tr.br (p_Class f == 4) (Tr.leaf (RR.mk false [] [], false))
      (Tr.ast (q_Dyad_s (shrI IntKind.u64 f 63 == 1) (p_Split f).fst (p_Split f).snd)
        (Tr.leaf ((q_Dyad (shrI IntKind.u64 f 63 == 1) (p_Split f).fst (p_Split f).snd).fst, true))))
def p_Value_t (f : Int) : Tr (RR × Bool) := p_Value_T p_Class p_Split q_Dyad q_Dyad_s f
def p_Value (f : Int) : RR × Bool := (p_Value_t f).val
def p_Value_s (f : Int) : Bool := (p_Value_t f).safe
def p_key_T  (f : Int) : Tr (Int) :=
  Tr.br (shrI IntKind.u64 f 63 == 1)
    (Tr.leaf (IntKind.i64.wrap (0 - IntKind.i64.wrap (bitsI BinOp.andNot IntKind.u64 f 9223372036854775808))))
    (Tr.leaf (IntKind.i64.wrap (bitsI BinOp.andNot IntKind.u64 f 9223372036854775808)))
def p_key_t (f : Int) : Tr (Int) := p_key_T  f
def p_key (f : Int) : Int := (p_key_t f).val
def p_nan_T (p_Class : Int → Int) (f : Int) : Tr (Bool) :=
  Tr.leaf (p_Class f == 4)
def p_nan_t (f : Int) : Tr (Bool) := p_nan_T p_Class f
def p_nan (f : Int) : Bool := (p_nan_t f).val
def p_Inf_T (p_Make : Bool → Int → Int → Int × Int) (neg : Bool) : Tr (Int) :=
  Tr.leaf (p_Make neg 2047 0).fst
def p_Inf_t (neg : Bool) : Tr (Int) := p_Inf_T p_Make neg
def p_Inf (neg : Bool) : Int := (p_Inf_t neg).val
def p_Next_T (p_nan : Int → Bool) (p_Inf : Bool → Int) (p_key : Int → Int) (f : Int) : Tr (Int) :=
  Tr.br (p_nan f) (Tr.leaf f)
    (Tr.br (f == p_Inf false) (Tr.leaf f)
      (Tr.br (p_key f == 0) (Tr.leaf 1)
        (Tr.br (shrI IntKind.u64 f 63 == 1) (Tr.leaf (IntKind.u64.wrap (f - 1))) (Tr.leaf (IntKind.u64.wrap (f + 1))))))
def p_Next_t (f : Int) : Tr (Int) := p_Next_T p_nan p_Inf p_key f
def p_Next (f : Int) : Int := (p_Next_t f).val
def p_Quiet_T   : Tr (Int) :=
  Tr.leaf 9221120237041090560
def p_Quiet_t  : Tr (Int) := p_Quiet_T  
def p_Quiet  : Int := (p_Quiet_t ).val
end Go.Fb
