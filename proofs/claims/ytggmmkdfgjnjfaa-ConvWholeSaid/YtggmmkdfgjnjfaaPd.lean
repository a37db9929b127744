/- Layer 4: what the functions compute, as definitions. Conditions: none. -/
import Derived.Test.YtggmmkdfgjnjfaaRd
namespace Go.Fb
open Go.Ev
def p_Make_T  (neg : Bool) (exp : Int) (frac : Int) : Tr (Int × Int) :=
  Tr.br (decide (exp < 0)) (Tr.leaf (0, 1))
    (Tr.br (decide (exp > 2047)) (Tr.leaf (0, 1))
      (Tr.br (decide (frac > 4503599627370495)) (Tr.leaf (0, 1))
        (Tr.br neg
          (Tr.leaf
            (bitsI BinOp.or IntKind.u64 (bitsI BinOp.or IntKind.u64 (shlI IntKind.u64 (IntKind.u64.wrap exp) 52) frac)
                9223372036854775808,
              0))
          (Tr.leaf (bitsI BinOp.or IntKind.u64 (shlI IntKind.u64 (IntKind.u64.wrap exp) 52) frac, 0)))))
def p_Make_t (neg : Bool) (exp : Int) (frac : Int) : Tr (Int × Int) := p_Make_T  neg exp frac
def p_Make (neg : Bool) (exp : Int) (frac : Int) : Int × Int := (p_Make_t neg exp frac).val
def p_Parts_T  (f : Int) : Tr (Bool × Int × Int) :=
  Tr.leaf
    (shrI IntKind.u64 f 63 == 1, IntKind.i64.wrap (bitsI BinOp.and IntKind.u64 (shrI IntKind.u64 f 52) 2047),
      bitsI BinOp.and IntKind.u64 f 4503599627370495)
def p_Parts_t (f : Int) : Tr (Bool × Int × Int) := p_Parts_T  f
def p_Parts (f : Int) : Bool × Int × Int := (p_Parts_t f).val
def p_Class_T (p_Parts : Int → Bool × Int × Int) (f : Int) : Tr (Int) :=
  Tr.br ((p_Parts f).snd.fst == 2047)
    (Tr.br ((p_Parts f).snd.snd == 0) (Tr.leaf 3)
      (Tr.br ((p_Parts f).snd.fst == 2047) (Tr.leaf 4)
        (Tr.br ((p_Parts f).snd.fst == 0)
          (Tr.br ((p_Parts f).snd.snd == 0) (Tr.leaf 0) (Tr.br ((p_Parts f).snd.fst == 0) (Tr.leaf 1) (Tr.leaf 2)))
          (Tr.br ((p_Parts f).snd.fst == 0) (Tr.leaf 1) (Tr.leaf 2)))))
    (Tr.br ((p_Parts f).snd.fst == 2047) (Tr.leaf 4)
      (Tr.br ((p_Parts f).snd.fst == 0)
        (Tr.br ((p_Parts f).snd.snd == 0) (Tr.leaf 0) (Tr.br ((p_Parts f).snd.fst == 0) (Tr.leaf 1) (Tr.leaf 2)))
        (Tr.br ((p_Parts f).snd.fst == 0) (Tr.leaf 1) (Tr.leaf 2))))
def p_Class_t (f : Int) : Tr (Int) := p_Class_T p_Parts f
def p_Class (f : Int) : Int := (p_Class_t f).val
def p_Split_T (p_Parts : Int → Bool × Int × Int) (p_Class : Int → Int) (f : Int) : Tr (Int × Int) :=
  Tr.br (p_Class f == 2)
    (Tr.leaf
      (bitsI BinOp.or IntKind.u64 4503599627370496 (p_Parts f).snd.snd, IntKind.i64.wrap ((p_Parts f).snd.fst - 1075)))
    (Tr.br (p_Class f == 1) (Tr.leaf ((p_Parts f).snd.snd, -1074)) (Tr.leaf (0, 0)))
def p_Split_t (f : Int) : Tr (Int × Int) := p_Split_T p_Parts p_Class f
def p_Split (f : Int) : Int × Int := (p_Split_t f).val
def p_nan_T (p_Class : Int → Int) (f : Int) : Tr (Bool) :=
  Tr.leaf (p_Class f == 4)
def p_nan_t (f : Int) : Tr (Bool) := p_nan_T p_Class f
def p_nan (f : Int) : Bool := (p_nan_t f).val
def p_Inf_T (p_Make : Bool → Int → Int → Int × Int) (neg : Bool) : Tr (Int) :=
  Tr.leaf (p_Make neg 2047 0).fst
def p_Inf_t (neg : Bool) : Tr (Int) := p_Inf_T p_Make neg
def p_Inf (neg : Bool) : Int := (p_Inf_t neg).val
def p_Neg_T (p_nan : Int → Bool) (f : Int) : Tr (Int) :=
  Tr.br (p_nan f) (Tr.leaf f) (Tr.leaf (bitsI BinOp.xor IntKind.u64 f 9223372036854775808))
def p_Neg_t (f : Int) : Tr (Int) := p_Neg_T p_nan f
def p_Neg (f : Int) : Int := (p_Neg_t f).val
def p_Quiet_T   : Tr (Int) :=
  Tr.leaf 9221120237041090560
def p_Quiet_t  : Tr (Int) := p_Quiet_T  
def p_Quiet  : Int := (p_Quiet_t ).val
def r4_Parts_T  (f : Int) : Tr (Bool × Int × Int) :=
  Tr.leaf
    (IntKind.u64.wrap (f.tdiv 9223372036854775808) == 1,
      IntKind.i64.wrap ((IntKind.u64.wrap (f.tdiv 4503599627370496)).tmod 2048), f.tmod 4503599627370496)
def r4_Parts_t (f : Int) : Tr (Bool × Int × Int) := r4_Parts_T  f
def r4_Parts (f : Int) : Bool × Int × Int := (r4_Parts_t f).val
def r4_Make_T  (neg : Bool) (exp : Int) (frac : Int) : Tr (Int) :=
  Tr.br neg
    (Tr.leaf
      (IntKind.u64.wrap
        (IntKind.u64.wrap (IntKind.u64.wrap (IntKind.u64.wrap exp * 4503599627370496) + frac) + 9223372036854775808)))
    (Tr.leaf (IntKind.u64.wrap (IntKind.u64.wrap (IntKind.u64.wrap exp * 4503599627370496) + frac)))
def r4_Make_t (neg : Bool) (exp : Int) (frac : Int) : Tr (Int) := r4_Make_T  neg exp frac
def r4_Make (neg : Bool) (exp : Int) (frac : Int) : Int := (r4_Make_t neg exp frac).val
def r4_Class_T (r4_Parts : Int → Bool × Int × Int) (f : Int) : Tr (Int) :=
  Tr.br ((r4_Parts f).snd.fst == 2047)
    (Tr.br ((r4_Parts f).snd.snd == 0) (Tr.leaf 3)
      (Tr.br ((r4_Parts f).snd.fst == 2047) (Tr.leaf 4)
        (Tr.br ((r4_Parts f).snd.fst == 0)
          (Tr.br ((r4_Parts f).snd.snd == 0) (Tr.leaf 0) (Tr.br ((r4_Parts f).snd.fst == 0) (Tr.leaf 1) (Tr.leaf 2)))
          (Tr.br ((r4_Parts f).snd.fst == 0) (Tr.leaf 1) (Tr.leaf 2)))))
    (Tr.br ((r4_Parts f).snd.fst == 2047) (Tr.leaf 4)
      (Tr.br ((r4_Parts f).snd.fst == 0)
        (Tr.br ((r4_Parts f).snd.snd == 0) (Tr.leaf 0) (Tr.br ((r4_Parts f).snd.fst == 0) (Tr.leaf 1) (Tr.leaf 2)))
        (Tr.br ((r4_Parts f).snd.fst == 0) (Tr.leaf 1) (Tr.leaf 2))))
def r4_Class_t (f : Int) : Tr (Int) := r4_Class_T r4_Parts f
def r4_Class (f : Int) : Int := (r4_Class_t f).val
def r4_Split_T (r4_Parts : Int → Bool × Int × Int) (r4_Class : Int → Int) (f : Int) : Tr (Int × Int) :=
  Tr.br (r4_Class f == 2)
    (Tr.leaf (IntKind.u64.wrap (4503599627370496 + (r4_Parts f).snd.snd), IntKind.i64.wrap ((r4_Parts f).snd.fst - 1075)))
    (Tr.br (r4_Class f == 1) (Tr.leaf ((r4_Parts f).snd.snd, -1074)) (Tr.leaf (0, 0)))
def r4_Split_t (f : Int) : Tr (Int × Int) := r4_Split_T r4_Parts r4_Class f
def r4_Split (f : Int) : Int × Int := (r4_Split_t f).val
def r4_Finite_T (r4_Class : Int → Int) (f : Int) : Tr (Bool) :=
  Tr.br (r4_Class f != 3) (Tr.leaf (r4_Class f != 4)) (Tr.leaf false)
def r4_Finite_t (f : Int) : Tr (Bool) := r4_Finite_T r4_Class f
def r4_Finite (f : Int) : Bool := (r4_Finite_t f).val
def r4_Of_T (r4_Make : Bool → Int → Int → Int) (k : Int) (neg : Bool) : Tr (Int) :=
  Tr.br (decide (k < 0))
    (Tr.leaf
      (r4_Make true (IntKind.i64.wrap ((IntKind.i64.wrap (0 - k)).tdiv 4503599627370496))
        (IntKind.u64.wrap ((IntKind.i64.wrap (0 - k)).tmod 4503599627370496))))
    (Tr.br (k == 0)
      (Tr.br neg
        (Tr.leaf
          (r4_Make true (IntKind.i64.wrap ((IntKind.i64.wrap (0 - k)).tdiv 4503599627370496))
            (IntKind.u64.wrap ((IntKind.i64.wrap (0 - k)).tmod 4503599627370496))))
        (Tr.leaf
          (r4_Make false (IntKind.i64.wrap (k.tdiv 4503599627370496)) (IntKind.u64.wrap (k.tmod 4503599627370496)))))
      (Tr.leaf (r4_Make false (IntKind.i64.wrap (k.tdiv 4503599627370496)) (IntKind.u64.wrap (k.tmod 4503599627370496)))))
def r4_Of_t (k : Int) (neg : Bool) : Tr (Int) := r4_Of_T r4_Make k neg
def r4_Of (k : Int) (neg : Bool) : Int := (r4_Of_t k neg).val
end Go.Fb
