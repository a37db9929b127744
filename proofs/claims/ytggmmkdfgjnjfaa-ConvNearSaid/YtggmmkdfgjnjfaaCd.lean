/- Layer 7: what the functions compute, as definitions. Conditions: none. -/
import Derived.Test.YtggmmkdfgjnjfaaUd
namespace Go.Fb
open Go.Ev
def c_FromInt_T (n_Round : Bool → U2 → Int → Bool → Int → Int × Int) (n_Round_s : Bool → U2 → Int → Bool → Int → Bool) (x : Int) (mode : Int) : Tr (Int × Int) :=
  Tr.br (decide (x < 0))
    (Tr.ast (n_Round_s (decide (x < 0)) (U2.mk 0 (IntKind.u64.wrap (0 - IntKind.u64.wrap x))) 0 false mode)
      (Tr.leaf (n_Round (decide (x < 0)) (U2.mk 0 (IntKind.u64.wrap (0 - IntKind.u64.wrap x))) 0 false mode)))
    (Tr.ast (n_Round_s (decide (x < 0)) (U2.mk 0 (IntKind.u64.wrap x)) 0 false mode)
      (Tr.leaf (n_Round (decide (x < 0)) (U2.mk 0 (IntKind.u64.wrap x)) 0 false mode)))
def c_FromInt_t (x : Int) (mode : Int) : Tr (Int × Int) := c_FromInt_T n_Round n_Round_s x mode
def c_FromInt (x : Int) (mode : Int) : Int × Int := (c_FromInt_t x mode).val
def c_FromInt_s (x : Int) (mode : Int) : Bool := (c_FromInt_t x mode).safe
def c_cut_T (p_Split : Int → Int × Int) (u2_Shl : U2 → Int → U2) (u2_Shl_s : U2 → Int → Bool) (u2_Shr : U2 → Int → U2 × Bool) (u2_Shr_s : U2 → Int → Bool) (f : Int) : Tr (U2 × Bool × Bool × Bool) :=
  Tr.br (decide ((p_Split f).snd > 64)) (Tr.leaf (U2.mk 0 (p_Split f).fst, false, false, false))
    (Tr.br (decide ((p_Split f).snd ≥ 0))
      (Tr.ast (u2_Shl_s (U2.mk 0 (p_Split f).fst) (p_Split f).snd)
        (Tr.leaf
          (u2_Shl (U2.mk 0 (p_Split f).fst) (p_Split f).snd, false, false,
            (u2_Shl (U2.mk 0 (p_Split f).fst) (p_Split f).snd).hi == 0)))
      (Tr.ast (u2_Shr_s (U2.mk 0 (p_Split f).fst) (IntKind.i64.wrap (IntKind.i64.wrap (0 - (p_Split f).snd) - 1)))
        (Tr.ast
          (u2_Shr_s (u2_Shr (U2.mk 0 (p_Split f).fst) (IntKind.i64.wrap (IntKind.i64.wrap (0 - (p_Split f).snd) - 1))).fst
            1)
          (Tr.leaf
            ((u2_Shr
                  (u2_Shr (U2.mk 0 (p_Split f).fst) (IntKind.i64.wrap (IntKind.i64.wrap (0 - (p_Split f).snd) - 1))).fst
                  1).fst,
              bitsI BinOp.and IntKind.u64
                  (u2_Shr (U2.mk 0 (p_Split f).fst)
                        (IntKind.i64.wrap (IntKind.i64.wrap (0 - (p_Split f).snd) - 1))).fst.lo
                  1 ==
                1,
              (u2_Shr (U2.mk 0 (p_Split f).fst) (IntKind.i64.wrap (IntKind.i64.wrap (0 - (p_Split f).snd) - 1))).snd,
              true)))))
def c_cut_t (f : Int) : Tr (U2 × Bool × Bool × Bool) := c_cut_T p_Split u2_Shl u2_Shl_s u2_Shr u2_Shr_s f
def c_cut (f : Int) : U2 × Bool × Bool × Bool := (c_cut_t f).val
def c_cut_s (f : Int) : Bool := (c_cut_t f).safe
def c_to_T (p_Class : Int → Int) (c_cut : Int → U2 × Bool × Bool × Bool) (c_cut_s : Int → Bool) (f : Int) (size : Int) : Tr (Int × Int) :=
  Tr.br (p_Class f == 3) (Tr.leaf (0, 16))
    (Tr.br (p_Class f == 4) (Tr.leaf (0, 16))
      (Tr.ast (c_cut_s f)
        (Tr.ast (decide (0 ≤ IntKind.i64.wrap (size - 1)))
          (Tr.br (!(c_cut f).snd.snd.snd) (Tr.leaf (0, 16))
            (Tr.br (decide ((c_cut f).fst.lo > shlI IntKind.u64 1 (IntKind.i64.wrap (size - 1)))) (Tr.leaf (0, 16))
              (Tr.br ((c_cut f).fst.lo == shlI IntKind.u64 1 (IntKind.i64.wrap (size - 1)))
                (Tr.br (!shrI IntKind.u64 f 63 == 1) (Tr.leaf (0, 16))
                  (Tr.br (c_cut f).snd.fst
                    (Tr.br (shrI IntKind.u64 f 63 == 1)
                      (Tr.leaf (IntKind.i64.wrap (IntKind.u64.wrap (0 - (c_cut f).fst.lo)), 1))
                      (Tr.leaf (IntKind.i64.wrap (c_cut f).fst.lo, 1)))
                    (Tr.br (c_cut f).snd.snd.fst
                      (Tr.br (shrI IntKind.u64 f 63 == 1)
                        (Tr.leaf (IntKind.i64.wrap (IntKind.u64.wrap (0 - (c_cut f).fst.lo)), 1))
                        (Tr.leaf (IntKind.i64.wrap (c_cut f).fst.lo, 1)))
                      (Tr.br (shrI IntKind.u64 f 63 == 1)
                        (Tr.leaf (IntKind.i64.wrap (IntKind.u64.wrap (0 - (c_cut f).fst.lo)), 0))
                        (Tr.leaf (IntKind.i64.wrap (c_cut f).fst.lo, 0))))))
                (Tr.br (c_cut f).snd.fst
                  (Tr.br (shrI IntKind.u64 f 63 == 1)
                    (Tr.leaf (IntKind.i64.wrap (IntKind.u64.wrap (0 - (c_cut f).fst.lo)), 1))
                    (Tr.leaf (IntKind.i64.wrap (c_cut f).fst.lo, 1)))
                  (Tr.br (c_cut f).snd.snd.fst
                    (Tr.br (shrI IntKind.u64 f 63 == 1)
                      (Tr.leaf (IntKind.i64.wrap (IntKind.u64.wrap (0 - (c_cut f).fst.lo)), 1))
                      (Tr.leaf (IntKind.i64.wrap (c_cut f).fst.lo, 1)))
                    (Tr.br (shrI IntKind.u64 f 63 == 1)
                      (Tr.leaf (IntKind.i64.wrap (IntKind.u64.wrap (0 - (c_cut f).fst.lo)), 0))
                      (Tr.leaf (IntKind.i64.wrap (c_cut f).fst.lo, 0)))))))))))
def c_to_t (f : Int) (size : Int) : Tr (Int × Int) := c_to_T p_Class c_cut c_cut_s f size
def c_to (f : Int) (size : Int) : Int × Int := (c_to_t f size).val
def c_to_s (f : Int) (size : Int) : Bool := (c_to_t f size).safe
def c_ToInt32_T (c_to : Int → Int → Int × Int) (c_to_s : Int → Int → Bool) (f : Int) : Tr (Int × Int) :=
  Tr.ast (c_to_s f 32) (Tr.leaf (IntKind.i32.wrap (c_to f 32).fst, (c_to f 32).snd))
def c_ToInt32_t (f : Int) : Tr (Int × Int) := c_ToInt32_T c_to c_to_s f
def c_ToInt32 (f : Int) : Int × Int := (c_ToInt32_t f).val
def c_ToInt32_s (f : Int) : Bool := (c_ToInt32_t f).safe
def c_ToInt64_T (c_to : Int → Int → Int × Int) (c_to_s : Int → Int → Bool) (f : Int) : Tr (Int × Int) :=
  Tr.ast (c_to_s f 64) (Tr.leaf (c_to f 64))
def c_ToInt64_t (f : Int) : Tr (Int × Int) := c_ToInt64_T c_to c_to_s f
def c_ToInt64 (f : Int) : Int × Int := (c_ToInt64_t f).val
def c_ToInt64_s (f : Int) : Bool := (c_ToInt64_t f).safe
def c_Whole_T (p_Class : Int → Int) (p_Quiet : Int) (p_Split : Int → Int × Int) (c_cut : Int → U2 × Bool × Bool × Bool) (c_cut_s : Int → Bool) (n_Round : Bool → U2 → Int → Bool → Int → Int × Int) (n_Round_s : Bool → U2 → Int → Bool → Int → Bool) (f : Int) (mode : Int) : Tr (Int × Int) :=
  let t0 : Bool × Bool × Bool := (c_cut f).snd;
  let t1 : U2 := (c_cut f).fst;
  let t2 : Int := t1.lo;
  let t3 : Bool := mode == 1;
  let t4 : Bool := mode == 2;
  let t5 : Bool := t0.fst;
  let t6 : Bool := t0.snd.fst;
  let t7 : Bool := shrI IntKind.u64 f 63 == 1;
  let t8 : Bool := !t7;
  let t9 : Bool := bitsI BinOp.and IntKind.u64 t2 1 == 1;
  let t10 : U2 := U2.mk t1.hi (IntKind.u64.wrap (t2 + 1));
  let t11 : Bool := n_Round_s t7 t1 0 false 0;
  let t12 : Int := (n_Round t7 t1 0 false 0).fst;
  let t13 : Bool := n_Round_s t7 t10 0 false 0;
  let t14 : Int := (n_Round t7 t10 0 false 0).fst;
  Tr.br (p_Class f == 4) (Tr.leaf (p_Quiet, 0))
    (Tr.br (p_Class f == 3) (Tr.leaf (f, 0))
      (Tr.br (decide ((p_Split f).snd ≥ 0)) (Tr.leaf (f, 0))
        (Tr.ast (c_cut_s f)
          (Tr.br t5
            (Tr.br t5
              (Tr.br t6
                (Tr.br t3 (Tr.br t8 (Tr.ast t13 (Tr.leaf (t14, 1))) (Tr.ast t11 (Tr.leaf (t12, 1))))
                  (Tr.br t4 (Tr.br t7 (Tr.ast t13 (Tr.leaf (t14, 1))) (Tr.ast t11 (Tr.leaf (t12, 1))))
                    (Tr.ast t13 (Tr.leaf (t14, 1)))))
                (Tr.br t3 (Tr.br t8 (Tr.ast t13 (Tr.leaf (t14, 1))) (Tr.ast t11 (Tr.leaf (t12, 1))))
                  (Tr.br t4 (Tr.br t7 (Tr.ast t13 (Tr.leaf (t14, 1))) (Tr.ast t11 (Tr.leaf (t12, 1))))
                    (Tr.br t9 (Tr.ast t13 (Tr.leaf (t14, 1))) (Tr.ast t11 (Tr.leaf (t12, 1)))))))
              (Tr.br t3 (Tr.br t8 (Tr.ast t13 (Tr.leaf (t14, 1))) (Tr.ast t11 (Tr.leaf (t12, 1))))
                (Tr.br t4 (Tr.br t7 (Tr.ast t13 (Tr.leaf (t14, 1))) (Tr.ast t11 (Tr.leaf (t12, 1))))
                  (Tr.ast t11 (Tr.leaf (t12, 1))))))
            (Tr.br t5
              (Tr.br t6
                (Tr.br t3
                  (Tr.br t6
                    (Tr.br t8 (Tr.ast t13 (Tr.br t6 (Tr.leaf (t14, 1)) (Tr.leaf (t14, 0))))
                      (Tr.ast t11 (Tr.br t6 (Tr.leaf (t12, 1)) (Tr.leaf (t12, 0)))))
                    (Tr.ast t11 (Tr.br t6 (Tr.leaf (t12, 1)) (Tr.leaf (t12, 0)))))
                  (Tr.br t4
                    (Tr.br t6
                      (Tr.br t7 (Tr.ast t13 (Tr.br t6 (Tr.leaf (t14, 1)) (Tr.leaf (t14, 0))))
                        (Tr.ast t11 (Tr.br t6 (Tr.leaf (t12, 1)) (Tr.leaf (t12, 0)))))
                      (Tr.ast t11 (Tr.br t6 (Tr.leaf (t12, 1)) (Tr.leaf (t12, 0)))))
                    (Tr.ast t13 (Tr.br t6 (Tr.leaf (t14, 1)) (Tr.leaf (t14, 0))))))
                (Tr.br t3
                  (Tr.br t6
                    (Tr.br t8 (Tr.ast t13 (Tr.br t6 (Tr.leaf (t14, 1)) (Tr.leaf (t14, 0))))
                      (Tr.ast t11 (Tr.br t6 (Tr.leaf (t12, 1)) (Tr.leaf (t12, 0)))))
                    (Tr.ast t11 (Tr.br t6 (Tr.leaf (t12, 1)) (Tr.leaf (t12, 0)))))
                  (Tr.br t4
                    (Tr.br t6
                      (Tr.br t7 (Tr.ast t13 (Tr.br t6 (Tr.leaf (t14, 1)) (Tr.leaf (t14, 0))))
                        (Tr.ast t11 (Tr.br t6 (Tr.leaf (t12, 1)) (Tr.leaf (t12, 0)))))
                      (Tr.ast t11 (Tr.br t6 (Tr.leaf (t12, 1)) (Tr.leaf (t12, 0)))))
                    (Tr.br t9 (Tr.ast t13 (Tr.br t6 (Tr.leaf (t14, 1)) (Tr.leaf (t14, 0))))
                      (Tr.ast t11 (Tr.br t6 (Tr.leaf (t12, 1)) (Tr.leaf (t12, 0))))))))
              (Tr.br t3
                (Tr.br t6
                  (Tr.br t8 (Tr.ast t13 (Tr.br t6 (Tr.leaf (t14, 1)) (Tr.leaf (t14, 0))))
                    (Tr.ast t11 (Tr.br t6 (Tr.leaf (t12, 1)) (Tr.leaf (t12, 0)))))
                  (Tr.ast t11 (Tr.br t6 (Tr.leaf (t12, 1)) (Tr.leaf (t12, 0)))))
                (Tr.br t4
                  (Tr.br t6
                    (Tr.br t7 (Tr.ast t13 (Tr.br t6 (Tr.leaf (t14, 1)) (Tr.leaf (t14, 0))))
                      (Tr.ast t11 (Tr.br t6 (Tr.leaf (t12, 1)) (Tr.leaf (t12, 0)))))
                    (Tr.ast t11 (Tr.br t6 (Tr.leaf (t12, 1)) (Tr.leaf (t12, 0)))))
                  (Tr.ast t11 (Tr.br t6 (Tr.leaf (t12, 1)) (Tr.leaf (t12, 0)))))))))))
def c_Whole_t (f : Int) (mode : Int) : Tr (Int × Int) := c_Whole_T p_Class p_Quiet p_Split c_cut c_cut_s n_Round n_Round_s f mode
def c_Whole (f : Int) (mode : Int) : Int × Int := (c_Whole_t f mode).val
def c_Whole_s (f : Int) (mode : Int) : Bool := (c_Whole_t f mode).safe
end Go.Fb
namespace Go.Fb
open Go.Ev
end Go.Fb
