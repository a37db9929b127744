/- Layer 7: what the functions compute, as definitions. Conditions: none. -/
import Derived.Test.YtggmmkdfgjnjfaaUd
namespace Go.Fb
open Go.Ev
def c_FromInt_T (n_Round : Bool → U2 → Int → Bool → Int → Int × Int) (n_Round_s : Bool → U2 → Int → Bool → Int → Bool) (x : Int) (mode : Int) : Tr (Int × Int) :=
  Tr.br (decide (x < 0))
    (Tr.ast (n_Round_s (decide (x < 0)) (U2.mk 0 (IntKind.u64.wrap (0 - IntKind.u64.wrap x))) 0 false mode)
      (Tr.leaf (n_Round (decide (x < 0)) (U2.mk 0 (IntKind.u64.wrap (0 - IntKind.u64.wrap x))) 0 false mode)))
    (Tr.ast (n_Round_s (decide (x < 0)) (U2.mk 0 (IntKind.u64.wrap x)) 0 false mode)
      (Tr.leaf (n_Round (decide (x < 0)) (U2.mk 0 (IntKind.u64.wrap x)) 0 false mode)))
def c_FromInt_t (x : Int) (mode : Int) : Tr (Int × Int) := c_FromInt_T n_Round n_Round_s x mode
def c_FromInt (x : Int) (mode : Int) : Int × Int := (c_FromInt_t x mode).val
def c_FromInt_s (x : Int) (mode : Int) : Bool := (c_FromInt_t x mode).safe
def c_cut_T (p_Split : Int → Int × Int) (u2_Shl : U2 → Int → U2) (u2_Shl_s : U2 → Int → Bool) (u2_Shr : U2 → Int → U2 × Bool) (u2_Shr_s : U2 → Int → Bool) (f : Int) : Tr (U2 × Bool × Bool × Bool) :=
  Tr.br (decide ((p_Split f).snd > 64)) (Tr.leaf (U2.mk 0 (p_Split f).fst, false, false, false))
    (Tr.br (decide ((p_Split f).snd ≥ 0))
      (Tr.ast (u2_Shl_s (U2.mk 0 (p_Split f).fst) (p_Split f).snd)
        (Tr.leaf
          (u2_Shl (U2.mk 0 (p_Split f).fst) (p_Split f).snd, false, false,
            (u2_Shl (U2.mk 0 (p_Split f).fst) (p_Split f).snd).hi == 0)))
      (Tr.ast (u2_Shr_s (U2.mk 0 (p_Split f).fst) (IntKind.i64.wrap (IntKind.i64.wrap (0 - (p_Split f).snd) - 1)))
        (Tr.ast
          (u2_Shr_s (u2_Shr (U2.mk 0 (p_Split f).fst) (IntKind.i64.wrap (IntKind.i64.wrap (0 - (p_Split f).snd) - 1))).fst
            1)
          (Tr.leaf
            ((u2_Shr
                  (u2_Shr (U2.mk 0 (p_Split f).fst) (IntKind.i64.wrap (IntKind.i64.wrap (0 - (p_Split f).snd) - 1))).fst
                  1).fst,
              bitsI BinOp.and IntKind.u64
                  (u2_Shr (U2.mk 0 (p_Split f).fst)
                        (IntKind.i64.wrap (IntKind.i64.wrap (0 - (p_Split f).snd) - 1))).fst.lo
                  1 ==
                1,
              (u2_Shr (U2.mk 0 (p_Split f).fst) (IntKind.i64.wrap (IntKind.i64.wrap (0 - (p_Split f).snd) - 1))).snd,
              true)))))
def c_cut_t (f : Int) : Tr (U2 × Bool × Bool × Bool) := c_cut_T p_Split u2_Shl u2_Shl_s u2_Shr u2_Shr_s f
def c_cut (f : Int) : U2 × Bool × Bool × Bool := (c_cut_t f).val
def c_cut_s (f : Int) : Bool := (c_cut_t f).safe
def c_to_T (p_Class : Int → Int) (c_cut : Int → U2 × Bool × Bool × Bool) (c_cut_s : Int → Bool) (f : Int) (size : Int) : Tr (Int × Int) :=
  Tr.br (p_Class f == 3) (Tr.leaf (0, 16))
    (Tr.br (p_Class f == 4) (Tr.leaf (0, 16))
      (Tr.ast (c_cut_s f)
        (Tr.ast (decide (0 ≤ IntKind.i64.wrap (size - 1)))
          (Tr.br (!(c_cut f).snd.snd.snd) (Tr.leaf (0, 16))
            (Tr.br (decide ((c_cut f).fst.lo > shlI IntKind.u64 1 (IntKind.i64.wrap (size - 1)))) (Tr.leaf (0, 16))
              (Tr.br ((c_cut f).fst.lo == shlI IntKind.u64 1 (IntKind.i64.wrap (size - 1)))
                (Tr.br (!shrI IntKind.u64 f 63 == 1) (Tr.leaf (0, 16))
                  (Tr.br (c_cut f).snd.fst
                    (Tr.br (shrI IntKind.u64 f 63 == 1)
                      (Tr.leaf (IntKind.i64.wrap (IntKind.u64.wrap (0 - (c_cut f).fst.lo)), 1))
                      (Tr.leaf (IntKind.i64.wrap (c_cut f).fst.lo, 1)))
                    (Tr.br (c_cut f).snd.snd.fst
                      (Tr.br (shrI IntKind.u64 f 63 == 1)
                        (Tr.leaf (IntKind.i64.wrap (IntKind.u64.wrap (0 - (c_cut f).fst.lo)), 1))
                        (Tr.leaf (IntKind.i64.wrap (c_cut f).fst.lo, 1)))
                      (Tr.br (shrI IntKind.u64 f 63 == 1)
                        (Tr.leaf (IntKind.i64.wrap (IntKind.u64.wrap (0 - (c_cut f).fst.lo)), 0))
                        (Tr.leaf (IntKind.i64.wrap (c_cut f).fst.lo, 0))))))
                (Tr.br (c_cut f).snd.fst
                  (Tr.br (shrI IntKind.u64 f 63 == 1)
                    (Tr.leaf (IntKind.i64.wrap (IntKind.u64.wrap (0 - (c_cut f).fst.lo)), 1))
                    (Tr.leaf (IntKind.i64.wrap (c_cut f).fst.lo, 1)))
                  (Tr.br (c_cut f).snd.snd.fst
                    (Tr.br (shrI IntKind.u64 f 63 == 1)
                      (Tr.leaf (IntKind.i64.wrap (IntKind.u64.wrap (0 - (c_cut f).fst.lo)), 1))
                      (Tr.leaf (IntKind.i64.wrap (c_cut f).fst.lo, 1)))
                    (Tr.br (shrI IntKind.u64 f 63 == 1)
                      (Tr.leaf (IntKind.i64.wrap (IntKind.u64.wrap (0 - (c_cut f).fst.lo)), 0))
                      (Tr.leaf (IntKind.i64.wrap (c_cut f).fst.lo, 0)))))))))))
def c_to_t (f : Int) (size : Int) : Tr (Int × Int) := c_to_T p_Class c_cut c_cut_s f size
def c_to (f : Int) (size : Int) : Int × Int := (c_to_t f size).val
def c_to_s (f : Int) (size : Int) : Bool := (c_to_t f size).safe
def c_ToInt32_T (c_to : Int → Int → Int × Int) (c_to_s : Int → Int → Bool) (f : Int) : Tr (Int × Int) :=
  Tr.ast (c_to_s f 32) (Tr.leaf (IntKind.i32.wrap (c_to f 32).fst, (c_to f 32).snd))
def c_ToInt32_t (f : Int) : Tr (Int × Int) := c_ToInt32_T c_to c_to_s f
def c_ToInt32 (f : Int) : Int × Int := (c_ToInt32_t f).val
def c_ToInt32_s (f : Int) : Bool := (c_ToInt32_t f).safe
def c_ToInt64_T (c_to : Int → Int → Int × Int) (c_to_s : Int → Int → Bool) (f : Int) : Tr (Int × Int) :=
  Tr.ast (c_to_s f 64) (Tr.leaf (c_to f 64))
def c_ToInt64_t (f : Int) : Tr (Int × Int) := c_ToInt64_T c_to c_to_s f
def c_ToInt64 (f : Int) : Int × Int := (c_ToInt64_t f).val
def c_ToInt64_s (f : Int) : Bool := (c_ToInt64_t f).safe
def c_Whole_T (p_Class : Int → Int) (p_Quiet : Int) (p_Split : Int → Int × Int) (c_cut : Int → U2 × Bool × Bool × Bool) (c_cut_s : Int → Bool) (n_Round : Bool → U2 → Int → Bool → Int → Int × Int) (n_Round_s : Bool → U2 → Int → Bool → Int → Bool) (f : Int) (mode : Int) : Tr (Int × Int) :=
  let t0 : Bool × Bool × Bool := (c_cut f).snd;
  let t1 : U2 := (c_cut f).fst;
  let t2 : Int := t1.lo;
  let t3 : Bool := mode == 1;
  let t4 : Bool := mode == 2;
  let t5 : Bool := t0.fst;
  let t6 : Bool := t0.snd.fst;
  let t7 : Bool := shrI IntKind.u64 f 63 == 1;
  let t8 : Bool := !t7;
  let t9 : Bool := bitsI BinOp.and IntKind.u64 t2 1 == 1;
  let t10 : U2 := U2.mk t1.hi (IntKind.u64.wrap (t2 + 1));
  let t11 : Bool := n_Round_s t7 t1 0 false 0;
  let t12 : Int := (n_Round t7 t1 0 false 0).fst;
  let t13 : Bool := n_Round_s t7 t10 0 false 0;
  let t14 : Int := (n_Round t7 t10 0 false 0).fst;
  Tr.br (p_Class f == 4) (Tr.leaf (p_Quiet, 0))
    (Tr.br (p_Class f == 3) (Tr.leaf (f, 0))
      (Tr.br (decide ((p_Split f).snd ≥ 0)) (Tr.leaf (f, 0))
        (Tr.ast (c_cut_s f)
          (Tr.br t5
            (Tr.br t5
              (Tr.br t6
                (Tr.br t3 (Tr.br t8 (Tr.ast t13 (Tr.leaf (t14, 1))) (Tr.ast t11 (Tr.leaf (t12, 1))))
                  (Tr.br t4 (Tr.br t7 (Tr.ast t13 (Tr.leaf (t14, 1))) (Tr.ast t11 (Tr.leaf (t12, 1))))
                    (Tr.ast t13 (Tr.leaf (t14, 1)))))
                (Tr.br t3 (Tr.br t8 (Tr.ast t13 (Tr.leaf (t14, 1))) (Tr.ast t11 (Tr.leaf (t12, 1))))
                  (Tr.br t4 (Tr.br t7 (Tr.ast t13 (Tr.leaf (t14, 1))) (Tr.ast t11 (Tr.leaf (t12, 1))))
                    (Tr.br t9 (Tr.ast t13 (Tr.leaf (t14, 1))) (Tr.ast t11 (Tr.leaf (t12, 1)))))))
              (Tr.br t3 (Tr.br t8 (Tr.ast t13 (Tr.leaf (t14, 1))) (Tr.ast t11 (Tr.leaf (t12, 1))))
                (Tr.br t4 (Tr.br t7 (Tr.ast t13 (Tr.leaf (t14, 1))) (Tr.ast t11 (Tr.leaf (t12, 1))))
                  (Tr.ast t11 (Tr.leaf (t12, 1))))))
            (Tr.br t5
              (Tr.br t6
                (Tr.br t3
                  (Tr.br t6
                    (Tr.br t8 (Tr.ast t13 (Tr.br t6 (Tr.leaf (t14, 1)) (Tr.leaf (t14, 0))))
                      (Tr.ast t11 (Tr.br t6 (Tr.leaf (t12, 1)) (Tr.leaf (t12, 0)))))
                    (Tr.ast t11 (Tr.br t6 (Tr.leaf (t12, 1)) (Tr.leaf (t12, 0)))))
                  (Tr.br t4
                    (Tr.br t6
                      (Tr.br t7 (Tr.ast t13 (Tr.br t6 (Tr.leaf (t14, 1)) (Tr.leaf (t14, 0))))
                        (Tr.ast t11 (Tr.br t6 (Tr.leaf (t12, 1)) (Tr.leaf (t12, 0)))))
                      (Tr.ast t11 (Tr.br t6 (Tr.leaf (t12, 1)) (Tr.leaf (t12, 0)))))
                    (Tr.ast t13 (Tr.br t6 (Tr.leaf (t14, 1)) (Tr.leaf (t14, 0))))))
                (Tr.br t3
                  (Tr.br t6
                    (Tr.br t8 (Tr.ast t13 (Tr.br t6 (Tr.leaf (t14, 1)) (Tr.leaf (t14, 0))))
                      (Tr.ast t11 (Tr.br t6 (Tr.leaf (t12, 1)) (Tr.leaf (t12, 0)))))
                    (Tr.ast t11 (Tr.br t6 (Tr.leaf (t12, 1)) (Tr.leaf (t12, 0)))))
                  (Tr.br t4
                    (Tr.br t6
                      (Tr.br t7 (Tr.ast t13 (Tr.br t6 (Tr.leaf (t14, 1)) (Tr.leaf (t14, 0))))
                        (Tr.ast t11 (Tr.br t6 (Tr.leaf (t12, 1)) (Tr.leaf (t12, 0)))))
                      (Tr.ast t11 (Tr.br t6 (Tr.leaf (t12, 1)) (Tr.leaf (t12, 0)))))
                    (Tr.br t9 (Tr.ast t13 (Tr.br t6 (Tr.leaf (t14, 1)) (Tr.leaf (t14, 0))))
                      (Tr.ast t11 (Tr.br t6 (Tr.leaf (t12, 1)) (Tr.leaf (t12, 0))))))))
              (Tr.br t3
                (Tr.br t6
                  (Tr.br t8 (Tr.ast t13 (Tr.br t6 (Tr.leaf (t14, 1)) (Tr.leaf (t14, 0))))
                    (Tr.ast t11 (Tr.br t6 (Tr.leaf (t12, 1)) (Tr.leaf (t12, 0)))))
                  (Tr.ast t11 (Tr.br t6 (Tr.leaf (t12, 1)) (Tr.leaf (t12, 0)))))
                (Tr.br t4
                  (Tr.br t6
                    (Tr.br t7 (Tr.ast t13 (Tr.br t6 (Tr.leaf (t14, 1)) (Tr.leaf (t14, 0))))
                      (Tr.ast t11 (Tr.br t6 (Tr.leaf (t12, 1)) (Tr.leaf (t12, 0)))))
                    (Tr.ast t11 (Tr.br t6 (Tr.leaf (t12, 1)) (Tr.leaf (t12, 0)))))
                  (Tr.ast t11 (Tr.br t6 (Tr.leaf (t12, 1)) (Tr.leaf (t12, 0)))))))))))
def c_Whole_t (f : Int) (mode : Int) : Tr (Int × Int) := c_Whole_T p_Class p_Quiet p_Split c_cut c_cut_s n_Round n_Round_s f mode
def c_Whole (f : Int) (mode : Int) : Int × Int := (c_Whole_t f mode).val
def c_Whole_s (f : Int) (mode : Int) : Bool := (c_Whole_t f mode).safe
def r7_FromInt_T (r1_Of1 : Int → (List Bool)) (r1_Of1_s : Int → Bool) (r5_Round : Bool → (List Bool) → Int → Bool → Int → Int × Int) (r5_Round_s : Bool → (List Bool) → Int → Bool → Int → Bool) (x : Int) (mode : Int) : Tr (Int × Int) :=
  Tr.br (decide (x < 0))
    (Tr.ast (r1_Of1_s (IntKind.u64.wrap (0 - IntKind.u64.wrap x)))
      (Tr.ast (r5_Round_s (decide (x < 0)) (r1_Of1 (IntKind.u64.wrap (0 - IntKind.u64.wrap x))) 0 false mode)
        (Tr.leaf (r5_Round (decide (x < 0)) (r1_Of1 (IntKind.u64.wrap (0 - IntKind.u64.wrap x))) 0 false mode))))
    (Tr.ast (r1_Of1_s (IntKind.u64.wrap x))
      (Tr.ast (r5_Round_s (decide (x < 0)) (r1_Of1 (IntKind.u64.wrap x)) 0 false mode)
        (Tr.leaf (r5_Round (decide (x < 0)) (r1_Of1 (IntKind.u64.wrap x)) 0 false mode))))
def r7_FromInt_t (x : Int) (mode : Int) : Tr (Int × Int) := r7_FromInt_T r1_Of1 r1_Of1_s r5_Round r5_Round_s x mode
def r7_FromInt (x : Int) (mode : Int) : Int × Int := (r7_FromInt_t x mode).val
def r7_FromInt_s (x : Int) (mode : Int) : Bool := (r7_FromInt_t x mode).safe
end Go.Fb
namespace Go.Fb
open Go.Ev
def r1_ShlO_L0_T  (_v0 : List Bool) (v1 : Int) (v6 : Int) (h0 : List Bool) : Tr ((Int × (List Bool)) ⊕ (Int × (List Bool))) :=
  Tr.br (decide (v6 < v1))
    (Tr.ast (decide ((h0.length + [false].length) * 1 ≤ 140737488355328))
      (Tr.leaf (Sum.inl (IntKind.i64.wrap (v6 + 1), h0 ++ [false]))))
    (Tr.leaf (Sum.inr (v6, h0)))
def r1_ShlO_L0_step (p : (List Bool) × Int) (x : Int × (List Bool)) : Tr ((Int × (List Bool)) ⊕ (Int × (List Bool))) := r1_ShlO_L0_T  p.1 p.2 x.1 x.2
def r1_ShlO_L0_r (p : (List Bool) × Int) (x : Int × (List Bool)) : Option (Int × (List Bool)) := runB (r1_ShlO_L0_step p) x
def r1_ShlO_L0_v (p : (List Bool) × Int) (x : Int × (List Bool)) : Int × (List Bool) := (r1_ShlO_L0_r p x).getD x
def r1_ShlO_L0_ok (p : (List Bool) × Int) (x : Int × (List Bool)) : Bool := (r1_ShlO_L0_r p x).isSome
def r1_ShlO_T (r1_ShlO_L0_ok : ((List Bool) × Int) → (Int × (List Bool)) → Bool) (r1_ShlO_L0_v : ((List Bool) × Int) → (Int × (List Bool)) → Int × (List Bool)) (a : List Bool) (n : Int) : Tr ((List Bool)) :=
  Tr.ast (r1_ShlO_L0_ok (a, n) (0, []))
    (Tr.ast (decide (((r1_ShlO_L0_v (a, n) (0, [])).snd.length + a.length) * 1 ≤ 140737488355328))
      (Tr.leaf ((r1_ShlO_L0_v (a, n) (0, [])).snd ++ a)))
def r1_ShlO_t (a : List Bool) (n : Int) : Tr ((List Bool)) := r1_ShlO_T r1_ShlO_L0_ok r1_ShlO_L0_v a n
def r1_ShlO (a : List Bool) (n : Int) : (List Bool) := (r1_ShlO_t a n).val
def r1_ShlO_s (a : List Bool) (n : Int) : Bool := (r1_ShlO_t a n).safe
def r4_ScaledO_T (r4_Split : Int → Int × Int) (r1_Of1 : Int → (List Bool)) (r1_Of1_s : Int → Bool) (r1_Len : (List Bool) → Int) (r1_Len_s : (List Bool) → Bool) (r1_ShlO : (List Bool) → Int → List Bool) (r1_ShlO_s : (List Bool) → Int → Bool) (f : Int) : Tr ((List Bool)) :=
  Tr.ast (r1_Of1_s (r4_Split f).fst)
    (Tr.ast (r1_Len_s (r1_Of1 (r4_Split f).fst))
      (Tr.ast
        (decide (0 ≤ (some (r1_Len (r1_Of1 (r4_Split f).fst))).getD ((r1_Of1 (r4_Split f).fst).length : Int)) &&
          decide
            ((some (r1_Len (r1_Of1 (r4_Split f).fst))).getD ((r1_Of1 (r4_Split f).fst).length : Int) ≤
              ((r1_Of1 (r4_Split f).fst).length : Int)))
        (Tr.br ((r4_Split f).fst == 0) (Tr.leaf [])
          (Tr.ast
            (r1_ShlO_s
              (List.take
                (((some (r1_Len (r1_Of1 (r4_Split f).fst))).getD ((r1_Of1 (r4_Split f).fst).length : Int)).toNat - Int.toNat 0)
                (List.drop (Int.toNat 0) (r1_Of1 (r4_Split f).fst)))
              (IntKind.i64.wrap ((r4_Split f).snd + 1074)))
            (Tr.leaf
              (r1_ShlO
                (List.take
                  (((some (r1_Len (r1_Of1 (r4_Split f).fst))).getD ((r1_Of1 (r4_Split f).fst).length : Int)).toNat - Int.toNat 0)
                  (List.drop (Int.toNat 0) (r1_Of1 (r4_Split f).fst)))
                (IntKind.i64.wrap ((r4_Split f).snd + 1074))))))))
def r4_ScaledO_t (f : Int) : Tr ((List Bool)) := r4_ScaledO_T r4_Split r1_Of1 r1_Of1_s r1_Len r1_Len_s r1_ShlO r1_ShlO_s f
def r4_ScaledO (f : Int) : (List Bool) := (r4_ScaledO_t f).val
def r4_ScaledO_s (f : Int) : Bool := (r4_ScaledO_t f).safe
def r7_parts_L0_T  (h0 : List Bool) : Tr (((List Bool)) ⊕ ((List Bool))) :=
  Tr.br (decide ((h0.length : Int) < 1074))
    (Tr.ast (decide ((h0.length + [false].length) * 1 ≤ 140737488355328)) (Tr.leaf (Sum.inl (h0 ++ [false]))))
    (Tr.leaf (Sum.inr h0))
def r7_parts_L0_step (_p : Unit) (x : (List Bool)) : Tr (((List Bool)) ⊕ ((List Bool))) := r7_parts_L0_T  x
def r7_parts_L0_r (p : Unit) (x : (List Bool)) : Option ((List Bool)) := runB (r7_parts_L0_step p) x
def r7_parts_L0_v (p : Unit) (x : (List Bool)) : (List Bool) := (r7_parts_L0_r p x).getD x
def r7_parts_L0_ok (p : Unit) (x : (List Bool)) : Bool := (r7_parts_L0_r p x).isSome
def r7_parts_T (r4_ScaledO : Int → List Bool) (r4_ScaledO_s : Int → Bool) (r1_Shl : (List Bool) → Int → (List Bool)) (r1_Shl_s : (List Bool) → Int → Bool) (r1_Len : (List Bool) → Int) (r1_Len_s : (List Bool) → Bool) (r1_Cmp : (List Bool) → (List Bool) → Int) (r1_Cmp_s : (List Bool) → (List Bool) → Bool) (r7_parts_L0_ok : Unit → ((List Bool)) → Bool) (r7_parts_L0_v : Unit → ((List Bool)) → (List Bool)) (f : Int) : Tr ((List Bool) × Bool × Int) :=
  Tr.ast (r4_ScaledO_s f)
    (Tr.ast (r7_parts_L0_ok () (r4_ScaledO f))
      (Tr.ast (r1_Shl_s [true] 1073)
        (Tr.ast
          (decide (1074 ≤ none.getD ((r7_parts_L0_v () (r4_ScaledO f)).length : Int)) &&
            decide (none.getD ((r7_parts_L0_v () (r4_ScaledO f)).length : Int) ≤ ((r7_parts_L0_v () (r4_ScaledO f)).length : Int)))
          (Tr.ast
            (decide
              ((some 1074).getD ((r7_parts_L0_v () (r4_ScaledO f)).length : Int) ≤ ((r7_parts_L0_v () (r4_ScaledO f)).length : Int)))
            (Tr.ast
              (r1_Len_s
                (List.take (((some 1074).getD ((r7_parts_L0_v () (r4_ScaledO f)).length : Int)).toNat - Int.toNat 0)
                  (List.drop (Int.toNat 0) (r7_parts_L0_v () (r4_ScaledO f)))))
              (Tr.ast
                (decide
                  ((some 1074).getD ((r7_parts_L0_v () (r4_ScaledO f)).length : Int) ≤
                    ((r7_parts_L0_v () (r4_ScaledO f)).length : Int)))
                (Tr.ast
                  (r1_Cmp_s
                    (List.take (((some 1074).getD ((r7_parts_L0_v () (r4_ScaledO f)).length : Int)).toNat - Int.toNat 0)
                      (List.drop (Int.toNat 0) (r7_parts_L0_v () (r4_ScaledO f))))
                    (r1_Shl [true] 1073))
                  (Tr.leaf
                    (List.take ((none.getD ((r7_parts_L0_v () (r4_ScaledO f)).length : Int)).toNat - Int.toNat 1074)
                        (List.drop (Int.toNat 1074) (r7_parts_L0_v () (r4_ScaledO f))),
                      decide
                        (r1_Len
                            (List.take (((some 1074).getD ((r7_parts_L0_v () (r4_ScaledO f)).length : Int)).toNat - Int.toNat 0)
                              (List.drop (Int.toNat 0) (r7_parts_L0_v () (r4_ScaledO f)))) >
                          0),
                      r1_Cmp
                        (List.take (((some 1074).getD ((r7_parts_L0_v () (r4_ScaledO f)).length : Int)).toNat - Int.toNat 0)
                          (List.drop (Int.toNat 0) (r7_parts_L0_v () (r4_ScaledO f))))
                        (r1_Shl [true] 1073))))))))))
def r7_parts_t (f : Int) : Tr ((List Bool) × Bool × Int) := r7_parts_T r4_ScaledO r4_ScaledO_s r1_Shl r1_Shl_s r1_Len r1_Len_s r1_Cmp r1_Cmp_s r7_parts_L0_ok r7_parts_L0_v f
def r7_parts (f : Int) : (List Bool) × Bool × Int := (r7_parts_t f).val
def r7_parts_s (f : Int) : Bool := (r7_parts_t f).safe
def r7_To_T (r4_Finite : Int → Bool) (r7_parts : Int → (List Bool) × Bool × Int) (r7_parts_s : Int → Bool) (r1_Shl : (List Bool) → Int → (List Bool)) (r1_Shl_s : (List Bool) → Int → Bool) (r1_Cmp : (List Bool) → (List Bool) → Int) (r1_Cmp_s : (List Bool) → (List Bool) → Bool) (r1_Words : (List Bool) → Int → (List Int)) (r1_Words_s : (List Bool) → Int → Bool) (f : Int) (n : Int) : Tr (Int × Int) :=
  Tr.br (!r4_Finite f) (Tr.leaf (0, 16))
    (Tr.ast (r7_parts_s f)
      (Tr.ast (r1_Shl_s [true] (IntKind.i64.wrap (n - 1)))
        (Tr.ast (r1_Cmp_s (r7_parts f).fst (r1_Shl [true] (IntKind.i64.wrap (n - 1))))
          (Tr.br (decide (r1_Cmp (r7_parts f).fst (r1_Shl [true] (IntKind.i64.wrap (n - 1))) > 0)) (Tr.leaf (0, 16))
            (Tr.br (r1_Cmp (r7_parts f).fst (r1_Shl [true] (IntKind.i64.wrap (n - 1))) == 0)
              (Tr.br (!shrI IntKind.u64 f 63 == 1) (Tr.leaf (0, 16))
                (Tr.ast (r1_Words_s (r7_parts f).fst 1)
                  (Tr.ast (decide (0 < ((r1_Words (r7_parts f).fst 1).length : Int)))
                    (Tr.br (shrI IntKind.u64 f 63 == 1)
                      (Tr.br (r7_parts f).snd.fst
                        (Tr.leaf
                          (IntKind.i64.wrap (0 - IntKind.i64.wrap ((r1_Words (r7_parts f).fst 1).getD (Int.toNat 0) 0)),
                            1))
                        (Tr.leaf
                          (IntKind.i64.wrap (0 - IntKind.i64.wrap ((r1_Words (r7_parts f).fst 1).getD (Int.toNat 0) 0)),
                            0)))
                      (Tr.br (r7_parts f).snd.fst
                        (Tr.leaf (IntKind.i64.wrap ((r1_Words (r7_parts f).fst 1).getD (Int.toNat 0) 0), 1))
                        (Tr.leaf (IntKind.i64.wrap ((r1_Words (r7_parts f).fst 1).getD (Int.toNat 0) 0), 0)))))))
              (Tr.ast (r1_Words_s (r7_parts f).fst 1)
                (Tr.ast (decide (0 < ((r1_Words (r7_parts f).fst 1).length : Int)))
                  (Tr.br (shrI IntKind.u64 f 63 == 1)
                    (Tr.br (r7_parts f).snd.fst
                      (Tr.leaf
                        (IntKind.i64.wrap (0 - IntKind.i64.wrap ((r1_Words (r7_parts f).fst 1).getD (Int.toNat 0) 0)), 1))
                      (Tr.leaf
                        (IntKind.i64.wrap (0 - IntKind.i64.wrap ((r1_Words (r7_parts f).fst 1).getD (Int.toNat 0) 0)),
                          0)))
                    (Tr.br (r7_parts f).snd.fst
                      (Tr.leaf (IntKind.i64.wrap ((r1_Words (r7_parts f).fst 1).getD (Int.toNat 0) 0), 1))
                      (Tr.leaf (IntKind.i64.wrap ((r1_Words (r7_parts f).fst 1).getD (Int.toNat 0) 0), 0)))))))))))
def r7_To_t (f : Int) (n : Int) : Tr (Int × Int) := r7_To_T r4_Finite r7_parts r7_parts_s r1_Shl r1_Shl_s r1_Cmp r1_Cmp_s r1_Words r1_Words_s f n
def r7_To (f : Int) (n : Int) : Int × Int := (r7_To_t f n).val
def r7_To_s (f : Int) (n : Int) : Bool := (r7_To_t f n).safe
def r7_Whole_T (r4_Class : Int → Int) (r7_parts : Int → (List Bool) × Bool × Int) (r7_parts_s : Int → Bool) (r1_Add : (List Bool) → (List Bool) → (List Bool)) (r1_Add_s : (List Bool) → (List Bool) → Bool) (r5_Round : Bool → (List Bool) → Int → Bool → Int → Int × Int) (r5_Round_s : Bool → (List Bool) → Int → Bool → Int → Bool) (f : Int) (mode : Int) : Tr (Int × Int) :=
  let t0 : List Bool := (r7_parts f).fst;
  let t1 : Bool × Int := (r7_parts f).snd;
  let t2 : Int := t1.snd;
  let t3 : Bool := mode == 2;
  let t4 : Bool := mode == 1;
  let t5 : Bool := t1.fst;
  let t6 : Int := (t0.length : Int);
  let t7 : List Bool := r1_Add t0 [true];
  let t8 : Bool := shrI IntKind.u64 f 63 == 1;
  let t9 : Bool := t2 == 0;
  let t10 : Bool := decide (t2 > 0);
  let t11 : Int := (r5_Round t8 t0 0 false 0).fst;
  let t12 : Int := (r5_Round t8 t7 0 false 0).fst;
  Tr.br (r4_Class f == 4) (Tr.leaf (9221120237041090560, 0))
    (Tr.br (r4_Class f == 3) (Tr.leaf (f, 0))
      (Tr.ast (r7_parts_s f)
        (Tr.br (decide (t6 > 0))
          (Tr.ast (decide (0 < t6))
            (Tr.br t10
              (Tr.br t4
                (Tr.br t5
                  (Tr.br (!t8)
                    (Tr.ast (r1_Add_s t0 [true])
                      (Tr.ast (r5_Round_s t8 t7 0 false 0) (Tr.br t5 (Tr.leaf (t12, 1)) (Tr.leaf (t12, 0)))))
                    (Tr.ast (r5_Round_s t8 t0 0 false 0) (Tr.br t5 (Tr.leaf (t11, 1)) (Tr.leaf (t11, 0)))))
                  (Tr.ast (r5_Round_s t8 t0 0 false 0) (Tr.br t5 (Tr.leaf (t11, 1)) (Tr.leaf (t11, 0)))))
                (Tr.br t3
                  (Tr.br t5
                    (Tr.br t8
                      (Tr.ast (r1_Add_s t0 [true])
                        (Tr.ast (r5_Round_s t8 t7 0 false 0) (Tr.br t5 (Tr.leaf (t12, 1)) (Tr.leaf (t12, 0)))))
                      (Tr.ast (r5_Round_s t8 t0 0 false 0) (Tr.br t5 (Tr.leaf (t11, 1)) (Tr.leaf (t11, 0)))))
                    (Tr.ast (r5_Round_s t8 t0 0 false 0) (Tr.br t5 (Tr.leaf (t11, 1)) (Tr.leaf (t11, 0)))))
                  (Tr.ast (r1_Add_s t0 [true])
                    (Tr.ast (r5_Round_s t8 t7 0 false 0) (Tr.br t5 (Tr.leaf (t12, 1)) (Tr.leaf (t12, 0)))))))
              (Tr.br t9
                (Tr.br t4
                  (Tr.br t5
                    (Tr.br (!t8)
                      (Tr.ast (r1_Add_s t0 [true])
                        (Tr.ast (r5_Round_s t8 t7 0 false 0) (Tr.br t5 (Tr.leaf (t12, 1)) (Tr.leaf (t12, 0)))))
                      (Tr.ast (r5_Round_s t8 t0 0 false 0) (Tr.br t5 (Tr.leaf (t11, 1)) (Tr.leaf (t11, 0)))))
                    (Tr.ast (r5_Round_s t8 t0 0 false 0) (Tr.br t5 (Tr.leaf (t11, 1)) (Tr.leaf (t11, 0)))))
                  (Tr.br t3
                    (Tr.br t5
                      (Tr.br t8
                        (Tr.ast (r1_Add_s t0 [true])
                          (Tr.ast (r5_Round_s t8 t7 0 false 0) (Tr.br t5 (Tr.leaf (t12, 1)) (Tr.leaf (t12, 0)))))
                        (Tr.ast (r5_Round_s t8 t0 0 false 0) (Tr.br t5 (Tr.leaf (t11, 1)) (Tr.leaf (t11, 0)))))
                      (Tr.ast (r5_Round_s t8 t0 0 false 0) (Tr.br t5 (Tr.leaf (t11, 1)) (Tr.leaf (t11, 0)))))
                    (Tr.br (t0.getD (Int.toNat 0) false)
                      (Tr.ast (r1_Add_s t0 [true])
                        (Tr.ast (r5_Round_s t8 t7 0 false 0) (Tr.br t5 (Tr.leaf (t12, 1)) (Tr.leaf (t12, 0)))))
                      (Tr.ast (r5_Round_s t8 t0 0 false 0) (Tr.br t5 (Tr.leaf (t11, 1)) (Tr.leaf (t11, 0)))))))
                (Tr.br t4
                  (Tr.br t5
                    (Tr.br (!t8)
                      (Tr.ast (r1_Add_s t0 [true])
                        (Tr.ast (r5_Round_s t8 t7 0 false 0) (Tr.br t5 (Tr.leaf (t12, 1)) (Tr.leaf (t12, 0)))))
                      (Tr.ast (r5_Round_s t8 t0 0 false 0) (Tr.br t5 (Tr.leaf (t11, 1)) (Tr.leaf (t11, 0)))))
                    (Tr.ast (r5_Round_s t8 t0 0 false 0) (Tr.br t5 (Tr.leaf (t11, 1)) (Tr.leaf (t11, 0)))))
                  (Tr.br t3
                    (Tr.br t5
                      (Tr.br t8
                        (Tr.ast (r1_Add_s t0 [true])
                          (Tr.ast (r5_Round_s t8 t7 0 false 0) (Tr.br t5 (Tr.leaf (t12, 1)) (Tr.leaf (t12, 0)))))
                        (Tr.ast (r5_Round_s t8 t0 0 false 0) (Tr.br t5 (Tr.leaf (t11, 1)) (Tr.leaf (t11, 0)))))
                      (Tr.ast (r5_Round_s t8 t0 0 false 0) (Tr.br t5 (Tr.leaf (t11, 1)) (Tr.leaf (t11, 0)))))
                    (Tr.ast (r5_Round_s t8 t0 0 false 0) (Tr.br t5 (Tr.leaf (t11, 1)) (Tr.leaf (t11, 0)))))))))
          (Tr.br t10
            (Tr.br t4
              (Tr.br t5
                (Tr.br (!t8)
                  (Tr.ast (r1_Add_s t0 [true])
                    (Tr.ast (r5_Round_s t8 t7 0 false 0) (Tr.br t5 (Tr.leaf (t12, 1)) (Tr.leaf (t12, 0)))))
                  (Tr.ast (r5_Round_s t8 t0 0 false 0) (Tr.br t5 (Tr.leaf (t11, 1)) (Tr.leaf (t11, 0)))))
                (Tr.ast (r5_Round_s t8 t0 0 false 0) (Tr.br t5 (Tr.leaf (t11, 1)) (Tr.leaf (t11, 0)))))
              (Tr.br t3
                (Tr.br t5
                  (Tr.br t8
                    (Tr.ast (r1_Add_s t0 [true])
                      (Tr.ast (r5_Round_s t8 t7 0 false 0) (Tr.br t5 (Tr.leaf (t12, 1)) (Tr.leaf (t12, 0)))))
                    (Tr.ast (r5_Round_s t8 t0 0 false 0) (Tr.br t5 (Tr.leaf (t11, 1)) (Tr.leaf (t11, 0)))))
                  (Tr.ast (r5_Round_s t8 t0 0 false 0) (Tr.br t5 (Tr.leaf (t11, 1)) (Tr.leaf (t11, 0)))))
                (Tr.ast (r1_Add_s t0 [true])
                  (Tr.ast (r5_Round_s t8 t7 0 false 0) (Tr.br t5 (Tr.leaf (t12, 1)) (Tr.leaf (t12, 0)))))))
            (Tr.br t9
              (Tr.br t4
                (Tr.br t5
                  (Tr.br (!t8)
                    (Tr.ast (r1_Add_s t0 [true])
                      (Tr.ast (r5_Round_s t8 t7 0 false 0) (Tr.br t5 (Tr.leaf (t12, 1)) (Tr.leaf (t12, 0)))))
                    (Tr.ast (r5_Round_s t8 t0 0 false 0) (Tr.br t5 (Tr.leaf (t11, 1)) (Tr.leaf (t11, 0)))))
                  (Tr.ast (r5_Round_s t8 t0 0 false 0) (Tr.br t5 (Tr.leaf (t11, 1)) (Tr.leaf (t11, 0)))))
                (Tr.br t3
                  (Tr.br t5
                    (Tr.br t8
                      (Tr.ast (r1_Add_s t0 [true])
                        (Tr.ast (r5_Round_s t8 t7 0 false 0) (Tr.br t5 (Tr.leaf (t12, 1)) (Tr.leaf (t12, 0)))))
                      (Tr.ast (r5_Round_s t8 t0 0 false 0) (Tr.br t5 (Tr.leaf (t11, 1)) (Tr.leaf (t11, 0)))))
                    (Tr.ast (r5_Round_s t8 t0 0 false 0) (Tr.br t5 (Tr.leaf (t11, 1)) (Tr.leaf (t11, 0)))))
                  (Tr.ast (r5_Round_s t8 t0 0 false 0) (Tr.br t5 (Tr.leaf (t11, 1)) (Tr.leaf (t11, 0))))))
              (Tr.br t4
                (Tr.br t5
                  (Tr.br (!t8)
                    (Tr.ast (r1_Add_s t0 [true])
                      (Tr.ast (r5_Round_s t8 t7 0 false 0) (Tr.br t5 (Tr.leaf (t12, 1)) (Tr.leaf (t12, 0)))))
                    (Tr.ast (r5_Round_s t8 t0 0 false 0) (Tr.br t5 (Tr.leaf (t11, 1)) (Tr.leaf (t11, 0)))))
                  (Tr.ast (r5_Round_s t8 t0 0 false 0) (Tr.br t5 (Tr.leaf (t11, 1)) (Tr.leaf (t11, 0)))))
                (Tr.br t3
                  (Tr.br t5
                    (Tr.br t8
                      (Tr.ast (r1_Add_s t0 [true])
                        (Tr.ast (r5_Round_s t8 t7 0 false 0) (Tr.br t5 (Tr.leaf (t12, 1)) (Tr.leaf (t12, 0)))))
                      (Tr.ast (r5_Round_s t8 t0 0 false 0) (Tr.br t5 (Tr.leaf (t11, 1)) (Tr.leaf (t11, 0)))))
                    (Tr.ast (r5_Round_s t8 t0 0 false 0) (Tr.br t5 (Tr.leaf (t11, 1)) (Tr.leaf (t11, 0)))))
                  (Tr.ast (r5_Round_s t8 t0 0 false 0) (Tr.br t5 (Tr.leaf (t11, 1)) (Tr.leaf (t11, 0)))))))))))
def r7_Whole_t (f : Int) (mode : Int) : Tr (Int × Int) := r7_Whole_T r4_Class r7_parts r7_parts_s r1_Add r1_Add_s r5_Round r5_Round_s f mode
def r7_Whole (f : Int) (mode : Int) : Int × Int := (r7_Whole_t f mode).val
def r7_Whole_s (f : Int) (mode : Int) : Bool := (r7_Whole_t f mode).safe
end Go.Fb
