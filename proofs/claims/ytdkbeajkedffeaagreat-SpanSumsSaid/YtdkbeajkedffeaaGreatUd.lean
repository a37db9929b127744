/- Layer 5: what the functions compute, as definitions. Conditions: none. -/
import Derived.Test.YtdkbeajkedffeaaGreatPd
namespace Go.Fb
open Go.Ev
def n_away_T  (x : RN) (mode : Int) : Tr (Bool) :=
  Tr.br (mode == 1) (Tr.br (!x.neg) (Tr.leaf true) (Tr.br (mode == 2) (Tr.leaf x.neg) (Tr.leaf false)))
    (Tr.br (mode == 2) (Tr.leaf x.neg) (Tr.leaf false))
def n_away_t (x : RN) (mode : Int) : Tr (Bool) := n_away_T  x mode
def n_away (x : RN) (mode : Int) : Bool := (n_away_t x mode).val
def n_towards_T  (x : RN) (mode : Int) : Tr (Bool) :=
  Tr.br (mode == 1) (Tr.br x.neg (Tr.leaf true) (Tr.br (mode == 2) (Tr.leaf !x.neg) (Tr.leaf false)))
    (Tr.br (mode == 2) (Tr.leaf !x.neg) (Tr.leaf false))
def n_towards_t (x : RN) (mode : Int) : Tr (Bool) := n_towards_T  x mode
def n_towards (x : RN) (mode : Int) : Bool := (n_towards_t x mode).val
def n_up_T (n_away : RN → Int → Bool) (n_towards : RN → Int → Bool) (x : RN) (mode : Int) (odd : Bool) (half : Bool) (rest : Bool) : Tr (Bool) :=
  Tr.br (n_away x mode) (Tr.br half (Tr.leaf true) (Tr.leaf rest))
    (Tr.br (n_towards x mode) (Tr.leaf false) (Tr.br half (Tr.br rest (Tr.leaf true) (Tr.leaf odd)) (Tr.leaf false)))
def n_up_t (x : RN) (mode : Int) (odd : Bool) (half : Bool) (rest : Bool) : Tr (Bool) := n_up_T n_away n_towards x mode odd half rest
def n_up (x : RN) (mode : Int) (odd : Bool) (half : Bool) (rest : Bool) : Bool := (n_up_t x mode odd half rest).val
def n_over_T (p_Inf : Bool → Int) (n_towards : RN → Int → Bool) (x : RN) (mode : Int) : Tr (Int × Int) :=
  Tr.br (n_towards x mode) (Tr.leaf (IntKind.u64.wrap (p_Inf x.neg - 1), 5)) (Tr.leaf (p_Inf x.neg, 5))
def n_over_t (x : RN) (mode : Int) : Tr (Int × Int) := n_over_T p_Inf n_towards x mode
def n_over (x : RN) (mode : Int) : Int × Int := (n_over_t x mode).val
def n_float_T (u2_Len : U2 → Int) (u2_Shr : U2 → Int → U2 × Bool) (u2_Shr_s : U2 → Int → Bool) (u2_Shl : U2 → Int → U2) (u2_Shl_s : U2 → Int → Bool) (n_up : RN → Int → Bool → Bool → Bool → Bool) (n_over : RN → Int → Int × Int) (p_Make : Bool → Int → Int → Int × Int) (x : RN) (mode : Int) : Tr (Int × Int) :=
  let t0 : Int := -1074;
  let t1 : Int := -1022;
  let t2 : Int := IntKind.i64.wrap (u2_Len x.m + x.e);
  let t3 : Int := imax (IntKind.i64.wrap (IntKind.i64.wrap (u2_Len x.m - 53) + x.e)) t0;
  let t4 : Int := IntKind.i64.wrap (t3 - x.e);
  let t5 : Bool := decide (t2 ≤ t1);
  let t6 : Int := IntKind.i64.wrap (t3 + 1);
  let t7 : Int := IntKind.i64.wrap (0 - t4);
  let t8 : Int := IntKind.i64.wrap (t4 - 1);
  let t9 : U2 × Bool := u2_Shr x.m t8;
  let t10 : Int := (u2_Shl x.m t7).lo;
  let t11 : Bool := t9.snd;
  let t12 : U2 := t9.fst;
  let t13 : Int := IntKind.i64.wrap (IntKind.i64.wrap (t3 - t0) + 1);
  let t14 : Int := shrI IntKind.u64 t10 1;
  let t15 : Bool := u2_Shr_s t12 1;
  let t16 : Int := bitsI BinOp.and IntKind.u64 t10 4503599627370495;
  let t17 : Int := (u2_Shr t12 1).fst.lo;
  let t18 : Int := IntKind.u64.wrap (t10 + 1);
  let t19 : Int := bitsI BinOp.and IntKind.u64 t14 4503599627370495;
  let t20 : Int := IntKind.i64.wrap (IntKind.i64.wrap (t6 - t0) + 1);
  let t21 : Bool := shrI IntKind.u64 t10 52 == 1;
  let t22 : Int := (p_Make x.neg 0 t16).fst;
  let t23 : Int := shrI IntKind.u64 t17 1;
  let t24 : Int := bitsI BinOp.and IntKind.u64 t17 4503599627370495;
  let t25 : Bool := bitsI BinOp.and IntKind.u64 t12.lo 1 == 1;
  let t26 : Int := shrI IntKind.u64 t18 1;
  let t27 : Int := bitsI BinOp.and IntKind.u64 t18 4503599627370495;
  let t28 : Bool := t17 == 9007199254740992;
  let t29 : Bool := decide (t3 > 971);
  let t30 : Bool := shrI IntKind.u64 t14 52 == 1;
  let t31 : Int := IntKind.u64.wrap (t17 + 1);
  let t32 : Int := (p_Make x.neg 0 t19).fst;
  let t33 : Int := bitsI BinOp.and IntKind.u64 t23 4503599627370495;
  let t34 : Int := bitsI BinOp.and IntKind.u64 t26 4503599627370495;
  let t35 : Bool := shrI IntKind.u64 t17 52 == 1;
  let t36 : Bool := bitsI BinOp.and IntKind.u64 t17 1 == 1;
  let t37 : Bool := shrI IntKind.u64 t18 52 == 1;
  let t38 : Int := (p_Make x.neg 0 t24).fst;
  let t39 : Int := (p_Make x.neg 0 t27).fst;
  let t40 : Int := shrI IntKind.u64 t31 1;
  let t41 : Int := bitsI BinOp.and IntKind.u64 t31 4503599627370495;
  let t42 : Bool := t31 == 9007199254740992;
  let t43 : Bool := shrI IntKind.u64 t23 52 == 1;
  let t44 : Bool := shrI IntKind.u64 t26 52 == 1;
  let t45 : Int := (p_Make x.neg 0 t33).fst;
  let t46 : Int := (p_Make x.neg 0 t34).fst;
  let t47 : Int := bitsI BinOp.and IntKind.u64 t40 4503599627370495;
  let t48 : Bool := shrI IntKind.u64 t31 52 == 1;
  let t49 : Int := (p_Make x.neg 0 t41).fst;
  let t50 : Bool := shrI IntKind.u64 t40 52 == 1;
  let t51 : Bool := decide (t6 > 971);
  let t52 : Int := (p_Make x.neg 0 t47).fst;
  let t53 : Int := (p_Make x.neg t13 t16).fst;
  let t54 : Int := (p_Make x.neg t13 t24).fst;
  let t55 : Int := (p_Make x.neg t13 t27).fst;
  let t56 : Int := (p_Make x.neg t20 t19).fst;
  let t57 : Int := (p_Make x.neg t13 t41).fst;
  let t58 : Int := (p_Make x.neg t20 t33).fst;
  let t59 : Int := (p_Make x.neg t20 t34).fst;
  let t60 : Int := (p_Make x.neg t20 t47).fst;
  Tr.br (decide (t4 > 0))
    (Tr.ast (u2_Shr_s x.m t8)
      (Tr.br x.rest
        (Tr.ast t15
          (Tr.br (n_up x mode t36 t25 true)
            (Tr.br t42
              (Tr.br t51 (Tr.leaf (n_over x mode))
                (Tr.br t25
                  (Tr.br t5 (Tr.br t50 (Tr.leaf (t60, 3)) (Tr.leaf (t52, 3)))
                    (Tr.br t50 (Tr.leaf (t60, 1)) (Tr.leaf (t52, 1))))
                  (Tr.br t5 (Tr.br t50 (Tr.leaf (t60, 3)) (Tr.leaf (t52, 3)))
                    (Tr.br t50 (Tr.leaf (t60, 1)) (Tr.leaf (t52, 1))))))
              (Tr.br t29 (Tr.leaf (n_over x mode))
                (Tr.br t25
                  (Tr.br t5 (Tr.br t48 (Tr.leaf (t57, 3)) (Tr.leaf (t49, 3)))
                    (Tr.br t48 (Tr.leaf (t57, 1)) (Tr.leaf (t49, 1))))
                  (Tr.br t5 (Tr.br t48 (Tr.leaf (t57, 3)) (Tr.leaf (t49, 3)))
                    (Tr.br t48 (Tr.leaf (t57, 1)) (Tr.leaf (t49, 1)))))))
            (Tr.br t28
              (Tr.br t51 (Tr.leaf (n_over x mode))
                (Tr.br t25
                  (Tr.br t5 (Tr.br t43 (Tr.leaf (t58, 3)) (Tr.leaf (t45, 3)))
                    (Tr.br t43 (Tr.leaf (t58, 1)) (Tr.leaf (t45, 1))))
                  (Tr.br t5 (Tr.br t43 (Tr.leaf (t58, 3)) (Tr.leaf (t45, 3)))
                    (Tr.br t43 (Tr.leaf (t58, 1)) (Tr.leaf (t45, 1))))))
              (Tr.br t29 (Tr.leaf (n_over x mode))
                (Tr.br t25
                  (Tr.br t5 (Tr.br t35 (Tr.leaf (t54, 3)) (Tr.leaf (t38, 3)))
                    (Tr.br t35 (Tr.leaf (t54, 1)) (Tr.leaf (t38, 1))))
                  (Tr.br t5 (Tr.br t35 (Tr.leaf (t54, 3)) (Tr.leaf (t38, 3)))
                    (Tr.br t35 (Tr.leaf (t54, 1)) (Tr.leaf (t38, 1)))))))))
        (Tr.ast t15
          (Tr.br (n_up x mode t36 t25 t11)
            (Tr.br t42
              (Tr.br t51 (Tr.leaf (n_over x mode))
                (Tr.br t25
                  (Tr.br t5 (Tr.br t50 (Tr.leaf (t60, 3)) (Tr.leaf (t52, 3)))
                    (Tr.br t50 (Tr.leaf (t60, 1)) (Tr.leaf (t52, 1))))
                  (Tr.br t11
                    (Tr.br t5 (Tr.br t50 (Tr.leaf (t60, 3)) (Tr.leaf (t52, 3)))
                      (Tr.br t50 (Tr.leaf (t60, 1)) (Tr.leaf (t52, 1))))
                    (Tr.br t50 (Tr.leaf (t60, 0)) (Tr.leaf (t52, 0))))))
              (Tr.br t29 (Tr.leaf (n_over x mode))
                (Tr.br t25
                  (Tr.br t5 (Tr.br t48 (Tr.leaf (t57, 3)) (Tr.leaf (t49, 3)))
                    (Tr.br t48 (Tr.leaf (t57, 1)) (Tr.leaf (t49, 1))))
                  (Tr.br t11
                    (Tr.br t5 (Tr.br t48 (Tr.leaf (t57, 3)) (Tr.leaf (t49, 3)))
                      (Tr.br t48 (Tr.leaf (t57, 1)) (Tr.leaf (t49, 1))))
                    (Tr.br t48 (Tr.leaf (t57, 0)) (Tr.leaf (t49, 0)))))))
            (Tr.br t28
              (Tr.br t51 (Tr.leaf (n_over x mode))
                (Tr.br t25
                  (Tr.br t5 (Tr.br t43 (Tr.leaf (t58, 3)) (Tr.leaf (t45, 3)))
                    (Tr.br t43 (Tr.leaf (t58, 1)) (Tr.leaf (t45, 1))))
                  (Tr.br t11
                    (Tr.br t5 (Tr.br t43 (Tr.leaf (t58, 3)) (Tr.leaf (t45, 3)))
                      (Tr.br t43 (Tr.leaf (t58, 1)) (Tr.leaf (t45, 1))))
                    (Tr.br t43 (Tr.leaf (t58, 0)) (Tr.leaf (t45, 0))))))
              (Tr.br t29 (Tr.leaf (n_over x mode))
                (Tr.br t25
                  (Tr.br t5 (Tr.br t35 (Tr.leaf (t54, 3)) (Tr.leaf (t38, 3)))
                    (Tr.br t35 (Tr.leaf (t54, 1)) (Tr.leaf (t38, 1))))
                  (Tr.br t11
                    (Tr.br t5 (Tr.br t35 (Tr.leaf (t54, 3)) (Tr.leaf (t38, 3)))
                      (Tr.br t35 (Tr.leaf (t54, 1)) (Tr.leaf (t38, 1))))
                    (Tr.br t35 (Tr.leaf (t54, 0)) (Tr.leaf (t38, 0)))))))))))
    (Tr.ast (u2_Shl_s x.m t7)
      (Tr.br (n_up x mode (bitsI BinOp.and IntKind.u64 t10 1 == 1) false x.rest)
        (Tr.br (t18 == 9007199254740992)
          (Tr.br t51 (Tr.leaf (n_over x mode))
            (Tr.br x.rest
              (Tr.br t5 (Tr.br t44 (Tr.leaf (t59, 3)) (Tr.leaf (t46, 3)))
                (Tr.br t44 (Tr.leaf (t59, 1)) (Tr.leaf (t46, 1))))
              (Tr.br t44 (Tr.leaf (t59, 0)) (Tr.leaf (t46, 0)))))
          (Tr.br t29 (Tr.leaf (n_over x mode))
            (Tr.br x.rest
              (Tr.br t5 (Tr.br t37 (Tr.leaf (t55, 3)) (Tr.leaf (t39, 3)))
                (Tr.br t37 (Tr.leaf (t55, 1)) (Tr.leaf (t39, 1))))
              (Tr.br t37 (Tr.leaf (t55, 0)) (Tr.leaf (t39, 0))))))
        (Tr.br (t10 == 9007199254740992)
          (Tr.br t51 (Tr.leaf (n_over x mode))
            (Tr.br x.rest
              (Tr.br t5 (Tr.br t30 (Tr.leaf (t56, 3)) (Tr.leaf (t32, 3)))
                (Tr.br t30 (Tr.leaf (t56, 1)) (Tr.leaf (t32, 1))))
              (Tr.br t30 (Tr.leaf (t56, 0)) (Tr.leaf (t32, 0)))))
          (Tr.br t29 (Tr.leaf (n_over x mode))
            (Tr.br x.rest
              (Tr.br t5 (Tr.br t21 (Tr.leaf (t53, 3)) (Tr.leaf (t22, 3)))
                (Tr.br t21 (Tr.leaf (t53, 1)) (Tr.leaf (t22, 1))))
              (Tr.br t21 (Tr.leaf (t53, 0)) (Tr.leaf (t22, 0))))))))
def n_float_t (x : RN) (mode : Int) : Tr (Int × Int) := n_float_T u2_Len u2_Shr u2_Shr_s u2_Shl u2_Shl_s n_up n_over p_Make x mode
def n_float (x : RN) (mode : Int) : Int × Int := (n_float_t x mode).val
def n_float_s (x : RN) (mode : Int) : Bool := (n_float_t x mode).safe
def n_Round_T (u2_Len : U2 → Int) (p_Make : Bool → Int → Int → Int × Int) (n_float : RN → Int → Int × Int) (n_float_s : RN → Int → Bool) (neg : Bool) (m : U2) (e : Int) (rest : Bool) (mode : Int) : Tr (Int × Int) :=
  Tr.br (u2_Len m == 0) (Tr.leaf ((p_Make neg 0 0).fst, 0))
    (Tr.br rest
      (Tr.ast (n_float_s (RN.mk neg m (imin (imax e (-5000)) 5000) (decide (u2_Len m > 53))) mode)
        (Tr.leaf (n_float (RN.mk neg m (imin (imax e (-5000)) 5000) (decide (u2_Len m > 53))) mode)))
      (Tr.ast (n_float_s (RN.mk neg m (imin (imax e (-5000)) 5000) false) mode)
        (Tr.leaf (n_float (RN.mk neg m (imin (imax e (-5000)) 5000) false) mode))))
def n_Round_t (neg : Bool) (m : U2) (e : Int) (rest : Bool) (mode : Int) : Tr (Int × Int) := n_Round_T u2_Len p_Make n_float n_float_s neg m e rest mode
def n_Round (neg : Bool) (m : U2) (e : Int) (rest : Bool) (mode : Int) : Int × Int := (n_Round_t neg m e rest mode).val
def n_Round_s (neg : Bool) (m : U2) (e : Int) (rest : Bool) (mode : Int) : Bool := (n_Round_t neg m e rest mode).safe
def r5_cmp_T (r1_Shl : (List Bool) → Int → (List Bool)) (r1_Shl_s : (List Bool) → Int → Bool) (r1_Mul : (List Bool) → (List Bool) → (List Bool)) (r1_Mul_s : (List Bool) → (List Bool) → Bool) (r1_Cmp : (List Bool) → (List Bool) → Int) (r1_Cmp_s : (List Bool) → (List Bool) → Bool) (x : RX) (m : List Bool) (e : Int) : Tr (Int) :=
  Tr.ast (r1_Shl_s x.a (IntKind.i64.wrap (x.e - imin x.e e)))
    (Tr.ast (r1_Mul_s m x.b)
      (Tr.ast (r1_Shl_s (r1_Mul m x.b) (IntKind.i64.wrap (e - imin x.e e)))
        (Tr.ast
          (r1_Cmp_s (r1_Shl x.a (IntKind.i64.wrap (x.e - imin x.e e)))
            (r1_Shl (r1_Mul m x.b) (IntKind.i64.wrap (e - imin x.e e))))
          (Tr.br
            (r1_Cmp (r1_Shl x.a (IntKind.i64.wrap (x.e - imin x.e e)))
                (r1_Shl (r1_Mul m x.b) (IntKind.i64.wrap (e - imin x.e e))) ==
              0)
            (Tr.br x.rest (Tr.leaf 1)
              (Tr.leaf
                (r1_Cmp (r1_Shl x.a (IntKind.i64.wrap (x.e - imin x.e e)))
                  (r1_Shl (r1_Mul m x.b) (IntKind.i64.wrap (e - imin x.e e))))))
            (Tr.leaf
              (r1_Cmp (r1_Shl x.a (IntKind.i64.wrap (x.e - imin x.e e)))
                (r1_Shl (r1_Mul m x.b) (IntKind.i64.wrap (e - imin x.e e)))))))))
def r5_cmp_t (x : RX) (m : List Bool) (e : Int) : Tr (Int) := r5_cmp_T r1_Shl r1_Shl_s r1_Mul r1_Mul_s r1_Cmp r1_Cmp_s x m e
def r5_cmp (x : RX) (m : List Bool) (e : Int) : Int := (r5_cmp_t x m e).val
def r5_cmp_s (x : RX) (m : List Bool) (e : Int) : Bool := (r5_cmp_t x m e).safe
def r5_split_T (r1_Of1 : Int → (List Bool)) (r1_Of1_s : Int → Bool) (k : Int) : Tr ((List Bool) × Int) :=
  Tr.br (shrI IntKind.i64 k 52 == 0)
    (Tr.ast (r1_Of1_s (IntKind.u64.wrap (bitsI BinOp.and IntKind.i64 k 4503599627370495)))
      (Tr.leaf (r1_Of1 (IntKind.u64.wrap (bitsI BinOp.and IntKind.i64 k 4503599627370495)), -1074)))
    (Tr.ast
      (r1_Of1_s (IntKind.u64.wrap (IntKind.u64.wrap (bitsI BinOp.and IntKind.i64 k 4503599627370495) + 4503599627370496)))
      (Tr.leaf
        (r1_Of1 (IntKind.u64.wrap (IntKind.u64.wrap (bitsI BinOp.and IntKind.i64 k 4503599627370495) + 4503599627370496)),
          IntKind.i64.wrap (shrI IntKind.i64 k 52 - 1075))))
def r5_split_t (k : Int) : Tr ((List Bool) × Int) := r5_split_T r1_Of1 r1_Of1_s k
def r5_split (k : Int) : (List Bool) × Int := (r5_split_t k).val
def r5_split_s (k : Int) : Bool := (r5_split_t k).safe
def r5_floor_L0_T (r5_split : Int → (List Bool) × Int) (r5_split_s : Int → Bool) (r5_cmp : RX → (List Bool) → Int → Int) (r5_cmp_s : RX → (List Bool) → Int → Bool) (h0_0 : List Bool) (h0_1 : List Bool) (h0_2 : Int) (h0_3 : Bool) (v3 : Int) (v4 : Int) : Tr ((Int × Int) ⊕ (Int × Int)) :=
  Tr.br (decide (v3 < v4))
    (Tr.ast (r5_split_s (IntKind.i64.wrap (v4 - IntKind.i64.wrap ((IntKind.i64.wrap (v4 - v3)).tdiv 2))))
      (Tr.ast
        (r5_cmp_s (RX.mk h0_0 h0_1 h0_2 h0_3)
          (r5_split (IntKind.i64.wrap (v4 - IntKind.i64.wrap ((IntKind.i64.wrap (v4 - v3)).tdiv 2)))).fst
          (r5_split (IntKind.i64.wrap (v4 - IntKind.i64.wrap ((IntKind.i64.wrap (v4 - v3)).tdiv 2)))).snd)
        (Tr.br
          (decide
            (r5_cmp (RX.mk h0_0 h0_1 h0_2 h0_3)
                (r5_split (IntKind.i64.wrap (v4 - IntKind.i64.wrap ((IntKind.i64.wrap (v4 - v3)).tdiv 2)))).fst
                (r5_split (IntKind.i64.wrap (v4 - IntKind.i64.wrap ((IntKind.i64.wrap (v4 - v3)).tdiv 2)))).snd ≥
              0))
          (Tr.leaf (Sum.inl (IntKind.i64.wrap (v4 - IntKind.i64.wrap ((IntKind.i64.wrap (v4 - v3)).tdiv 2)), v4)))
          (Tr.leaf
            (Sum.inl
              (v3,
                IntKind.i64.wrap
                  (IntKind.i64.wrap (v4 - IntKind.i64.wrap ((IntKind.i64.wrap (v4 - v3)).tdiv 2)) - 1)))))))
    (Tr.leaf (Sum.inr (v3, v4)))
def r5_floor_L0_step (p : (List Bool) × (List Bool) × Int × Bool) (x : Int × Int) : Tr ((Int × Int) ⊕ (Int × Int)) := r5_floor_L0_T r5_split r5_split_s r5_cmp r5_cmp_s p.1 p.2.1 p.2.2.1 p.2.2.2 x.1 x.2
def r5_floor_L0_r (p : (List Bool) × (List Bool) × Int × Bool) (x : Int × Int) : Option (Int × Int) := runB (r5_floor_L0_step p) x
def r5_floor_L0_v (p : (List Bool) × (List Bool) × Int × Bool) (x : Int × Int) : Int × Int := (r5_floor_L0_r p x).getD x
def r5_floor_L0_ok (p : (List Bool) × (List Bool) × Int × Bool) (x : Int × Int) : Bool := (r5_floor_L0_r p x).isSome
def r5_floor_T (r5_floor_L0_ok : ((List Bool) × (List Bool) × Int × Bool) → (Int × Int) → Bool) (r5_floor_L0_v : ((List Bool) × (List Bool) × Int × Bool) → (Int × Int) → Int × Int) (x : RX) : Tr (Int) :=
  Tr.ast (r5_floor_L0_ok (x.a, x.b, x.e, x.rest) (0, 9218868437227405312))
    (Tr.leaf (r5_floor_L0_v (x.a, x.b, x.e, x.rest) (0, 9218868437227405312)).fst)
def r5_floor_t (x : RX) : Tr (Int) := r5_floor_T r5_floor_L0_ok r5_floor_L0_v x
def r5_floor (x : RX) : Int := (r5_floor_t x).val
def r5_floor_s (x : RX) : Bool := (r5_floor_t x).safe
def r5_Magnitude_T (r5_floor : RX → Int) (r5_floor_s : RX → Bool) (r5_split : Int → (List Bool) × Int) (r5_split_s : Int → Bool) (r5_cmp : RX → (List Bool) → Int → Int) (r5_cmp_s : RX → (List Bool) → Int → Bool) (r1_Of1 : Int → (List Bool)) (r1_Of1_s : Int → Bool) (r1_Add : (List Bool) → (List Bool) → (List Bool)) (r1_Add_s : (List Bool) → (List Bool) → Bool) (r1_Shl : (List Bool) → Int → (List Bool)) (r1_Shl_s : (List Bool) → Int → Bool) (x : RX) (mode : Int) : Tr (Int × Int) :=
  let t0 : Int := -1022;
  let t1 : List Bool := (r5_split 9218868437227405311).fst;
  let t2 : Bool := mode == 1;
  let t3 : Bool := mode != 2;
  let t4 : Bool := mode == 2;
  let t5 : List Bool := r1_Shl (r5_split (r5_floor x)).fst 1;
  let t6 : Bool := r1_Shl_s (r5_split (r5_floor x)).fst 1;
  let t7 : Int := r5_cmp x (r1_Of1 1) t0;
  let t8 : Int := IntKind.i64.wrap (r5_floor x + 1);
  let t9 : List Bool := r1_Add t1 (r1_Of1 1);
  let t10 : Bool := r1_Add_s t1 (r1_Of1 1);
  let t11 : Bool := (r5_floor x).tmod 2 == 1;
  let t12 : Bool := decide (r5_floor x ≤ 9218868437227405311);
  let t13 : Bool := decide (r5_floor x > 9218868437227405311);
  let t14 : List Bool := r1_Add t5 (r1_Of1 1);
  let t15 : Bool := r1_Add_s t5 (r1_Of1 1);
  let t16 : Int := IntKind.i64.wrap ((r5_split (r5_floor x)).snd - 1);
  let t17 : List Bool := r1_Shl t9 1;
  let t18 : Bool := r1_Shl_s t9 1;
  let t19 : Int := IntKind.i64.wrap ((r5_split 9218868437227405311).snd - 1);
  let t20 : Bool := !r5_cmp x (r5_split (r5_floor x)).fst (r5_split (r5_floor x)).snd == 0;
  let t21 : Bool := r1_Add_s t17 (r1_Of1 1);
  let t22 : List Bool := r1_Add t17 (r1_Of1 1);
  let t23 : Bool := r5_cmp_s x t14 t16;
  let t24 : Int := r5_cmp x t14 t16;
  let t25 : Bool := decide (t8 > 9218868437227405311);
  let t26 : Bool := t24 == 0;
  let t27 : Bool := r5_cmp_s x t22 t19;
  let t28 : Int := r5_cmp x t22 t19;
  let t29 : Bool := t28 == 0;
  let t30 : Bool := decide (t24 > 0);
  let t31 : Bool := decide (t28 > 0);
  Tr.ast (r5_floor_s x)
    (Tr.ast (r5_split_s (r5_floor x))
      (Tr.ast (r5_cmp_s x (r5_split (r5_floor x)).fst (r5_split (r5_floor x)).snd)
        (Tr.ast (r1_Of1_s 1)
          (Tr.br t20
            (Tr.ast (r5_cmp_s x (r1_Of1 1) t0)
              (Tr.br (decide (t7 < 0))
                (Tr.br t2
                  (Tr.br t12
                    (Tr.br t20
                      (Tr.br t25 (Tr.br t4 (Tr.leaf (9218868437227405311, 7)) (Tr.leaf (9218868437227405312, 7)))
                        (Tr.leaf (t8, 3)))
                      (Tr.br t13 (Tr.br t4 (Tr.leaf (9218868437227405311, 7)) (Tr.leaf (9218868437227405312, 7)))
                        (Tr.leaf (r5_floor x, 3))))
                    (Tr.br t13 (Tr.br t4 (Tr.leaf (9218868437227405311, 7)) (Tr.leaf (9218868437227405312, 7)))
                      (Tr.leaf (r5_floor x, 3))))
                  (Tr.br t3
                    (Tr.ast (r5_split_s (r5_floor x))
                      (Tr.br t13
                        (Tr.ast (r5_split_s 9218868437227405311)
                          (Tr.ast t10
                            (Tr.ast t18
                              (Tr.ast t21
                                (Tr.ast t27
                                  (Tr.br t31
                                    (Tr.br t12
                                      (Tr.br t25
                                        (Tr.br t4 (Tr.leaf (9218868437227405311, 7)) (Tr.leaf (9218868437227405312, 7)))
                                        (Tr.leaf (t8, 3)))
                                      (Tr.br t13
                                        (Tr.br t4 (Tr.leaf (9218868437227405311, 7)) (Tr.leaf (9218868437227405312, 7)))
                                        (Tr.leaf (r5_floor x, 3))))
                                    (Tr.br t29
                                      (Tr.br t12
                                        (Tr.br t11
                                          (Tr.br t25
                                            (Tr.br t4 (Tr.leaf (9218868437227405311, 7))
                                              (Tr.leaf (9218868437227405312, 7)))
                                            (Tr.leaf (t8, 3)))
                                          (Tr.br t13
                                            (Tr.br t4 (Tr.leaf (9218868437227405311, 7))
                                              (Tr.leaf (9218868437227405312, 7)))
                                            (Tr.leaf (r5_floor x, 3))))
                                        (Tr.br t13
                                          (Tr.br t4 (Tr.leaf (9218868437227405311, 7)) (Tr.leaf (9218868437227405312, 7)))
                                          (Tr.leaf (r5_floor x, 3))))
                                      (Tr.br t12
                                        (Tr.br t13
                                          (Tr.br t4 (Tr.leaf (9218868437227405311, 7)) (Tr.leaf (9218868437227405312, 7)))
                                          (Tr.leaf (r5_floor x, 3)))
                                        (Tr.br t13
                                          (Tr.br t4 (Tr.leaf (9218868437227405311, 7)) (Tr.leaf (9218868437227405312, 7)))
                                          (Tr.leaf (r5_floor x, 3)))))))))))
                        (Tr.ast t6
                          (Tr.ast t15
                            (Tr.ast t23
                              (Tr.br t30
                                (Tr.br t12
                                  (Tr.br t25
                                    (Tr.br t4 (Tr.leaf (9218868437227405311, 7)) (Tr.leaf (9218868437227405312, 7)))
                                    (Tr.leaf (t8, 3)))
                                  (Tr.br t13
                                    (Tr.br t4 (Tr.leaf (9218868437227405311, 7)) (Tr.leaf (9218868437227405312, 7)))
                                    (Tr.leaf (r5_floor x, 3))))
                                (Tr.br t26
                                  (Tr.br t12
                                    (Tr.br t11
                                      (Tr.br t25
                                        (Tr.br t4 (Tr.leaf (9218868437227405311, 7)) (Tr.leaf (9218868437227405312, 7)))
                                        (Tr.leaf (t8, 3)))
                                      (Tr.br t13
                                        (Tr.br t4 (Tr.leaf (9218868437227405311, 7)) (Tr.leaf (9218868437227405312, 7)))
                                        (Tr.leaf (r5_floor x, 3))))
                                    (Tr.br t13
                                      (Tr.br t4 (Tr.leaf (9218868437227405311, 7)) (Tr.leaf (9218868437227405312, 7)))
                                      (Tr.leaf (r5_floor x, 3))))
                                  (Tr.br t12
                                    (Tr.br t13
                                      (Tr.br t4 (Tr.leaf (9218868437227405311, 7)) (Tr.leaf (9218868437227405312, 7)))
                                      (Tr.leaf (r5_floor x, 3)))
                                    (Tr.br t13
                                      (Tr.br t4 (Tr.leaf (9218868437227405311, 7)) (Tr.leaf (9218868437227405312, 7)))
                                      (Tr.leaf (r5_floor x, 3)))))))))))
                    (Tr.br t12
                      (Tr.br t13 (Tr.br t4 (Tr.leaf (9218868437227405311, 7)) (Tr.leaf (9218868437227405312, 7)))
                        (Tr.leaf (r5_floor x, 3)))
                      (Tr.br t13 (Tr.br t4 (Tr.leaf (9218868437227405311, 7)) (Tr.leaf (9218868437227405312, 7)))
                        (Tr.leaf (r5_floor x, 3))))))
                (Tr.br t2
                  (Tr.br t12
                    (Tr.br t20
                      (Tr.br t25 (Tr.br t4 (Tr.leaf (9218868437227405311, 5)) (Tr.leaf (9218868437227405312, 5)))
                        (Tr.leaf (t8, 1)))
                      (Tr.br t13 (Tr.br t4 (Tr.leaf (9218868437227405311, 5)) (Tr.leaf (9218868437227405312, 5)))
                        (Tr.leaf (r5_floor x, 1))))
                    (Tr.br t13 (Tr.br t4 (Tr.leaf (9218868437227405311, 5)) (Tr.leaf (9218868437227405312, 5)))
                      (Tr.leaf (r5_floor x, 1))))
                  (Tr.br t3
                    (Tr.ast (r5_split_s (r5_floor x))
                      (Tr.br t13
                        (Tr.ast (r5_split_s 9218868437227405311)
                          (Tr.ast t10
                            (Tr.ast t18
                              (Tr.ast t21
                                (Tr.ast t27
                                  (Tr.br t31
                                    (Tr.br t12
                                      (Tr.br t25
                                        (Tr.br t4 (Tr.leaf (9218868437227405311, 5)) (Tr.leaf (9218868437227405312, 5)))
                                        (Tr.leaf (t8, 1)))
                                      (Tr.br t13
                                        (Tr.br t4 (Tr.leaf (9218868437227405311, 5)) (Tr.leaf (9218868437227405312, 5)))
                                        (Tr.leaf (r5_floor x, 1))))
                                    (Tr.br t29
                                      (Tr.br t12
                                        (Tr.br t11
                                          (Tr.br t25
                                            (Tr.br t4 (Tr.leaf (9218868437227405311, 5))
                                              (Tr.leaf (9218868437227405312, 5)))
                                            (Tr.leaf (t8, 1)))
                                          (Tr.br t13
                                            (Tr.br t4 (Tr.leaf (9218868437227405311, 5))
                                              (Tr.leaf (9218868437227405312, 5)))
                                            (Tr.leaf (r5_floor x, 1))))
                                        (Tr.br t13
                                          (Tr.br t4 (Tr.leaf (9218868437227405311, 5)) (Tr.leaf (9218868437227405312, 5)))
                                          (Tr.leaf (r5_floor x, 1))))
                                      (Tr.br t12
                                        (Tr.br t13
                                          (Tr.br t4 (Tr.leaf (9218868437227405311, 5)) (Tr.leaf (9218868437227405312, 5)))
                                          (Tr.leaf (r5_floor x, 1)))
                                        (Tr.br t13
                                          (Tr.br t4 (Tr.leaf (9218868437227405311, 5)) (Tr.leaf (9218868437227405312, 5)))
                                          (Tr.leaf (r5_floor x, 1)))))))))))
                        (Tr.ast t6
                          (Tr.ast t15
                            (Tr.ast t23
                              (Tr.br t30
                                (Tr.br t12
                                  (Tr.br t25
                                    (Tr.br t4 (Tr.leaf (9218868437227405311, 5)) (Tr.leaf (9218868437227405312, 5)))
                                    (Tr.leaf (t8, 1)))
                                  (Tr.br t13
                                    (Tr.br t4 (Tr.leaf (9218868437227405311, 5)) (Tr.leaf (9218868437227405312, 5)))
                                    (Tr.leaf (r5_floor x, 1))))
                                (Tr.br t26
                                  (Tr.br t12
                                    (Tr.br t11
                                      (Tr.br t25
                                        (Tr.br t4 (Tr.leaf (9218868437227405311, 5)) (Tr.leaf (9218868437227405312, 5)))
                                        (Tr.leaf (t8, 1)))
                                      (Tr.br t13
                                        (Tr.br t4 (Tr.leaf (9218868437227405311, 5)) (Tr.leaf (9218868437227405312, 5)))
                                        (Tr.leaf (r5_floor x, 1))))
                                    (Tr.br t13
                                      (Tr.br t4 (Tr.leaf (9218868437227405311, 5)) (Tr.leaf (9218868437227405312, 5)))
                                      (Tr.leaf (r5_floor x, 1))))
                                  (Tr.br t12
                                    (Tr.br t13
                                      (Tr.br t4 (Tr.leaf (9218868437227405311, 5)) (Tr.leaf (9218868437227405312, 5)))
                                      (Tr.leaf (r5_floor x, 1)))
                                    (Tr.br t13
                                      (Tr.br t4 (Tr.leaf (9218868437227405311, 5)) (Tr.leaf (9218868437227405312, 5)))
                                      (Tr.leaf (r5_floor x, 1)))))))))))
                    (Tr.br t12
                      (Tr.br t13 (Tr.br t4 (Tr.leaf (9218868437227405311, 5)) (Tr.leaf (9218868437227405312, 5)))
                        (Tr.leaf (r5_floor x, 1)))
                      (Tr.br t13 (Tr.br t4 (Tr.leaf (9218868437227405311, 5)) (Tr.leaf (9218868437227405312, 5)))
                        (Tr.leaf (r5_floor x, 1))))))))
            (Tr.br t2
              (Tr.br t12
                (Tr.br t20
                  (Tr.br t25 (Tr.br t4 (Tr.leaf (9218868437227405311, 5)) (Tr.leaf (9218868437227405312, 5)))
                    (Tr.leaf (t8, 0)))
                  (Tr.br t13 (Tr.br t4 (Tr.leaf (9218868437227405311, 5)) (Tr.leaf (9218868437227405312, 5)))
                    (Tr.leaf (r5_floor x, 0))))
                (Tr.br t13 (Tr.br t4 (Tr.leaf (9218868437227405311, 5)) (Tr.leaf (9218868437227405312, 5)))
                  (Tr.leaf (r5_floor x, 0))))
              (Tr.br t3
                (Tr.ast (r5_split_s (r5_floor x))
                  (Tr.br t13
                    (Tr.ast (r5_split_s 9218868437227405311)
                      (Tr.ast t10
                        (Tr.ast t18
                          (Tr.ast t21
                            (Tr.ast t27
                              (Tr.br t31
                                (Tr.br t12
                                  (Tr.br t25
                                    (Tr.br t4 (Tr.leaf (9218868437227405311, 5)) (Tr.leaf (9218868437227405312, 5)))
                                    (Tr.leaf (t8, 0)))
                                  (Tr.br t13
                                    (Tr.br t4 (Tr.leaf (9218868437227405311, 5)) (Tr.leaf (9218868437227405312, 5)))
                                    (Tr.leaf (r5_floor x, 0))))
                                (Tr.br t29
                                  (Tr.br t12
                                    (Tr.br t11
                                      (Tr.br t25
                                        (Tr.br t4 (Tr.leaf (9218868437227405311, 5)) (Tr.leaf (9218868437227405312, 5)))
                                        (Tr.leaf (t8, 0)))
                                      (Tr.br t13
                                        (Tr.br t4 (Tr.leaf (9218868437227405311, 5)) (Tr.leaf (9218868437227405312, 5)))
                                        (Tr.leaf (r5_floor x, 0))))
                                    (Tr.br t13
                                      (Tr.br t4 (Tr.leaf (9218868437227405311, 5)) (Tr.leaf (9218868437227405312, 5)))
                                      (Tr.leaf (r5_floor x, 0))))
                                  (Tr.br t12
                                    (Tr.br t13
                                      (Tr.br t4 (Tr.leaf (9218868437227405311, 5)) (Tr.leaf (9218868437227405312, 5)))
                                      (Tr.leaf (r5_floor x, 0)))
                                    (Tr.br t13
                                      (Tr.br t4 (Tr.leaf (9218868437227405311, 5)) (Tr.leaf (9218868437227405312, 5)))
                                      (Tr.leaf (r5_floor x, 0)))))))))))
                    (Tr.ast t6
                      (Tr.ast t15
                        (Tr.ast t23
                          (Tr.br t30
                            (Tr.br t12
                              (Tr.br t25 (Tr.br t4 (Tr.leaf (9218868437227405311, 5)) (Tr.leaf (9218868437227405312, 5)))
                                (Tr.leaf (t8, 0)))
                              (Tr.br t13 (Tr.br t4 (Tr.leaf (9218868437227405311, 5)) (Tr.leaf (9218868437227405312, 5)))
                                (Tr.leaf (r5_floor x, 0))))
                            (Tr.br t26
                              (Tr.br t12
                                (Tr.br t11
                                  (Tr.br t25
                                    (Tr.br t4 (Tr.leaf (9218868437227405311, 5)) (Tr.leaf (9218868437227405312, 5)))
                                    (Tr.leaf (t8, 0)))
                                  (Tr.br t13
                                    (Tr.br t4 (Tr.leaf (9218868437227405311, 5)) (Tr.leaf (9218868437227405312, 5)))
                                    (Tr.leaf (r5_floor x, 0))))
                                (Tr.br t13
                                  (Tr.br t4 (Tr.leaf (9218868437227405311, 5)) (Tr.leaf (9218868437227405312, 5)))
                                  (Tr.leaf (r5_floor x, 0))))
                              (Tr.br t12
                                (Tr.br t13
                                  (Tr.br t4 (Tr.leaf (9218868437227405311, 5)) (Tr.leaf (9218868437227405312, 5)))
                                  (Tr.leaf (r5_floor x, 0)))
                                (Tr.br t13
                                  (Tr.br t4 (Tr.leaf (9218868437227405311, 5)) (Tr.leaf (9218868437227405312, 5)))
                                  (Tr.leaf (r5_floor x, 0)))))))))))
                (Tr.br t12
                  (Tr.br t13 (Tr.br t4 (Tr.leaf (9218868437227405311, 5)) (Tr.leaf (9218868437227405312, 5)))
                    (Tr.leaf (r5_floor x, 0)))
                  (Tr.br t13 (Tr.br t4 (Tr.leaf (9218868437227405311, 5)) (Tr.leaf (9218868437227405312, 5)))
                    (Tr.leaf (r5_floor x, 0))))))))))
def r5_Magnitude_t (x : RX) (mode : Int) : Tr (Int × Int) := r5_Magnitude_T r5_floor r5_floor_s r5_split r5_split_s r5_cmp r5_cmp_s r1_Of1 r1_Of1_s r1_Add r1_Add_s r1_Shl r1_Shl_s x mode
def r5_Magnitude (x : RX) (mode : Int) : Int × Int := (r5_Magnitude_t x mode).val
def r5_Magnitude_s (x : RX) (mode : Int) : Bool := (r5_Magnitude_t x mode).safe
def r5_Signed_T (r5_Magnitude : RX → Int → Int × Int) (r5_Magnitude_s : RX → Int → Bool) (r4_Of : Int → Bool → Int) (neg : Bool) (x : RX) (mode : Int) : Tr (Int × Int) :=
  Tr.br neg
    (Tr.br (mode == 1)
      (Tr.ast (r5_Magnitude_s x 2)
        (Tr.br neg (Tr.leaf (r4_Of (IntKind.i64.wrap (0 - (r5_Magnitude x 2).fst)) true, (r5_Magnitude x 2).snd))
          (Tr.leaf (r4_Of (r5_Magnitude x 2).fst false, (r5_Magnitude x 2).snd))))
      (Tr.br neg
        (Tr.br (mode == 2)
          (Tr.ast (r5_Magnitude_s x 1)
            (Tr.br neg (Tr.leaf (r4_Of (IntKind.i64.wrap (0 - (r5_Magnitude x 1).fst)) true, (r5_Magnitude x 1).snd))
              (Tr.leaf (r4_Of (r5_Magnitude x 1).fst false, (r5_Magnitude x 1).snd))))
          (Tr.ast (r5_Magnitude_s x mode)
            (Tr.br neg
              (Tr.leaf (r4_Of (IntKind.i64.wrap (0 - (r5_Magnitude x mode).fst)) true, (r5_Magnitude x mode).snd))
              (Tr.leaf (r4_Of (r5_Magnitude x mode).fst false, (r5_Magnitude x mode).snd)))))
        (Tr.ast (r5_Magnitude_s x mode)
          (Tr.br neg (Tr.leaf (r4_Of (IntKind.i64.wrap (0 - (r5_Magnitude x mode).fst)) true, (r5_Magnitude x mode).snd))
            (Tr.leaf (r4_Of (r5_Magnitude x mode).fst false, (r5_Magnitude x mode).snd))))))
    (Tr.br neg
      (Tr.br (mode == 2)
        (Tr.ast (r5_Magnitude_s x 1)
          (Tr.br neg (Tr.leaf (r4_Of (IntKind.i64.wrap (0 - (r5_Magnitude x 1).fst)) true, (r5_Magnitude x 1).snd))
            (Tr.leaf (r4_Of (r5_Magnitude x 1).fst false, (r5_Magnitude x 1).snd))))
        (Tr.ast (r5_Magnitude_s x mode)
          (Tr.br neg (Tr.leaf (r4_Of (IntKind.i64.wrap (0 - (r5_Magnitude x mode).fst)) true, (r5_Magnitude x mode).snd))
            (Tr.leaf (r4_Of (r5_Magnitude x mode).fst false, (r5_Magnitude x mode).snd)))))
      (Tr.ast (r5_Magnitude_s x mode)
        (Tr.br neg (Tr.leaf (r4_Of (IntKind.i64.wrap (0 - (r5_Magnitude x mode).fst)) true, (r5_Magnitude x mode).snd))
          (Tr.leaf (r4_Of (r5_Magnitude x mode).fst false, (r5_Magnitude x mode).snd)))))
def r5_Signed_t (neg : Bool) (x : RX) (mode : Int) : Tr (Int × Int) := r5_Signed_T r5_Magnitude r5_Magnitude_s r4_Of neg x mode
def r5_Signed (neg : Bool) (x : RX) (mode : Int) : Int × Int := (r5_Signed_t neg x mode).val
def r5_Signed_s (neg : Bool) (x : RX) (mode : Int) : Bool := (r5_Signed_t neg x mode).safe
def r5_Round_T (r1_Len : (List Bool) → Int) (r1_Len_s : (List Bool) → Bool) (r4_Of : Int → Bool → Int) (r5_Signed : Bool → RX → Int → Int × Int) (r5_Signed_s : Bool → RX → Int → Bool) (neg : Bool) (m : List Bool) (e : Int) (rest : Bool) (mode : Int) : Tr (Int × Int) :=
  Tr.ast (r1_Len_s m)
    (Tr.br (r1_Len m == 0) (Tr.leaf (r4_Of 0 neg, 0))
      (Tr.ast (decide (0 ≤ (some (r1_Len m)).getD (m.length : Int)) && decide ((some (r1_Len m)).getD (m.length : Int) ≤ (m.length : Int)))
        (Tr.br rest
          (Tr.ast
            (r5_Signed_s neg
              (RX.mk (List.take (((some (r1_Len m)).getD (m.length : Int)).toNat - Int.toNat 0) (List.drop (Int.toNat 0) m))
                [true] (imin (imax e (-5000)) 5000) (decide (r1_Len m ≥ 54)))
              mode)
            (Tr.leaf
              (r5_Signed neg
                (RX.mk (List.take (((some (r1_Len m)).getD (m.length : Int)).toNat - Int.toNat 0) (List.drop (Int.toNat 0) m))
                  [true] (imin (imax e (-5000)) 5000) (decide (r1_Len m ≥ 54)))
                mode)))
          (Tr.ast
            (r5_Signed_s neg
              (RX.mk (List.take (((some (r1_Len m)).getD (m.length : Int)).toNat - Int.toNat 0) (List.drop (Int.toNat 0) m))
                [true] (imin (imax e (-5000)) 5000) false)
              mode)
            (Tr.leaf
              (r5_Signed neg
                (RX.mk (List.take (((some (r1_Len m)).getD (m.length : Int)).toNat - Int.toNat 0) (List.drop (Int.toNat 0) m))
                  [true] (imin (imax e (-5000)) 5000) false)
                mode))))))
def r5_Round_t (neg : Bool) (m : List Bool) (e : Int) (rest : Bool) (mode : Int) : Tr (Int × Int) := r5_Round_T r1_Len r1_Len_s r4_Of r5_Signed r5_Signed_s neg m e rest mode
def r5_Round (neg : Bool) (m : List Bool) (e : Int) (rest : Bool) (mode : Int) : Int × Int := (r5_Round_t neg m e rest mode).val
def r5_Round_s (neg : Bool) (m : List Bool) (e : Int) (rest : Bool) (mode : Int) : Bool := (r5_Round_t neg m e rest mode).safe
end Go.Fb
