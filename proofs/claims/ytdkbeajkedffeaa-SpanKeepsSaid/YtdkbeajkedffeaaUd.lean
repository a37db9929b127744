/- Layer 5: what the functions compute, as definitions. Conditions: none. -/
import Derived.Test.YtdkbeajkedffeaaPd
namespace Go.Fb
open Go.Ev
def n_away_T  (x : RN) (mode : Int) : Tr (Bool) :=
  Tr.br (mode == 1) (Tr.br (!x.neg) (Tr.leaf true) (Tr.br (mode == 2) (Tr.leaf x.neg) (Tr.leaf false)))
    (Tr.br (mode == 2) (Tr.leaf x.neg) (Tr.leaf false))
def n_away_t (x : RN) (mode : Int) : Tr (Bool) := n_away_T  x mode
def n_away (x : RN) (mode : Int) : Bool := (n_away_t x mode).val
def n_towards_T  (x : RN) (mode : Int) : Tr (Bool) :=
  Tr.br (mode == 1) (Tr.br x.neg (Tr.leaf true) (Tr.br (mode == 2) (Tr.leaf !x.neg) (Tr.leaf false)))
    (Tr.br (mode == 2) (Tr.leaf !x.neg) (Tr.leaf false))
def n_towards_t (x : RN) (mode : Int) : Tr (Bool) := n_towards_T  x mode
def n_towards (x : RN) (mode : Int) : Bool := (n_towards_t x mode).val
def n_up_T (n_away : RN → Int → Bool) (n_towards : RN → Int → Bool) (x : RN) (mode : Int) (odd : Bool) (half : Bool) (rest : Bool) : Tr (Bool) :=
  Tr.br (n_away x mode) (Tr.br half (Tr.leaf true) (Tr.leaf rest))
    (Tr.br (n_towards x mode) (Tr.leaf false) (Tr.br half (Tr.br rest (Tr.leaf true) (Tr.leaf odd)) (Tr.leaf false)))
def n_up_t (x : RN) (mode : Int) (odd : Bool) (half : Bool) (rest : Bool) : Tr (Bool) := n_up_T n_away n_towards x mode odd half rest
def n_up (x : RN) (mode : Int) (odd : Bool) (half : Bool) (rest : Bool) : Bool := (n_up_t x mode odd half rest).val
def n_over_T (p_Inf : Bool → Int) (n_towards : RN → Int → Bool) (x : RN) (mode : Int) : Tr (Int × Int) :=
  Tr.br (n_towards x mode) (Tr.leaf (IntKind.u64.wrap (p_Inf x.neg - 1), 5)) (Tr.leaf (p_Inf x.neg, 5))
def n_over_t (x : RN) (mode : Int) : Tr (Int × Int) := n_over_T p_Inf n_towards x mode
def n_over (x : RN) (mode : Int) : Int × Int := (n_over_t x mode).val
def n_float_T (u2_Len : U2 → Int) (u2_Shr : U2 → Int → U2 × Bool) (u2_Shr_s : U2 → Int → Bool) (u2_Shl : U2 → Int → U2) (u2_Shl_s : U2 → Int → Bool) (n_up : RN → Int → Bool → Bool → Bool → Bool) (n_over : RN → Int → Int × Int) (p_Make : Bool → Int → Int → Int × Int) (x : RN) (mode : Int) : Tr (Int × Int) :=
  let t0 : Int := -1074;
  let t1 : Int := -1022;
  let t2 : Int := IntKind.i64.wrap (u2_Len x.m + x.e);
  let t3 : Int := imax (IntKind.i64.wrap (IntKind.i64.wrap (u2_Len x.m - 53) + x.e)) t0;
  let t4 : Int := IntKind.i64.wrap (t3 - x.e);
  let t5 : Bool := decide (t2 ≤ t1);
  let t6 : Int := IntKind.i64.wrap (t3 + 1);
  let t7 : Int := IntKind.i64.wrap (0 - t4);
  let t8 : Int := IntKind.i64.wrap (t4 - 1);
  let t9 : U2 × Bool := u2_Shr x.m t8;
  let t10 : Int := (u2_Shl x.m t7).lo;
  let t11 : Bool := t9.snd;
  let t12 : U2 := t9.fst;
  let t13 : Int := IntKind.i64.wrap (IntKind.i64.wrap (t3 - t0) + 1);
  let t14 : Int := shrI IntKind.u64 t10 1;
  let t15 : Bool := u2_Shr_s t12 1;
  let t16 : Int := bitsI BinOp.and IntKind.u64 t10 4503599627370495;
  let t17 : Int := (u2_Shr t12 1).fst.lo;
  let t18 : Int := IntKind.u64.wrap (t10 + 1);
  let t19 : Int := bitsI BinOp.and IntKind.u64 t14 4503599627370495;
  let t20 : Int := IntKind.i64.wrap (IntKind.i64.wrap (t6 - t0) + 1);
  let t21 : Bool := shrI IntKind.u64 t10 52 == 1;
  let t22 : Int := (p_Make x.neg 0 t16).fst;
  let t23 : Int := shrI IntKind.u64 t17 1;
  let t24 : Int := bitsI BinOp.and IntKind.u64 t17 4503599627370495;
  let t25 : Bool := bitsI BinOp.and IntKind.u64 t12.lo 1 == 1;
  let t26 : Int := shrI IntKind.u64 t18 1;
  let t27 : Int := bitsI BinOp.and IntKind.u64 t18 4503599627370495;
  let t28 : Bool := t17 == 9007199254740992;
  let t29 : Bool := decide (t3 > 971);
  let t30 : Bool := shrI IntKind.u64 t14 52 == 1;
  let t31 : Int := IntKind.u64.wrap (t17 + 1);
  let t32 : Int := (p_Make x.neg 0 t19).fst;
  let t33 : Int := bitsI BinOp.and IntKind.u64 t23 4503599627370495;
  let t34 : Int := bitsI BinOp.and IntKind.u64 t26 4503599627370495;
  let t35 : Bool := shrI IntKind.u64 t17 52 == 1;
  let t36 : Bool := bitsI BinOp.and IntKind.u64 t17 1 == 1;
  let t37 : Bool := shrI IntKind.u64 t18 52 == 1;
  let t38 : Int := (p_Make x.neg 0 t24).fst;
  let t39 : Int := (p_Make x.neg 0 t27).fst;
  let t40 : Int := shrI IntKind.u64 t31 1;
  let t41 : Int := bitsI BinOp.and IntKind.u64 t31 4503599627370495;
  let t42 : Bool := t31 == 9007199254740992;
  let t43 : Bool := shrI IntKind.u64 t23 52 == 1;
  let t44 : Bool := shrI IntKind.u64 t26 52 == 1;
  let t45 : Int := (p_Make x.neg 0 t33).fst;
  let t46 : Int := (p_Make x.neg 0 t34).fst;
  let t47 : Int := bitsI BinOp.and IntKind.u64 t40 4503599627370495;
  let t48 : Bool := shrI IntKind.u64 t31 52 == 1;
  let t49 : Int := (p_Make x.neg 0 t41).fst;
  let t50 : Bool := shrI IntKind.u64 t40 52 == 1;
  let t51 : Bool := decide (t6 > 971);
  let t52 : Int := (p_Make x.neg 0 t47).fst;
  let t53 : Int := (p_Make x.neg t13 t16).fst;
  let t54 : Int := (p_Make x.neg t13 t24).fst;
  let t55 : Int := (p_Make x.neg t13 t27).fst;
  let t56 : Int := (p_Make x.neg t20 t19).fst;
  let t57 : Int := (p_Make x.neg t13 t41).fst;
  let t58 : Int := (p_Make x.neg t20 t33).fst;
  let t59 : Int := (p_Make x.neg t20 t34).fst;
  let t60 : Int := (p_Make x.neg t20 t47).fst;
  Tr.br (decide (t4 > 0))
    (Tr.ast (u2_Shr_s x.m t8)
      (Tr.br x.rest
        (Tr.ast t15
          (Tr.br (n_up x mode t36 t25 true)
            (Tr.br t42
              (Tr.br t51 (Tr.leaf (n_over x mode))
                (Tr.br t25
                  (Tr.br t5 (Tr.br t50 (Tr.leaf (t60, 3)) (Tr.leaf (t52, 3)))
                    (Tr.br t50 (Tr.leaf (t60, 1)) (Tr.leaf (t52, 1))))
                  (Tr.br t5 (Tr.br t50 (Tr.leaf (t60, 3)) (Tr.leaf (t52, 3)))
                    (Tr.br t50 (Tr.leaf (t60, 1)) (Tr.leaf (t52, 1))))))
              (Tr.br t29 (Tr.leaf (n_over x mode))
                (Tr.br t25
                  (Tr.br t5 (Tr.br t48 (Tr.leaf (t57, 3)) (Tr.leaf (t49, 3)))
                    (Tr.br t48 (Tr.leaf (t57, 1)) (Tr.leaf (t49, 1))))
                  (Tr.br t5 (Tr.br t48 (Tr.leaf (t57, 3)) (Tr.leaf (t49, 3)))
                    (Tr.br t48 (Tr.leaf (t57, 1)) (Tr.leaf (t49, 1)))))))
            (Tr.br t28
              (Tr.br t51 (Tr.leaf (n_over x mode))
                (Tr.br t25
                  (Tr.br t5 (Tr.br t43 (Tr.leaf (t58, 3)) (Tr.leaf (t45, 3)))
                    (Tr.br t43 (Tr.leaf (t58, 1)) (Tr.leaf (t45, 1))))
                  (Tr.br t5 (Tr.br t43 (Tr.leaf (t58, 3)) (Tr.leaf (t45, 3)))
                    (Tr.br t43 (Tr.leaf (t58, 1)) (Tr.leaf (t45, 1))))))
              (Tr.br t29 (Tr.leaf (n_over x mode))
                (Tr.br t25
                  (Tr.br t5 (Tr.br t35 (Tr.leaf (t54, 3)) (Tr.leaf (t38, 3)))
                    (Tr.br t35 (Tr.leaf (t54, 1)) (Tr.leaf (t38, 1))))
                  (Tr.br t5 (Tr.br t35 (Tr.leaf (t54, 3)) (Tr.leaf (t38, 3)))
                    (Tr.br t35 (Tr.leaf (t54, 1)) (Tr.leaf (t38, 1)))))))))
        (Tr.ast t15
          (Tr.br (n_up x mode t36 t25 t11)
            (Tr.br t42
              (Tr.br t51 (Tr.leaf (n_over x mode))
                (Tr.br t25
                  (Tr.br t5 (Tr.br t50 (Tr.leaf (t60, 3)) (Tr.leaf (t52, 3)))
                    (Tr.br t50 (Tr.leaf (t60, 1)) (Tr.leaf (t52, 1))))
                  (Tr.br t11
                    (Tr.br t5 (Tr.br t50 (Tr.leaf (t60, 3)) (Tr.leaf (t52, 3)))
                      (Tr.br t50 (Tr.leaf (t60, 1)) (Tr.leaf (t52, 1))))
                    (Tr.br t50 (Tr.leaf (t60, 0)) (Tr.leaf (t52, 0))))))
              (Tr.br t29 (Tr.leaf (n_over x mode))
                (Tr.br t25
                  (Tr.br t5 (Tr.br t48 (Tr.leaf (t57, 3)) (Tr.leaf (t49, 3)))
                    (Tr.br t48 (Tr.leaf (t57, 1)) (Tr.leaf (t49, 1))))
                  (Tr.br t11
                    (Tr.br t5 (Tr.br t48 (Tr.leaf (t57, 3)) (Tr.leaf (t49, 3)))
                      (Tr.br t48 (Tr.leaf (t57, 1)) (Tr.leaf (t49, 1))))
                    (Tr.br t48 (Tr.leaf (t57, 0)) (Tr.leaf (t49, 0)))))))
            (Tr.br t28
              (Tr.br t51 (Tr.leaf (n_over x mode))
                (Tr.br t25
                  (Tr.br t5 (Tr.br t43 (Tr.leaf (t58, 3)) (Tr.leaf (t45, 3)))
                    (Tr.br t43 (Tr.leaf (t58, 1)) (Tr.leaf (t45, 1))))
                  (Tr.br t11
                    (Tr.br t5 (Tr.br t43 (Tr.leaf (t58, 3)) (Tr.leaf (t45, 3)))
                      (Tr.br t43 (Tr.leaf (t58, 1)) (Tr.leaf (t45, 1))))
                    (Tr.br t43 (Tr.leaf (t58, 0)) (Tr.leaf (t45, 0))))))
              (Tr.br t29 (Tr.leaf (n_over x mode))
                (Tr.br t25
                  (Tr.br t5 (Tr.br t35 (Tr.leaf (t54, 3)) (Tr.leaf (t38, 3)))
                    (Tr.br t35 (Tr.leaf (t54, 1)) (Tr.leaf (t38, 1))))
                  (Tr.br t11
                    (Tr.br t5 (Tr.br t35 (Tr.leaf (t54, 3)) (Tr.leaf (t38, 3)))
                      (Tr.br t35 (Tr.leaf (t54, 1)) (Tr.leaf (t38, 1))))
                    (Tr.br t35 (Tr.leaf (t54, 0)) (Tr.leaf (t38, 0)))))))))))
    (Tr.ast (u2_Shl_s x.m t7)
      (Tr.br (n_up x mode (bitsI BinOp.and IntKind.u64 t10 1 == 1) false x.rest)
        (Tr.br (t18 == 9007199254740992)
          (Tr.br t51 (Tr.leaf (n_over x mode))
            (Tr.br x.rest
              (Tr.br t5 (Tr.br t44 (Tr.leaf (t59, 3)) (Tr.leaf (t46, 3)))
                (Tr.br t44 (Tr.leaf (t59, 1)) (Tr.leaf (t46, 1))))
              (Tr.br t44 (Tr.leaf (t59, 0)) (Tr.leaf (t46, 0)))))
          (Tr.br t29 (Tr.leaf (n_over x mode))
            (Tr.br x.rest
              (Tr.br t5 (Tr.br t37 (Tr.leaf (t55, 3)) (Tr.leaf (t39, 3)))
                (Tr.br t37 (Tr.leaf (t55, 1)) (Tr.leaf (t39, 1))))
              (Tr.br t37 (Tr.leaf (t55, 0)) (Tr.leaf (t39, 0))))))
        (Tr.br (t10 == 9007199254740992)
          (Tr.br t51 (Tr.leaf (n_over x mode))
            (Tr.br x.rest
              (Tr.br t5 (Tr.br t30 (Tr.leaf (t56, 3)) (Tr.leaf (t32, 3)))
                (Tr.br t30 (Tr.leaf (t56, 1)) (Tr.leaf (t32, 1))))
              (Tr.br t30 (Tr.leaf (t56, 0)) (Tr.leaf (t32, 0)))))
          (Tr.br t29 (Tr.leaf (n_over x mode))
            (Tr.br x.rest
              (Tr.br t5 (Tr.br t21 (Tr.leaf (t53, 3)) (Tr.leaf (t22, 3)))
                (Tr.br t21 (Tr.leaf (t53, 1)) (Tr.leaf (t22, 1))))
              (Tr.br t21 (Tr.leaf (t53, 0)) (Tr.leaf (t22, 0))))))))
def n_float_t (x : RN) (mode : Int) : Tr (Int × Int) := n_float_T u2_Len u2_Shr u2_Shr_s u2_Shl u2_Shl_s n_up n_over p_Make x mode
def n_float (x : RN) (mode : Int) : Int × Int := (n_float_t x mode).val
def n_float_s (x : RN) (mode : Int) : Bool := (n_float_t x mode).safe
def n_Round_T (u2_Len : U2 → Int) (p_Make : Bool → Int → Int → Int × Int) (n_float : RN → Int → Int × Int) (n_float_s : RN → Int → Bool) (neg : Bool) (m : U2) (e : Int) (rest : Bool) (mode : Int) : Tr (Int × Int) :=
  Tr.br (u2_Len m == 0) (Tr.leaf ((p_Make neg 0 0).fst, 0))
    (Tr.br rest
      (Tr.ast (n_float_s (RN.mk neg m (imin (imax e (-5000)) 5000) (decide (u2_Len m > 53))) mode)
        (Tr.leaf (n_float (RN.mk neg m (imin (imax e (-5000)) 5000) (decide (u2_Len m > 53))) mode)))
      (Tr.ast (n_float_s (RN.mk neg m (imin (imax e (-5000)) 5000) false) mode)
        (Tr.leaf (n_float (RN.mk neg m (imin (imax e (-5000)) 5000) false) mode))))
def n_Round_t (neg : Bool) (m : U2) (e : Int) (rest : Bool) (mode : Int) : Tr (Int × Int) := n_Round_T u2_Len p_Make n_float n_float_s neg m e rest mode
def n_Round (neg : Bool) (m : U2) (e : Int) (rest : Bool) (mode : Int) : Int × Int := (n_Round_t neg m e rest mode).val
def n_Round_s (neg : Bool) (m : U2) (e : Int) (rest : Bool) (mode : Int) : Bool := (n_Round_t neg m e rest mode).safe
end Go.Fb
