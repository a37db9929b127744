/- Layer 6: what the functions compute, as definitions. Conditions: none. -/
import Derived.Test.YtdkbeajkedffeaaGreatUd
namespace Go.Fb
open Go.Ev
def s_of_T (p_Split : Int → Int × Int) (p_Class : Int → Int) (f : Int) : Tr (SN) :=
  Tr.leaf (SN.mk f (p_Class f) (shrI IntKind.u64 f 63 == 1) (p_Split f).fst (p_Split f).snd)
def s_of_t (f : Int) : Tr (SN) := s_of_T p_Split p_Class f
def s_of (f : Int) : SN := (s_of_t f).val
def s_either_T  (a : SN) (b : SN) (c : Int) : Tr (Bool) :=
  Tr.br (a.c == c) (Tr.leaf true) (Tr.leaf (b.c == c))
def s_either_t (a : SN) (b : SN) (c : Int) : Tr (Bool) := s_either_T  a b c
def s_either (a : SN) (b : SN) (c : Int) : Bool := (s_either_t a b c).val
def s_zero_T (p_Make : Bool → Int → Int → Int × Int) (neg : Bool) : Tr (Int) :=
  Tr.leaf (p_Make neg 0 0).fst
def s_zero_t (neg : Bool) : Tr (Int) := s_zero_T p_Make neg
def s_zero (neg : Bool) : Int := (s_zero_t neg).val
def s_invalid_T (p_Quiet : Int)  : Tr (Int × Int) :=
  Tr.leaf (p_Quiet, 16)
def s_invalid_t  : Tr (Int × Int) := s_invalid_T p_Quiet 
def s_invalid  : Int × Int := (s_invalid_t ).val
def s_add_T (u2_Shl : U2 → Int → U2) (u2_Shl_s : U2 → Int → Bool) (u2_Shr : U2 → Int → U2 × Bool) (u2_Shr_s : U2 → Int → Bool) (u2_Add : U2 → U2 → U2 × Int) (u2_Add_s : U2 → U2 → Bool) (u2_Sub : U2 → U2 → U2 × Int) (u2_Sub_s : U2 → U2 → Bool) (s_zero : Bool → Int) (n_Round : Bool → U2 → Int → Bool → Int → Int × Int) (n_Round_s : Bool → U2 → Int → Bool → Int → Bool) (x : SN) (y : SN) (mode : Int) : Tr (Int × Int) :=
  Tr.ast (u2_Shl_s (U2.mk 0 x.m) 70)
    (Tr.ast (u2_Shl_s (U2.mk 0 y.m) 70)
      (Tr.ast (u2_Shr_s (u2_Shl (U2.mk 0 y.m) 70) (IntKind.i64.wrap (x.e - y.e)))
        (Tr.br (x.neg == y.neg)
          (Tr.ast
            (u2_Add_s (u2_Shl (U2.mk 0 x.m) 70) (u2_Shr (u2_Shl (U2.mk 0 y.m) 70) (IntKind.i64.wrap (x.e - y.e))).fst)
            (Tr.ast
              (n_Round_s x.neg
                (u2_Add (u2_Shl (U2.mk 0 x.m) 70)
                    (u2_Shr (u2_Shl (U2.mk 0 y.m) 70) (IntKind.i64.wrap (x.e - y.e))).fst).fst
                (IntKind.i64.wrap (x.e - 70)) (u2_Shr (u2_Shl (U2.mk 0 y.m) 70) (IntKind.i64.wrap (x.e - y.e))).snd mode)
              (Tr.leaf
                (n_Round x.neg
                  (u2_Add (u2_Shl (U2.mk 0 x.m) 70)
                      (u2_Shr (u2_Shl (U2.mk 0 y.m) 70) (IntKind.i64.wrap (x.e - y.e))).fst).fst
                  (IntKind.i64.wrap (x.e - 70)) (u2_Shr (u2_Shl (U2.mk 0 y.m) 70) (IntKind.i64.wrap (x.e - y.e))).snd
                  mode))))
          (Tr.ast
            (u2_Sub_s (u2_Shl (U2.mk 0 x.m) 70) (u2_Shr (u2_Shl (U2.mk 0 y.m) 70) (IntKind.i64.wrap (x.e - y.e))).fst)
            (Tr.br
              ((u2_Sub (u2_Shl (U2.mk 0 x.m) 70)
                        (u2_Shr (u2_Shl (U2.mk 0 y.m) 70) (IntKind.i64.wrap (x.e - y.e))).fst).fst.hi ==
                  0 &&
                ((u2_Sub (u2_Shl (U2.mk 0 x.m) 70)
                          (u2_Shr (u2_Shl (U2.mk 0 y.m) 70) (IntKind.i64.wrap (x.e - y.e))).fst).fst.lo ==
                    0 &&
                  true))
              (Tr.leaf (s_zero (mode == 2), 0))
              (Tr.br (u2_Shr (u2_Shl (U2.mk 0 y.m) 70) (IntKind.i64.wrap (x.e - y.e))).snd
                (Tr.ast
                  (u2_Sub_s
                    (u2_Sub (u2_Shl (U2.mk 0 x.m) 70)
                        (u2_Shr (u2_Shl (U2.mk 0 y.m) 70) (IntKind.i64.wrap (x.e - y.e))).fst).fst
                    (U2.mk 0 1))
                  (Tr.ast
                    (n_Round_s x.neg
                      (u2_Sub
                          (u2_Sub (u2_Shl (U2.mk 0 x.m) 70)
                              (u2_Shr (u2_Shl (U2.mk 0 y.m) 70) (IntKind.i64.wrap (x.e - y.e))).fst).fst
                          (U2.mk 0 1)).fst
                      (IntKind.i64.wrap (x.e - 70)) (u2_Shr (u2_Shl (U2.mk 0 y.m) 70) (IntKind.i64.wrap (x.e - y.e))).snd
                      mode)
                    (Tr.leaf
                      (n_Round x.neg
                        (u2_Sub
                            (u2_Sub (u2_Shl (U2.mk 0 x.m) 70)
                                (u2_Shr (u2_Shl (U2.mk 0 y.m) 70) (IntKind.i64.wrap (x.e - y.e))).fst).fst
                            (U2.mk 0 1)).fst
                        (IntKind.i64.wrap (x.e - 70))
                        (u2_Shr (u2_Shl (U2.mk 0 y.m) 70) (IntKind.i64.wrap (x.e - y.e))).snd mode))))
                (Tr.ast
                  (n_Round_s x.neg
                    (u2_Sub (u2_Shl (U2.mk 0 x.m) 70)
                        (u2_Shr (u2_Shl (U2.mk 0 y.m) 70) (IntKind.i64.wrap (x.e - y.e))).fst).fst
                    (IntKind.i64.wrap (x.e - 70)) (u2_Shr (u2_Shl (U2.mk 0 y.m) 70) (IntKind.i64.wrap (x.e - y.e))).snd
                    mode)
                  (Tr.leaf
                    (n_Round x.neg
                      (u2_Sub (u2_Shl (U2.mk 0 x.m) 70)
                          (u2_Shr (u2_Shl (U2.mk 0 y.m) 70) (IntKind.i64.wrap (x.e - y.e))).fst).fst
                      (IntKind.i64.wrap (x.e - 70)) (u2_Shr (u2_Shl (U2.mk 0 y.m) 70) (IntKind.i64.wrap (x.e - y.e))).snd
                      mode)))))))))
def s_add_t (x : SN) (y : SN) (mode : Int) : Tr (Int × Int) := s_add_T u2_Shl u2_Shl_s u2_Shr u2_Shr_s u2_Add u2_Add_s u2_Sub u2_Sub_s s_zero n_Round n_Round_s x y mode
def s_add (x : SN) (y : SN) (mode : Int) : Int × Int := (s_add_t x y mode).val
def s_add_s (x : SN) (y : SN) (mode : Int) : Bool := (s_add_t x y mode).safe
def s_Add_T (s_of : Int → SN) (s_either : SN → SN → Int → Bool) (p_Quiet : Int) (s_invalid : (Int × Int)) (s_zero : Bool → Int) (s_add : SN → SN → Int → Int × Int) (s_add_s : SN → SN → Int → Bool) (a : Int) (b : Int) (mode : Int) : Tr (Int × Int) :=
  let t0 : Bool := (s_of a).neg == (s_of b).neg;
  let t1 : Bool := (s_of b).c == 3;
  let t2 : Bool := (s_of a).m == 0;
  let t3 : Bool := (s_of a).c == 3;
  let t4 : Bool := (s_of b).m == 0;
  Tr.br (s_either (s_of a) (s_of b) 4) (Tr.leaf (p_Quiet, 0))
    (Tr.br t3
      (Tr.br t1
        (Tr.br (!t0) (Tr.leaf s_invalid)
          (Tr.br t3 (Tr.leaf (a, 0))
            (Tr.br t1 (Tr.leaf (b, 0))
              (Tr.br t2
                (Tr.br t4
                  (Tr.br t0 (Tr.leaf (a, 0))
                    (Tr.br t2
                      (Tr.br t4 (Tr.leaf (s_zero (mode == 2), 0))
                        (Tr.br t2 (Tr.leaf (b, 0))
                          (Tr.br t4 (Tr.leaf (a, 0))
                            (Tr.br (decide ((s_of a).e < (s_of b).e))
                              (Tr.ast (s_add_s (s_of b) (s_of a) mode) (Tr.leaf (s_add (s_of b) (s_of a) mode)))
                              (Tr.br ((s_of a).e == (s_of b).e)
                                (Tr.br (decide ((s_of a).m < (s_of b).m))
                                  (Tr.ast (s_add_s (s_of b) (s_of a) mode) (Tr.leaf (s_add (s_of b) (s_of a) mode)))
                                  (Tr.ast (s_add_s (s_of a) (s_of b) mode) (Tr.leaf (s_add (s_of a) (s_of b) mode))))
                                (Tr.ast (s_add_s (s_of a) (s_of b) mode) (Tr.leaf (s_add (s_of a) (s_of b) mode))))))))
                      (Tr.br t2 (Tr.leaf (b, 0))
                        (Tr.br t4 (Tr.leaf (a, 0))
                          (Tr.br (decide ((s_of a).e < (s_of b).e))
                            (Tr.ast (s_add_s (s_of b) (s_of a) mode) (Tr.leaf (s_add (s_of b) (s_of a) mode)))
                            (Tr.br ((s_of a).e == (s_of b).e)
                              (Tr.br (decide ((s_of a).m < (s_of b).m))
                                (Tr.ast (s_add_s (s_of b) (s_of a) mode) (Tr.leaf (s_add (s_of b) (s_of a) mode)))
                                (Tr.ast (s_add_s (s_of a) (s_of b) mode) (Tr.leaf (s_add (s_of a) (s_of b) mode))))
                              (Tr.ast (s_add_s (s_of a) (s_of b) mode) (Tr.leaf (s_add (s_of a) (s_of b) mode)))))))))
                  (Tr.br t2
                    (Tr.br t4 (Tr.leaf (s_zero (mode == 2), 0))
                      (Tr.br t2 (Tr.leaf (b, 0))
                        (Tr.br t4 (Tr.leaf (a, 0))
                          (Tr.br (decide ((s_of a).e < (s_of b).e))
                            (Tr.ast (s_add_s (s_of b) (s_of a) mode) (Tr.leaf (s_add (s_of b) (s_of a) mode)))
                            (Tr.br ((s_of a).e == (s_of b).e)
                              (Tr.br (decide ((s_of a).m < (s_of b).m))
                                (Tr.ast (s_add_s (s_of b) (s_of a) mode) (Tr.leaf (s_add (s_of b) (s_of a) mode)))
                                (Tr.ast (s_add_s (s_of a) (s_of b) mode) (Tr.leaf (s_add (s_of a) (s_of b) mode))))
                              (Tr.ast (s_add_s (s_of a) (s_of b) mode) (Tr.leaf (s_add (s_of a) (s_of b) mode))))))))
                    (Tr.br t2 (Tr.leaf (b, 0))
                      (Tr.br t4 (Tr.leaf (a, 0))
                        (Tr.br (decide ((s_of a).e < (s_of b).e))
                          (Tr.ast (s_add_s (s_of b) (s_of a) mode) (Tr.leaf (s_add (s_of b) (s_of a) mode)))
                          (Tr.br ((s_of a).e == (s_of b).e)
                            (Tr.br (decide ((s_of a).m < (s_of b).m))
                              (Tr.ast (s_add_s (s_of b) (s_of a) mode) (Tr.leaf (s_add (s_of b) (s_of a) mode)))
                              (Tr.ast (s_add_s (s_of a) (s_of b) mode) (Tr.leaf (s_add (s_of a) (s_of b) mode))))
                            (Tr.ast (s_add_s (s_of a) (s_of b) mode) (Tr.leaf (s_add (s_of a) (s_of b) mode)))))))))
                (Tr.br t2
                  (Tr.br t4 (Tr.leaf (s_zero (mode == 2), 0))
                    (Tr.br t2 (Tr.leaf (b, 0))
                      (Tr.br t4 (Tr.leaf (a, 0))
                        (Tr.br (decide ((s_of a).e < (s_of b).e))
                          (Tr.ast (s_add_s (s_of b) (s_of a) mode) (Tr.leaf (s_add (s_of b) (s_of a) mode)))
                          (Tr.br ((s_of a).e == (s_of b).e)
                            (Tr.br (decide ((s_of a).m < (s_of b).m))
                              (Tr.ast (s_add_s (s_of b) (s_of a) mode) (Tr.leaf (s_add (s_of b) (s_of a) mode)))
                              (Tr.ast (s_add_s (s_of a) (s_of b) mode) (Tr.leaf (s_add (s_of a) (s_of b) mode))))
                            (Tr.ast (s_add_s (s_of a) (s_of b) mode) (Tr.leaf (s_add (s_of a) (s_of b) mode))))))))
                  (Tr.br t2 (Tr.leaf (b, 0))
                    (Tr.br t4 (Tr.leaf (a, 0))
                      (Tr.br (decide ((s_of a).e < (s_of b).e))
                        (Tr.ast (s_add_s (s_of b) (s_of a) mode) (Tr.leaf (s_add (s_of b) (s_of a) mode)))
                        (Tr.br ((s_of a).e == (s_of b).e)
                          (Tr.br (decide ((s_of a).m < (s_of b).m))
                            (Tr.ast (s_add_s (s_of b) (s_of a) mode) (Tr.leaf (s_add (s_of b) (s_of a) mode)))
                            (Tr.ast (s_add_s (s_of a) (s_of b) mode) (Tr.leaf (s_add (s_of a) (s_of b) mode))))
                          (Tr.ast (s_add_s (s_of a) (s_of b) mode) (Tr.leaf (s_add (s_of a) (s_of b) mode))))))))))))
        (Tr.br t3 (Tr.leaf (a, 0))
          (Tr.br t1 (Tr.leaf (b, 0))
            (Tr.br t2
              (Tr.br t4
                (Tr.br t0 (Tr.leaf (a, 0))
                  (Tr.br t2
                    (Tr.br t4 (Tr.leaf (s_zero (mode == 2), 0))
                      (Tr.br t2 (Tr.leaf (b, 0))
                        (Tr.br t4 (Tr.leaf (a, 0))
                          (Tr.br (decide ((s_of a).e < (s_of b).e))
                            (Tr.ast (s_add_s (s_of b) (s_of a) mode) (Tr.leaf (s_add (s_of b) (s_of a) mode)))
                            (Tr.br ((s_of a).e == (s_of b).e)
                              (Tr.br (decide ((s_of a).m < (s_of b).m))
                                (Tr.ast (s_add_s (s_of b) (s_of a) mode) (Tr.leaf (s_add (s_of b) (s_of a) mode)))
                                (Tr.ast (s_add_s (s_of a) (s_of b) mode) (Tr.leaf (s_add (s_of a) (s_of b) mode))))
                              (Tr.ast (s_add_s (s_of a) (s_of b) mode) (Tr.leaf (s_add (s_of a) (s_of b) mode))))))))
                    (Tr.br t2 (Tr.leaf (b, 0))
                      (Tr.br t4 (Tr.leaf (a, 0))
                        (Tr.br (decide ((s_of a).e < (s_of b).e))
                          (Tr.ast (s_add_s (s_of b) (s_of a) mode) (Tr.leaf (s_add (s_of b) (s_of a) mode)))
                          (Tr.br ((s_of a).e == (s_of b).e)
                            (Tr.br (decide ((s_of a).m < (s_of b).m))
                              (Tr.ast (s_add_s (s_of b) (s_of a) mode) (Tr.leaf (s_add (s_of b) (s_of a) mode)))
                              (Tr.ast (s_add_s (s_of a) (s_of b) mode) (Tr.leaf (s_add (s_of a) (s_of b) mode))))
                            (Tr.ast (s_add_s (s_of a) (s_of b) mode) (Tr.leaf (s_add (s_of a) (s_of b) mode)))))))))
                (Tr.br t2
                  (Tr.br t4 (Tr.leaf (s_zero (mode == 2), 0))
                    (Tr.br t2 (Tr.leaf (b, 0))
                      (Tr.br t4 (Tr.leaf (a, 0))
                        (Tr.br (decide ((s_of a).e < (s_of b).e))
                          (Tr.ast (s_add_s (s_of b) (s_of a) mode) (Tr.leaf (s_add (s_of b) (s_of a) mode)))
                          (Tr.br ((s_of a).e == (s_of b).e)
                            (Tr.br (decide ((s_of a).m < (s_of b).m))
                              (Tr.ast (s_add_s (s_of b) (s_of a) mode) (Tr.leaf (s_add (s_of b) (s_of a) mode)))
                              (Tr.ast (s_add_s (s_of a) (s_of b) mode) (Tr.leaf (s_add (s_of a) (s_of b) mode))))
                            (Tr.ast (s_add_s (s_of a) (s_of b) mode) (Tr.leaf (s_add (s_of a) (s_of b) mode))))))))
                  (Tr.br t2 (Tr.leaf (b, 0))
                    (Tr.br t4 (Tr.leaf (a, 0))
                      (Tr.br (decide ((s_of a).e < (s_of b).e))
                        (Tr.ast (s_add_s (s_of b) (s_of a) mode) (Tr.leaf (s_add (s_of b) (s_of a) mode)))
                        (Tr.br ((s_of a).e == (s_of b).e)
                          (Tr.br (decide ((s_of a).m < (s_of b).m))
                            (Tr.ast (s_add_s (s_of b) (s_of a) mode) (Tr.leaf (s_add (s_of b) (s_of a) mode)))
                            (Tr.ast (s_add_s (s_of a) (s_of b) mode) (Tr.leaf (s_add (s_of a) (s_of b) mode))))
                          (Tr.ast (s_add_s (s_of a) (s_of b) mode) (Tr.leaf (s_add (s_of a) (s_of b) mode)))))))))
              (Tr.br t2
                (Tr.br t4 (Tr.leaf (s_zero (mode == 2), 0))
                  (Tr.br t2 (Tr.leaf (b, 0))
                    (Tr.br t4 (Tr.leaf (a, 0))
                      (Tr.br (decide ((s_of a).e < (s_of b).e))
                        (Tr.ast (s_add_s (s_of b) (s_of a) mode) (Tr.leaf (s_add (s_of b) (s_of a) mode)))
                        (Tr.br ((s_of a).e == (s_of b).e)
                          (Tr.br (decide ((s_of a).m < (s_of b).m))
                            (Tr.ast (s_add_s (s_of b) (s_of a) mode) (Tr.leaf (s_add (s_of b) (s_of a) mode)))
                            (Tr.ast (s_add_s (s_of a) (s_of b) mode) (Tr.leaf (s_add (s_of a) (s_of b) mode))))
                          (Tr.ast (s_add_s (s_of a) (s_of b) mode) (Tr.leaf (s_add (s_of a) (s_of b) mode))))))))
                (Tr.br t2 (Tr.leaf (b, 0))
                  (Tr.br t4 (Tr.leaf (a, 0))
                    (Tr.br (decide ((s_of a).e < (s_of b).e))
                      (Tr.ast (s_add_s (s_of b) (s_of a) mode) (Tr.leaf (s_add (s_of b) (s_of a) mode)))
                      (Tr.br ((s_of a).e == (s_of b).e)
                        (Tr.br (decide ((s_of a).m < (s_of b).m))
                          (Tr.ast (s_add_s (s_of b) (s_of a) mode) (Tr.leaf (s_add (s_of b) (s_of a) mode)))
                          (Tr.ast (s_add_s (s_of a) (s_of b) mode) (Tr.leaf (s_add (s_of a) (s_of b) mode))))
                        (Tr.ast (s_add_s (s_of a) (s_of b) mode) (Tr.leaf (s_add (s_of a) (s_of b) mode))))))))))))
      (Tr.br t3 (Tr.leaf (a, 0))
        (Tr.br t1 (Tr.leaf (b, 0))
          (Tr.br t2
            (Tr.br t4
              (Tr.br t0 (Tr.leaf (a, 0))
                (Tr.br t2
                  (Tr.br t4 (Tr.leaf (s_zero (mode == 2), 0))
                    (Tr.br t2 (Tr.leaf (b, 0))
                      (Tr.br t4 (Tr.leaf (a, 0))
                        (Tr.br (decide ((s_of a).e < (s_of b).e))
                          (Tr.ast (s_add_s (s_of b) (s_of a) mode) (Tr.leaf (s_add (s_of b) (s_of a) mode)))
                          (Tr.br ((s_of a).e == (s_of b).e)
                            (Tr.br (decide ((s_of a).m < (s_of b).m))
                              (Tr.ast (s_add_s (s_of b) (s_of a) mode) (Tr.leaf (s_add (s_of b) (s_of a) mode)))
                              (Tr.ast (s_add_s (s_of a) (s_of b) mode) (Tr.leaf (s_add (s_of a) (s_of b) mode))))
                            (Tr.ast (s_add_s (s_of a) (s_of b) mode) (Tr.leaf (s_add (s_of a) (s_of b) mode))))))))
                  (Tr.br t2 (Tr.leaf (b, 0))
                    (Tr.br t4 (Tr.leaf (a, 0))
                      (Tr.br (decide ((s_of a).e < (s_of b).e))
                        (Tr.ast (s_add_s (s_of b) (s_of a) mode) (Tr.leaf (s_add (s_of b) (s_of a) mode)))
                        (Tr.br ((s_of a).e == (s_of b).e)
                          (Tr.br (decide ((s_of a).m < (s_of b).m))
                            (Tr.ast (s_add_s (s_of b) (s_of a) mode) (Tr.leaf (s_add (s_of b) (s_of a) mode)))
                            (Tr.ast (s_add_s (s_of a) (s_of b) mode) (Tr.leaf (s_add (s_of a) (s_of b) mode))))
                          (Tr.ast (s_add_s (s_of a) (s_of b) mode) (Tr.leaf (s_add (s_of a) (s_of b) mode)))))))))
              (Tr.br t2
                (Tr.br t4 (Tr.leaf (s_zero (mode == 2), 0))
                  (Tr.br t2 (Tr.leaf (b, 0))
                    (Tr.br t4 (Tr.leaf (a, 0))
                      (Tr.br (decide ((s_of a).e < (s_of b).e))
                        (Tr.ast (s_add_s (s_of b) (s_of a) mode) (Tr.leaf (s_add (s_of b) (s_of a) mode)))
                        (Tr.br ((s_of a).e == (s_of b).e)
                          (Tr.br (decide ((s_of a).m < (s_of b).m))
                            (Tr.ast (s_add_s (s_of b) (s_of a) mode) (Tr.leaf (s_add (s_of b) (s_of a) mode)))
                            (Tr.ast (s_add_s (s_of a) (s_of b) mode) (Tr.leaf (s_add (s_of a) (s_of b) mode))))
                          (Tr.ast (s_add_s (s_of a) (s_of b) mode) (Tr.leaf (s_add (s_of a) (s_of b) mode))))))))
                (Tr.br t2 (Tr.leaf (b, 0))
                  (Tr.br t4 (Tr.leaf (a, 0))
                    (Tr.br (decide ((s_of a).e < (s_of b).e))
                      (Tr.ast (s_add_s (s_of b) (s_of a) mode) (Tr.leaf (s_add (s_of b) (s_of a) mode)))
                      (Tr.br ((s_of a).e == (s_of b).e)
                        (Tr.br (decide ((s_of a).m < (s_of b).m))
                          (Tr.ast (s_add_s (s_of b) (s_of a) mode) (Tr.leaf (s_add (s_of b) (s_of a) mode)))
                          (Tr.ast (s_add_s (s_of a) (s_of b) mode) (Tr.leaf (s_add (s_of a) (s_of b) mode))))
                        (Tr.ast (s_add_s (s_of a) (s_of b) mode) (Tr.leaf (s_add (s_of a) (s_of b) mode)))))))))
            (Tr.br t2
              (Tr.br t4 (Tr.leaf (s_zero (mode == 2), 0))
                (Tr.br t2 (Tr.leaf (b, 0))
                  (Tr.br t4 (Tr.leaf (a, 0))
                    (Tr.br (decide ((s_of a).e < (s_of b).e))
                      (Tr.ast (s_add_s (s_of b) (s_of a) mode) (Tr.leaf (s_add (s_of b) (s_of a) mode)))
                      (Tr.br ((s_of a).e == (s_of b).e)
                        (Tr.br (decide ((s_of a).m < (s_of b).m))
                          (Tr.ast (s_add_s (s_of b) (s_of a) mode) (Tr.leaf (s_add (s_of b) (s_of a) mode)))
                          (Tr.ast (s_add_s (s_of a) (s_of b) mode) (Tr.leaf (s_add (s_of a) (s_of b) mode))))
                        (Tr.ast (s_add_s (s_of a) (s_of b) mode) (Tr.leaf (s_add (s_of a) (s_of b) mode))))))))
              (Tr.br t2 (Tr.leaf (b, 0))
                (Tr.br t4 (Tr.leaf (a, 0))
                  (Tr.br (decide ((s_of a).e < (s_of b).e))
                    (Tr.ast (s_add_s (s_of b) (s_of a) mode) (Tr.leaf (s_add (s_of b) (s_of a) mode)))
                    (Tr.br ((s_of a).e == (s_of b).e)
                      (Tr.br (decide ((s_of a).m < (s_of b).m))
                        (Tr.ast (s_add_s (s_of b) (s_of a) mode) (Tr.leaf (s_add (s_of b) (s_of a) mode)))
                        (Tr.ast (s_add_s (s_of a) (s_of b) mode) (Tr.leaf (s_add (s_of a) (s_of b) mode))))
                      (Tr.ast (s_add_s (s_of a) (s_of b) mode) (Tr.leaf (s_add (s_of a) (s_of b) mode))))))))))))
def s_Add_t (a : Int) (b : Int) (mode : Int) : Tr (Int × Int) := s_Add_T s_of s_either p_Quiet s_invalid s_zero s_add s_add_s a b mode
def s_Add (a : Int) (b : Int) (mode : Int) : Int × Int := (s_Add_t a b mode).val
def s_Add_s (a : Int) (b : Int) (mode : Int) : Bool := (s_Add_t a b mode).safe
def s_Sub_T (p_Neg : Int → Int) (s_Add : Int → Int → Int → Int × Int) (s_Add_s : Int → Int → Int → Bool) (a : Int) (b : Int) (mode : Int) : Tr (Int × Int) :=
  Tr.ast (s_Add_s a (p_Neg b) mode) (Tr.leaf (s_Add a (p_Neg b) mode))
def s_Sub_t (a : Int) (b : Int) (mode : Int) : Tr (Int × Int) := s_Sub_T p_Neg s_Add s_Add_s a b mode
def s_Sub (a : Int) (b : Int) (mode : Int) : Int × Int := (s_Sub_t a b mode).val
def s_Sub_s (a : Int) (b : Int) (mode : Int) : Bool := (s_Sub_t a b mode).safe
def s_Mul_T (s_of : Int → SN) (s_either : SN → SN → Int → Bool) (p_Quiet : Int) (s_invalid : (Int × Int)) (p_Inf : Bool → Int) (wide_Mul : Int → Int → U2) (n_Round : Bool → U2 → Int → Bool → Int → Int × Int) (n_Round_s : Bool → U2 → Int → Bool → Int → Bool) (a : Int) (b : Int) (mode : Int) : Tr (Int × Int) :=
  Tr.br (s_either (s_of a) (s_of b) 4) (Tr.leaf (p_Quiet, 0))
    (Tr.br (s_either (s_of a) (s_of b) 3)
      (Tr.br (s_either (s_of a) (s_of b) 0) (Tr.leaf s_invalid)
        (Tr.br (s_either (s_of a) (s_of b) 3) (Tr.leaf (p_Inf !(s_of a).neg == (s_of b).neg, 0))
          (Tr.ast
            (n_Round_s (!(s_of a).neg == (s_of b).neg) (wide_Mul (s_of a).m (s_of b).m)
              (IntKind.i64.wrap ((s_of a).e + (s_of b).e)) false mode)
            (Tr.leaf
              (n_Round (!(s_of a).neg == (s_of b).neg) (wide_Mul (s_of a).m (s_of b).m)
                (IntKind.i64.wrap ((s_of a).e + (s_of b).e)) false mode)))))
      (Tr.br (s_either (s_of a) (s_of b) 3) (Tr.leaf (p_Inf !(s_of a).neg == (s_of b).neg, 0))
        (Tr.ast
          (n_Round_s (!(s_of a).neg == (s_of b).neg) (wide_Mul (s_of a).m (s_of b).m)
            (IntKind.i64.wrap ((s_of a).e + (s_of b).e)) false mode)
          (Tr.leaf
            (n_Round (!(s_of a).neg == (s_of b).neg) (wide_Mul (s_of a).m (s_of b).m)
              (IntKind.i64.wrap ((s_of a).e + (s_of b).e)) false mode)))))
def s_Mul_t (a : Int) (b : Int) (mode : Int) : Tr (Int × Int) := s_Mul_T s_of s_either p_Quiet s_invalid p_Inf wide_Mul n_Round n_Round_s a b mode
def s_Mul (a : Int) (b : Int) (mode : Int) : Int × Int := (s_Mul_t a b mode).val
def s_Mul_s (a : Int) (b : Int) (mode : Int) : Bool := (s_Mul_t a b mode).safe
def s_Div_T (s_of : Int → SN) (s_either : SN → SN → Int → Bool) (p_Quiet : Int) (s_invalid : (Int × Int)) (p_Inf : Bool → Int) (s_zero : Bool → Int) (u2_Len : U2 → Int) (u2_Div : U2 → Int → U2 × Int) (u2_Div_s : U2 → Int → Bool) (n_Round : Bool → U2 → Int → Bool → Int → Int × Int) (n_Round_s : Bool → U2 → Int → Bool → Int → Bool) (a : Int) (b : Int) (mode : Int) : Tr (Int × Int) :=
  Tr.br (s_either (s_of a) (s_of b) 4) (Tr.leaf (p_Quiet, 0))
    (Tr.br ((s_of a).c == (s_of b).c)
      (Tr.br ((s_of a).c == 3) (Tr.leaf s_invalid)
        (Tr.br ((s_of a).c == 0) (Tr.leaf s_invalid)
          (Tr.br ((s_of a).c == 3) (Tr.leaf (p_Inf !(s_of a).neg == (s_of b).neg, 0))
            (Tr.br ((s_of b).c == 0) (Tr.leaf (p_Inf !(s_of a).neg == (s_of b).neg, 8))
              (Tr.br ((s_of a).c == 0) (Tr.leaf (s_zero !(s_of a).neg == (s_of b).neg, 0))
                (Tr.br ((s_of b).c == 3) (Tr.leaf (s_zero !(s_of a).neg == (s_of b).neg, 0))
                  (Tr.ast (decide (0 ≤ IntKind.i64.wrap (64 - u2_Len (U2.mk 0 (s_of a).m))))
                    (Tr.ast
                      (u2_Div_s
                        (U2.mk (shlI IntKind.u64 (s_of a).m (IntKind.i64.wrap (64 - u2_Len (U2.mk 0 (s_of a).m)))) 0)
                        (s_of b).m)
                      (Tr.ast
                        (n_Round_s (!(s_of a).neg == (s_of b).neg)
                          (u2_Div
                              (U2.mk (shlI IntKind.u64 (s_of a).m (IntKind.i64.wrap (64 - u2_Len (U2.mk 0 (s_of a).m))))
                                0)
                              (s_of b).m).fst
                          (IntKind.i64.wrap
                            (IntKind.i64.wrap
                                (IntKind.i64.wrap ((s_of a).e - IntKind.i64.wrap (64 - u2_Len (U2.mk 0 (s_of a).m))) -
                                  64) -
                              (s_of b).e))
                          ((u2_Div
                                (U2.mk (shlI IntKind.u64 (s_of a).m (IntKind.i64.wrap (64 - u2_Len (U2.mk 0 (s_of a).m))))
                                  0)
                                (s_of b).m).snd !=
                            0)
                          mode)
                        (Tr.leaf
                          (n_Round (!(s_of a).neg == (s_of b).neg)
                            (u2_Div
                                (U2.mk (shlI IntKind.u64 (s_of a).m (IntKind.i64.wrap (64 - u2_Len (U2.mk 0 (s_of a).m))))
                                  0)
                                (s_of b).m).fst
                            (IntKind.i64.wrap
                              (IntKind.i64.wrap
                                  (IntKind.i64.wrap ((s_of a).e - IntKind.i64.wrap (64 - u2_Len (U2.mk 0 (s_of a).m))) -
                                    64) -
                                (s_of b).e))
                            ((u2_Div
                                  (U2.mk
                                    (shlI IntKind.u64 (s_of a).m (IntKind.i64.wrap (64 - u2_Len (U2.mk 0 (s_of a).m)))) 0)
                                  (s_of b).m).snd !=
                              0)
                            mode)))))))))))
      (Tr.br ((s_of a).c == 3) (Tr.leaf (p_Inf !(s_of a).neg == (s_of b).neg, 0))
        (Tr.br ((s_of b).c == 0) (Tr.leaf (p_Inf !(s_of a).neg == (s_of b).neg, 8))
          (Tr.br ((s_of a).c == 0) (Tr.leaf (s_zero !(s_of a).neg == (s_of b).neg, 0))
            (Tr.br ((s_of b).c == 3) (Tr.leaf (s_zero !(s_of a).neg == (s_of b).neg, 0))
              (Tr.ast (decide (0 ≤ IntKind.i64.wrap (64 - u2_Len (U2.mk 0 (s_of a).m))))
                (Tr.ast
                  (u2_Div_s (U2.mk (shlI IntKind.u64 (s_of a).m (IntKind.i64.wrap (64 - u2_Len (U2.mk 0 (s_of a).m)))) 0)
                    (s_of b).m)
                  (Tr.ast
                    (n_Round_s (!(s_of a).neg == (s_of b).neg)
                      (u2_Div
                          (U2.mk (shlI IntKind.u64 (s_of a).m (IntKind.i64.wrap (64 - u2_Len (U2.mk 0 (s_of a).m)))) 0)
                          (s_of b).m).fst
                      (IntKind.i64.wrap
                        (IntKind.i64.wrap
                            (IntKind.i64.wrap ((s_of a).e - IntKind.i64.wrap (64 - u2_Len (U2.mk 0 (s_of a).m))) - 64) -
                          (s_of b).e))
                      ((u2_Div
                            (U2.mk (shlI IntKind.u64 (s_of a).m (IntKind.i64.wrap (64 - u2_Len (U2.mk 0 (s_of a).m)))) 0)
                            (s_of b).m).snd !=
                        0)
                      mode)
                    (Tr.leaf
                      (n_Round (!(s_of a).neg == (s_of b).neg)
                        (u2_Div
                            (U2.mk (shlI IntKind.u64 (s_of a).m (IntKind.i64.wrap (64 - u2_Len (U2.mk 0 (s_of a).m)))) 0)
                            (s_of b).m).fst
                        (IntKind.i64.wrap
                          (IntKind.i64.wrap
                              (IntKind.i64.wrap ((s_of a).e - IntKind.i64.wrap (64 - u2_Len (U2.mk 0 (s_of a).m))) - 64) -
                            (s_of b).e))
                        ((u2_Div
                              (U2.mk (shlI IntKind.u64 (s_of a).m (IntKind.i64.wrap (64 - u2_Len (U2.mk 0 (s_of a).m))))
                                0)
                              (s_of b).m).snd !=
                          0)
                        mode))))))))))
def s_Div_t (a : Int) (b : Int) (mode : Int) : Tr (Int × Int) := s_Div_T s_of s_either p_Quiet s_invalid p_Inf s_zero u2_Len u2_Div u2_Div_s n_Round n_Round_s a b mode
def s_Div (a : Int) (b : Int) (mode : Int) : Int × Int := (s_Div_t a b mode).val
def s_Div_s (a : Int) (b : Int) (mode : Int) : Bool := (s_Div_t a b mode).safe
def s_Sqrt_T (s_of : Int → SN) (p_Quiet : Int) (s_invalid : (Int × Int)) (u2_Len : U2 → Int) (u2_Shl : U2 → Int → U2) (u2_Shl_s : U2 → Int → Bool) (u2_Sqrt : U2 → Int × U2) (u2_Sqrt_s : U2 → Bool) (n_Round : Bool → U2 → Int → Bool → Int → Int × Int) (n_Round_s : Bool → U2 → Int → Bool → Int → Bool) (a : Int) (mode : Int) : Tr (Int × Int) :=
  let t0 : U2 := U2.mk 0 (s_of a).m;
  let t1 : Int := IntKind.i64.wrap (126 - u2_Len t0);
  let t2 : U2 := u2_Shl t0 t1;
  let t3 : Int × U2 := u2_Sqrt t2;
  let t4 : Int := IntKind.i64.wrap ((s_of a).e - t1);
  let t5 : U2 := t3.snd;
  let t6 : Int := IntKind.i64.wrap (t1 + 1);
  let t7 : Int := IntKind.i64.wrap (t4.tdiv 2);
  let t8 : U2 := U2.mk 0 t3.fst;
  let t9 : U2 := u2_Shl t0 t6;
  let t10 : Int × U2 := u2_Sqrt t9;
  let t11 : U2 := t10.snd;
  let t12 : Int := IntKind.i64.wrap ((IntKind.i64.wrap ((s_of a).e - t6)).tdiv 2);
  let t13 : U2 := U2.mk 0 t10.fst;
  let t14 : Bool := !(t5.hi == 0 && (t5.lo == 0 && true));
  let t15 : Bool := !(t11.hi == 0 && (t11.lo == 0 && true));
  Tr.br ((s_of a).c == 4) (Tr.leaf (p_Quiet, 0))
    (Tr.br ((s_of a).c == 0) (Tr.leaf (a, 0))
      (Tr.br ((s_of a).c == 3)
        (Tr.br (!(s_of a).neg) (Tr.leaf (a, 0))
          (Tr.br (s_of a).neg (Tr.leaf s_invalid)
            (Tr.br (t4.tmod 2 != 0)
              (Tr.ast (u2_Shl_s t0 t6)
                (Tr.ast (u2_Sqrt_s t9)
                  (Tr.ast (n_Round_s false t13 t12 t15 mode) (Tr.leaf (n_Round false t13 t12 t15 mode)))))
              (Tr.ast (u2_Shl_s t0 t1)
                (Tr.ast (u2_Sqrt_s t2)
                  (Tr.ast (n_Round_s false t8 t7 t14 mode) (Tr.leaf (n_Round false t8 t7 t14 mode))))))))
        (Tr.br (s_of a).neg (Tr.leaf s_invalid)
          (Tr.br (t4.tmod 2 != 0)
            (Tr.ast (u2_Shl_s t0 t6)
              (Tr.ast (u2_Sqrt_s t9)
                (Tr.ast (n_Round_s false t13 t12 t15 mode) (Tr.leaf (n_Round false t13 t12 t15 mode)))))
            (Tr.ast (u2_Shl_s t0 t1)
              (Tr.ast (u2_Sqrt_s t2)
                (Tr.ast (n_Round_s false t8 t7 t14 mode) (Tr.leaf (n_Round false t8 t7 t14 mode)))))))))
def s_Sqrt_t (a : Int) (mode : Int) : Tr (Int × Int) := s_Sqrt_T s_of p_Quiet s_invalid u2_Len u2_Shl u2_Shl_s u2_Sqrt u2_Sqrt_s n_Round n_Round_s a mode
def s_Sqrt (a : Int) (mode : Int) : Int × Int := (s_Sqrt_t a mode).val
def s_Sqrt_s (a : Int) (mode : Int) : Bool := (s_Sqrt_t a mode).safe
def s_Sum_L0_T (s_Add : Int → Int → Int → Int × Int) (s_Add_s : Int → Int → Int → Bool) (v0 : Int) (v8 : List Int) (v9 : Int) (v5 : Int) (v10 : Int) : Tr ((Int × Int) ⊕ (Int × Int)) :=
  Tr.br (decide (v10 < v9))
    (Tr.ast (decide (0 ≤ v10) && decide (v10 < (v8.length : Int)))
      (Tr.ast (s_Add_s v5 (v8.getD v10.toNat 0) v0)
        (Tr.leaf (Sum.inl ((s_Add v5 (v8.getD v10.toNat 0) v0).fst, IntKind.i64.wrap (v10 + 1))))))
    (Tr.leaf (Sum.inr (v5, v10)))
def s_Sum_L0_step (p : Int × (List Int) × Int) (x : Int × Int) : Tr ((Int × Int) ⊕ (Int × Int)) := s_Sum_L0_T s_Add s_Add_s p.1 p.2.1 p.2.2 x.1 x.2
def s_Sum_L0_r (p : Int × (List Int) × Int) (x : Int × Int) : Option (Int × Int) := runB (s_Sum_L0_step p) x
def s_Sum_L0_v (p : Int × (List Int) × Int) (x : Int × Int) : Int × Int := (s_Sum_L0_r p x).getD x
def s_Sum_L0_ok (p : Int × (List Int) × Int) (x : Int × Int) : Bool := (s_Sum_L0_r p x).isSome
def s_Sum_T (s_Sum_L0_ok : (Int × (List Int) × Int) → (Int × Int) → Bool) (s_Sum_L0_v : (Int × (List Int) × Int) → (Int × Int) → Int × Int) (mode : Int) (l : List Int) : Tr (Int) :=
  Tr.ast (s_Sum_L0_ok (mode, l, (l.length : Int)) (0, 0)) (Tr.leaf (s_Sum_L0_v (mode, l, (l.length : Int)) (0, 0)).fst)
def s_Sum_t (mode : Int) (l : List Int) : Tr (Int) := s_Sum_T s_Sum_L0_ok s_Sum_L0_v mode l
def s_Sum (mode : Int) (l : List Int) : Int := (s_Sum_t mode l).val
def s_Sum_s (mode : Int) (l : List Int) : Bool := (s_Sum_t mode l).safe
def r6_neg_T  (f : Int) : Tr (Bool) :=
  Tr.leaf (shrI IntKind.u64 f 63 == 1)
def r6_neg_t (f : Int) : Tr (Bool) := r6_neg_T  f
def r6_neg (f : Int) : Bool := (r6_neg_t f).val
def r6_inf_T (r4_Make : Bool → Int → Int → Int) (n : Bool) : Tr (Int) :=
  Tr.leaf (r4_Make n 2047 0)
def r6_inf_t (n : Bool) : Tr (Int) := r6_inf_T r4_Make n
def r6_inf (n : Bool) : Int := (r6_inf_t n).val
def r6_zero_T (r4_Make : Bool → Int → Int → Int) (n : Bool) : Tr (Int) :=
  Tr.leaf (r4_Make n 0 0)
def r6_zero_t (n : Bool) : Tr (Int) := r6_zero_T r4_Make n
def r6_zero (n : Bool) : Int := (r6_zero_t n).val
def r6_is_T (r4_Class : Int → Int) (f : Int) (c : Int) : Tr (Bool) :=
  Tr.leaf (r4_Class f == c)
def r6_is_t (f : Int) (c : Int) : Tr (Bool) := r6_is_T r4_Class f c
def r6_is (f : Int) (c : Int) : Bool := (r6_is_t f c).val
def r6_bits_T (r1_Of1 : Int → (List Bool)) (r1_Of1_s : Int → Bool) (r1_Len : (List Bool) → Int) (r1_Len_s : (List Bool) → Bool) (m : Int) : Tr ((List Bool)) :=
  Tr.ast (r1_Of1_s m)
    (Tr.ast (r1_Len_s (r1_Of1 m))
      (Tr.ast
        (decide (0 ≤ (some (r1_Len (r1_Of1 m))).getD ((r1_Of1 m).length : Int)) &&
          decide ((some (r1_Len (r1_Of1 m))).getD ((r1_Of1 m).length : Int) ≤ ((r1_Of1 m).length : Int)))
        (Tr.leaf
          (List.take (((some (r1_Len (r1_Of1 m))).getD ((r1_Of1 m).length : Int)).toNat - Int.toNat 0)
            (List.drop (Int.toNat 0) (r1_Of1 m))))))
def r6_bits_t (m : Int) : Tr ((List Bool)) := r6_bits_T r1_Of1 r1_Of1_s r1_Len r1_Len_s m
def r6_bits (m : Int) : (List Bool) := (r6_bits_t m).val
def r6_bits_s (m : Int) : Bool := (r6_bits_t m).safe
def r6_Add_T (r6_is : Int → Int → Bool) (r6_neg : Int → Bool) (r4_Split : Int → Int × Int) (r6_bits : Int → (List Bool)) (r6_bits_s : Int → Bool) (r1_Shl : (List Bool) → Int → (List Bool)) (r1_Shl_s : (List Bool) → Int → Bool) (r1_Add : (List Bool) → (List Bool) → (List Bool)) (r1_Add_s : (List Bool) → (List Bool) → Bool) (r1_Cmp : (List Bool) → (List Bool) → Int) (r1_Cmp_s : (List Bool) → (List Bool) → Bool) (r1_Sub : (List Bool) → (List Bool) → Int → (List Bool) × Bool) (r1_Sub_s : (List Bool) → (List Bool) → Int → Bool) (r1_Len : (List Bool) → Int) (r1_Len_s : (List Bool) → Bool) (r6_zero : Bool → Int) (r5_Round : Bool → (List Bool) → Int → Bool → Int → Int × Int) (r5_Round_s : Bool → (List Bool) → Int → Bool → Int → Bool) (a : Int) (b : Int) (mode : Int) : Tr (Int × Int) :=
  let t0 : Bool := r6_neg a == r6_neg b;
  let t1 : Int := imin (r4_Split b).snd (r4_Split b).snd;
  let t2 : Int := imin (r4_Split a).snd (r4_Split a).snd;
  let t3 : Int := imin (r4_Split a).snd (r4_Split b).snd;
  let t4 : Bool := (r4_Split b).fst == 0;
  let t5 : Int := IntKind.i64.wrap ((r4_Split a).snd - t3);
  let t6 : Int := IntKind.i64.wrap ((r4_Split a).snd - t2);
  let t7 : Int := IntKind.i64.wrap ((r4_Split b).snd - t1);
  let t8 : Int := IntKind.i64.wrap ((r4_Split b).snd - t3);
  let t9 : List Bool := r1_Shl (r6_bits (r4_Split b).fst) t7;
  let t10 : List Bool := r1_Shl (r6_bits (r4_Split b).fst) t6;
  let t11 : List Bool := r1_Shl (r6_bits (r4_Split a).fst) t5;
  let t12 : List Bool := r1_Shl (r6_bits (r4_Split a).fst) t7;
  let t13 : List Bool := r1_Shl (r6_bits (r4_Split a).fst) t6;
  let t14 : List Bool := r1_Shl (r6_bits (r4_Split b).fst) t8;
  let t15 : Int := r1_Cmp t12 t9;
  let t16 : Int := r1_Cmp t13 t10;
  let t17 : List Bool := r1_Add t12 t9;
  let t18 : List Bool := r1_Add t13 t10;
  let t19 : Int := r1_Cmp t11 t14;
  let t20 : List Bool := r1_Add t11 t14;
  let t21 : Int := IntKind.i64.wrap ((t13.length : Int) + (t10.length : Int));
  let t22 : Int := IntKind.i64.wrap ((t12.length : Int) + (t9.length : Int));
  let t23 : Int := IntKind.i64.wrap ((t11.length : Int) + (t14.length : Int));
  let t24 : List Bool := (r1_Sub t14 t11 t23).fst;
  let t25 : List Bool := (r1_Sub t11 t14 t23).fst;
  let t26 : List Bool := (r1_Sub t12 t9 t22).fst;
  let t27 : List Bool := (r1_Sub t9 t12 t22).fst;
  let t28 : List Bool := (r1_Sub t13 t10 t21).fst;
  let t29 : List Bool := (r1_Sub t10 t13 t21).fst;
  Tr.br (r6_is a 4) (Tr.leaf (9221120237041090560, 0))
    (Tr.br (r6_is b 4) (Tr.leaf (9221120237041090560, 0))
      (Tr.br (r6_is a 3)
        (Tr.br (r6_is b 3)
          (Tr.br (!t0) (Tr.leaf (9221120237041090560, 16))
            (Tr.br (r6_is a 3) (Tr.leaf (a, 0))
              (Tr.br (r6_is b 3) (Tr.leaf (b, 0))
                (Tr.br ((r4_Split a).fst == 0)
                  (Tr.br t4
                    (Tr.ast (r6_bits_s (r4_Split a).fst)
                      (Tr.ast (r1_Shl_s (r6_bits (r4_Split a).fst) t7)
                        (Tr.ast (r6_bits_s (r4_Split b).fst)
                          (Tr.ast (r1_Shl_s (r6_bits (r4_Split b).fst) t7)
                            (Tr.br t0
                              (Tr.ast (r1_Add_s t12 t9)
                                (Tr.ast (r1_Len_s t17)
                                  (Tr.br (r1_Len t17 == 0)
                                    (Tr.br t0 (Tr.leaf (r6_zero (r6_neg a), 0)) (Tr.leaf (r6_zero (mode == 2), 0)))
                                    (Tr.ast (r5_Round_s (r6_neg a) t17 t1 false mode)
                                      (Tr.leaf (r5_Round (r6_neg a) t17 t1 false mode))))))
                              (Tr.ast (r1_Cmp_s t12 t9)
                                (Tr.br (decide (t15 ≥ 0))
                                  (Tr.ast (r1_Sub_s t12 t9 t22)
                                    (Tr.ast (r1_Len_s t26)
                                      (Tr.br (r1_Len t26 == 0)
                                        (Tr.br t0 (Tr.leaf (r6_zero (r6_neg a), 0)) (Tr.leaf (r6_zero (mode == 2), 0)))
                                        (Tr.ast (r5_Round_s (r6_neg a) t26 t1 false mode)
                                          (Tr.leaf (r5_Round (r6_neg a) t26 t1 false mode))))))
                                  (Tr.ast (r1_Sub_s t9 t12 t22)
                                    (Tr.ast (r1_Len_s t27)
                                      (Tr.br (r1_Len t27 == 0)
                                        (Tr.br t0 (Tr.leaf (r6_zero (r6_neg a), 0)) (Tr.leaf (r6_zero (mode == 2), 0)))
                                        (Tr.ast (r5_Round_s (r6_neg b) t27 t1 false mode)
                                          (Tr.leaf (r5_Round (r6_neg b) t27 t1 false mode)))))))))))))
                    (Tr.ast (r6_bits_s (r4_Split a).fst)
                      (Tr.ast (r1_Shl_s (r6_bits (r4_Split a).fst) t7)
                        (Tr.ast (r6_bits_s (r4_Split b).fst)
                          (Tr.ast (r1_Shl_s (r6_bits (r4_Split b).fst) t7)
                            (Tr.br t0
                              (Tr.ast (r1_Add_s t12 t9)
                                (Tr.ast (r1_Len_s t17)
                                  (Tr.br (r1_Len t17 == 0)
                                    (Tr.br t0 (Tr.leaf (r6_zero (r6_neg a), 0)) (Tr.leaf (r6_zero (mode == 2), 0)))
                                    (Tr.ast (r5_Round_s (r6_neg a) t17 t1 false mode)
                                      (Tr.leaf (r5_Round (r6_neg a) t17 t1 false mode))))))
                              (Tr.ast (r1_Cmp_s t12 t9)
                                (Tr.br (decide (t15 ≥ 0))
                                  (Tr.ast (r1_Sub_s t12 t9 t22)
                                    (Tr.ast (r1_Len_s t26)
                                      (Tr.br (r1_Len t26 == 0)
                                        (Tr.br t0 (Tr.leaf (r6_zero (r6_neg a), 0)) (Tr.leaf (r6_zero (mode == 2), 0)))
                                        (Tr.ast (r5_Round_s (r6_neg a) t26 t1 false mode)
                                          (Tr.leaf (r5_Round (r6_neg a) t26 t1 false mode))))))
                                  (Tr.ast (r1_Sub_s t9 t12 t22)
                                    (Tr.ast (r1_Len_s t27)
                                      (Tr.br (r1_Len t27 == 0)
                                        (Tr.br t0 (Tr.leaf (r6_zero (r6_neg a), 0)) (Tr.leaf (r6_zero (mode == 2), 0)))
                                        (Tr.ast (r5_Round_s (r6_neg b) t27 t1 false mode)
                                          (Tr.leaf (r5_Round (r6_neg b) t27 t1 false mode))))))))))))))
                  (Tr.br t4
                    (Tr.ast (r6_bits_s (r4_Split a).fst)
                      (Tr.ast (r1_Shl_s (r6_bits (r4_Split a).fst) t6)
                        (Tr.ast (r6_bits_s (r4_Split b).fst)
                          (Tr.ast (r1_Shl_s (r6_bits (r4_Split b).fst) t6)
                            (Tr.br t0
                              (Tr.ast (r1_Add_s t13 t10)
                                (Tr.ast (r1_Len_s t18)
                                  (Tr.br (r1_Len t18 == 0)
                                    (Tr.br t0 (Tr.leaf (r6_zero (r6_neg a), 0)) (Tr.leaf (r6_zero (mode == 2), 0)))
                                    (Tr.ast (r5_Round_s (r6_neg a) t18 t2 false mode)
                                      (Tr.leaf (r5_Round (r6_neg a) t18 t2 false mode))))))
                              (Tr.ast (r1_Cmp_s t13 t10)
                                (Tr.br (decide (t16 ≥ 0))
                                  (Tr.ast (r1_Sub_s t13 t10 t21)
                                    (Tr.ast (r1_Len_s t28)
                                      (Tr.br (r1_Len t28 == 0)
                                        (Tr.br t0 (Tr.leaf (r6_zero (r6_neg a), 0)) (Tr.leaf (r6_zero (mode == 2), 0)))
                                        (Tr.ast (r5_Round_s (r6_neg a) t28 t2 false mode)
                                          (Tr.leaf (r5_Round (r6_neg a) t28 t2 false mode))))))
                                  (Tr.ast (r1_Sub_s t10 t13 t21)
                                    (Tr.ast (r1_Len_s t29)
                                      (Tr.br (r1_Len t29 == 0)
                                        (Tr.br t0 (Tr.leaf (r6_zero (r6_neg a), 0)) (Tr.leaf (r6_zero (mode == 2), 0)))
                                        (Tr.ast (r5_Round_s (r6_neg b) t29 t2 false mode)
                                          (Tr.leaf (r5_Round (r6_neg b) t29 t2 false mode)))))))))))))
                    (Tr.ast (r6_bits_s (r4_Split a).fst)
                      (Tr.ast (r1_Shl_s (r6_bits (r4_Split a).fst) t5)
                        (Tr.ast (r6_bits_s (r4_Split b).fst)
                          (Tr.ast (r1_Shl_s (r6_bits (r4_Split b).fst) t8)
                            (Tr.br t0
                              (Tr.ast (r1_Add_s t11 t14)
                                (Tr.ast (r1_Len_s t20)
                                  (Tr.br (r1_Len t20 == 0)
                                    (Tr.br t0 (Tr.leaf (r6_zero (r6_neg a), 0)) (Tr.leaf (r6_zero (mode == 2), 0)))
                                    (Tr.ast (r5_Round_s (r6_neg a) t20 t3 false mode)
                                      (Tr.leaf (r5_Round (r6_neg a) t20 t3 false mode))))))
                              (Tr.ast (r1_Cmp_s t11 t14)
                                (Tr.br (decide (t19 ≥ 0))
                                  (Tr.ast (r1_Sub_s t11 t14 t23)
                                    (Tr.ast (r1_Len_s t25)
                                      (Tr.br (r1_Len t25 == 0)
                                        (Tr.br t0 (Tr.leaf (r6_zero (r6_neg a), 0)) (Tr.leaf (r6_zero (mode == 2), 0)))
                                        (Tr.ast (r5_Round_s (r6_neg a) t25 t3 false mode)
                                          (Tr.leaf (r5_Round (r6_neg a) t25 t3 false mode))))))
                                  (Tr.ast (r1_Sub_s t14 t11 t23)
                                    (Tr.ast (r1_Len_s t24)
                                      (Tr.br (r1_Len t24 == 0)
                                        (Tr.br t0 (Tr.leaf (r6_zero (r6_neg a), 0)) (Tr.leaf (r6_zero (mode == 2), 0)))
                                        (Tr.ast (r5_Round_s (r6_neg b) t24 t3 false mode)
                                          (Tr.leaf (r5_Round (r6_neg b) t24 t3 false mode))))))))))))))))))
          (Tr.br (r6_is a 3) (Tr.leaf (a, 0))
            (Tr.br (r6_is b 3) (Tr.leaf (b, 0))
              (Tr.br ((r4_Split a).fst == 0)
                (Tr.br t4
                  (Tr.ast (r6_bits_s (r4_Split a).fst)
                    (Tr.ast (r1_Shl_s (r6_bits (r4_Split a).fst) t7)
                      (Tr.ast (r6_bits_s (r4_Split b).fst)
                        (Tr.ast (r1_Shl_s (r6_bits (r4_Split b).fst) t7)
                          (Tr.br t0
                            (Tr.ast (r1_Add_s t12 t9)
                              (Tr.ast (r1_Len_s t17)
                                (Tr.br (r1_Len t17 == 0)
                                  (Tr.br t0 (Tr.leaf (r6_zero (r6_neg a), 0)) (Tr.leaf (r6_zero (mode == 2), 0)))
                                  (Tr.ast (r5_Round_s (r6_neg a) t17 t1 false mode)
                                    (Tr.leaf (r5_Round (r6_neg a) t17 t1 false mode))))))
                            (Tr.ast (r1_Cmp_s t12 t9)
                              (Tr.br (decide (t15 ≥ 0))
                                (Tr.ast (r1_Sub_s t12 t9 t22)
                                  (Tr.ast (r1_Len_s t26)
                                    (Tr.br (r1_Len t26 == 0)
                                      (Tr.br t0 (Tr.leaf (r6_zero (r6_neg a), 0)) (Tr.leaf (r6_zero (mode == 2), 0)))
                                      (Tr.ast (r5_Round_s (r6_neg a) t26 t1 false mode)
                                        (Tr.leaf (r5_Round (r6_neg a) t26 t1 false mode))))))
                                (Tr.ast (r1_Sub_s t9 t12 t22)
                                  (Tr.ast (r1_Len_s t27)
                                    (Tr.br (r1_Len t27 == 0)
                                      (Tr.br t0 (Tr.leaf (r6_zero (r6_neg a), 0)) (Tr.leaf (r6_zero (mode == 2), 0)))
                                      (Tr.ast (r5_Round_s (r6_neg b) t27 t1 false mode)
                                        (Tr.leaf (r5_Round (r6_neg b) t27 t1 false mode)))))))))))))
                  (Tr.ast (r6_bits_s (r4_Split a).fst)
                    (Tr.ast (r1_Shl_s (r6_bits (r4_Split a).fst) t7)
                      (Tr.ast (r6_bits_s (r4_Split b).fst)
                        (Tr.ast (r1_Shl_s (r6_bits (r4_Split b).fst) t7)
                          (Tr.br t0
                            (Tr.ast (r1_Add_s t12 t9)
                              (Tr.ast (r1_Len_s t17)
                                (Tr.br (r1_Len t17 == 0)
                                  (Tr.br t0 (Tr.leaf (r6_zero (r6_neg a), 0)) (Tr.leaf (r6_zero (mode == 2), 0)))
                                  (Tr.ast (r5_Round_s (r6_neg a) t17 t1 false mode)
                                    (Tr.leaf (r5_Round (r6_neg a) t17 t1 false mode))))))
                            (Tr.ast (r1_Cmp_s t12 t9)
                              (Tr.br (decide (t15 ≥ 0))
                                (Tr.ast (r1_Sub_s t12 t9 t22)
                                  (Tr.ast (r1_Len_s t26)
                                    (Tr.br (r1_Len t26 == 0)
                                      (Tr.br t0 (Tr.leaf (r6_zero (r6_neg a), 0)) (Tr.leaf (r6_zero (mode == 2), 0)))
                                      (Tr.ast (r5_Round_s (r6_neg a) t26 t1 false mode)
                                        (Tr.leaf (r5_Round (r6_neg a) t26 t1 false mode))))))
                                (Tr.ast (r1_Sub_s t9 t12 t22)
                                  (Tr.ast (r1_Len_s t27)
                                    (Tr.br (r1_Len t27 == 0)
                                      (Tr.br t0 (Tr.leaf (r6_zero (r6_neg a), 0)) (Tr.leaf (r6_zero (mode == 2), 0)))
                                      (Tr.ast (r5_Round_s (r6_neg b) t27 t1 false mode)
                                        (Tr.leaf (r5_Round (r6_neg b) t27 t1 false mode))))))))))))))
                (Tr.br t4
                  (Tr.ast (r6_bits_s (r4_Split a).fst)
                    (Tr.ast (r1_Shl_s (r6_bits (r4_Split a).fst) t6)
                      (Tr.ast (r6_bits_s (r4_Split b).fst)
                        (Tr.ast (r1_Shl_s (r6_bits (r4_Split b).fst) t6)
                          (Tr.br t0
                            (Tr.ast (r1_Add_s t13 t10)
                              (Tr.ast (r1_Len_s t18)
                                (Tr.br (r1_Len t18 == 0)
                                  (Tr.br t0 (Tr.leaf (r6_zero (r6_neg a), 0)) (Tr.leaf (r6_zero (mode == 2), 0)))
                                  (Tr.ast (r5_Round_s (r6_neg a) t18 t2 false mode)
                                    (Tr.leaf (r5_Round (r6_neg a) t18 t2 false mode))))))
                            (Tr.ast (r1_Cmp_s t13 t10)
                              (Tr.br (decide (t16 ≥ 0))
                                (Tr.ast (r1_Sub_s t13 t10 t21)
                                  (Tr.ast (r1_Len_s t28)
                                    (Tr.br (r1_Len t28 == 0)
                                      (Tr.br t0 (Tr.leaf (r6_zero (r6_neg a), 0)) (Tr.leaf (r6_zero (mode == 2), 0)))
                                      (Tr.ast (r5_Round_s (r6_neg a) t28 t2 false mode)
                                        (Tr.leaf (r5_Round (r6_neg a) t28 t2 false mode))))))
                                (Tr.ast (r1_Sub_s t10 t13 t21)
                                  (Tr.ast (r1_Len_s t29)
                                    (Tr.br (r1_Len t29 == 0)
                                      (Tr.br t0 (Tr.leaf (r6_zero (r6_neg a), 0)) (Tr.leaf (r6_zero (mode == 2), 0)))
                                      (Tr.ast (r5_Round_s (r6_neg b) t29 t2 false mode)
                                        (Tr.leaf (r5_Round (r6_neg b) t29 t2 false mode)))))))))))))
                  (Tr.ast (r6_bits_s (r4_Split a).fst)
                    (Tr.ast (r1_Shl_s (r6_bits (r4_Split a).fst) t5)
                      (Tr.ast (r6_bits_s (r4_Split b).fst)
                        (Tr.ast (r1_Shl_s (r6_bits (r4_Split b).fst) t8)
                          (Tr.br t0
                            (Tr.ast (r1_Add_s t11 t14)
                              (Tr.ast (r1_Len_s t20)
                                (Tr.br (r1_Len t20 == 0)
                                  (Tr.br t0 (Tr.leaf (r6_zero (r6_neg a), 0)) (Tr.leaf (r6_zero (mode == 2), 0)))
                                  (Tr.ast (r5_Round_s (r6_neg a) t20 t3 false mode)
                                    (Tr.leaf (r5_Round (r6_neg a) t20 t3 false mode))))))
                            (Tr.ast (r1_Cmp_s t11 t14)
                              (Tr.br (decide (t19 ≥ 0))
                                (Tr.ast (r1_Sub_s t11 t14 t23)
                                  (Tr.ast (r1_Len_s t25)
                                    (Tr.br (r1_Len t25 == 0)
                                      (Tr.br t0 (Tr.leaf (r6_zero (r6_neg a), 0)) (Tr.leaf (r6_zero (mode == 2), 0)))
                                      (Tr.ast (r5_Round_s (r6_neg a) t25 t3 false mode)
                                        (Tr.leaf (r5_Round (r6_neg a) t25 t3 false mode))))))
                                (Tr.ast (r1_Sub_s t14 t11 t23)
                                  (Tr.ast (r1_Len_s t24)
                                    (Tr.br (r1_Len t24 == 0)
                                      (Tr.br t0 (Tr.leaf (r6_zero (r6_neg a), 0)) (Tr.leaf (r6_zero (mode == 2), 0)))
                                      (Tr.ast (r5_Round_s (r6_neg b) t24 t3 false mode)
                                        (Tr.leaf (r5_Round (r6_neg b) t24 t3 false mode))))))))))))))))))
        (Tr.br (r6_is a 3) (Tr.leaf (a, 0))
          (Tr.br (r6_is b 3) (Tr.leaf (b, 0))
            (Tr.br ((r4_Split a).fst == 0)
              (Tr.br t4
                (Tr.ast (r6_bits_s (r4_Split a).fst)
                  (Tr.ast (r1_Shl_s (r6_bits (r4_Split a).fst) t7)
                    (Tr.ast (r6_bits_s (r4_Split b).fst)
                      (Tr.ast (r1_Shl_s (r6_bits (r4_Split b).fst) t7)
                        (Tr.br t0
                          (Tr.ast (r1_Add_s t12 t9)
                            (Tr.ast (r1_Len_s t17)
                              (Tr.br (r1_Len t17 == 0)
                                (Tr.br t0 (Tr.leaf (r6_zero (r6_neg a), 0)) (Tr.leaf (r6_zero (mode == 2), 0)))
                                (Tr.ast (r5_Round_s (r6_neg a) t17 t1 false mode)
                                  (Tr.leaf (r5_Round (r6_neg a) t17 t1 false mode))))))
                          (Tr.ast (r1_Cmp_s t12 t9)
                            (Tr.br (decide (t15 ≥ 0))
                              (Tr.ast (r1_Sub_s t12 t9 t22)
                                (Tr.ast (r1_Len_s t26)
                                  (Tr.br (r1_Len t26 == 0)
                                    (Tr.br t0 (Tr.leaf (r6_zero (r6_neg a), 0)) (Tr.leaf (r6_zero (mode == 2), 0)))
                                    (Tr.ast (r5_Round_s (r6_neg a) t26 t1 false mode)
                                      (Tr.leaf (r5_Round (r6_neg a) t26 t1 false mode))))))
                              (Tr.ast (r1_Sub_s t9 t12 t22)
                                (Tr.ast (r1_Len_s t27)
                                  (Tr.br (r1_Len t27 == 0)
                                    (Tr.br t0 (Tr.leaf (r6_zero (r6_neg a), 0)) (Tr.leaf (r6_zero (mode == 2), 0)))
                                    (Tr.ast (r5_Round_s (r6_neg b) t27 t1 false mode)
                                      (Tr.leaf (r5_Round (r6_neg b) t27 t1 false mode)))))))))))))
                (Tr.ast (r6_bits_s (r4_Split a).fst)
                  (Tr.ast (r1_Shl_s (r6_bits (r4_Split a).fst) t7)
                    (Tr.ast (r6_bits_s (r4_Split b).fst)
                      (Tr.ast (r1_Shl_s (r6_bits (r4_Split b).fst) t7)
                        (Tr.br t0
                          (Tr.ast (r1_Add_s t12 t9)
                            (Tr.ast (r1_Len_s t17)
                              (Tr.br (r1_Len t17 == 0)
                                (Tr.br t0 (Tr.leaf (r6_zero (r6_neg a), 0)) (Tr.leaf (r6_zero (mode == 2), 0)))
                                (Tr.ast (r5_Round_s (r6_neg a) t17 t1 false mode)
                                  (Tr.leaf (r5_Round (r6_neg a) t17 t1 false mode))))))
                          (Tr.ast (r1_Cmp_s t12 t9)
                            (Tr.br (decide (t15 ≥ 0))
                              (Tr.ast (r1_Sub_s t12 t9 t22)
                                (Tr.ast (r1_Len_s t26)
                                  (Tr.br (r1_Len t26 == 0)
                                    (Tr.br t0 (Tr.leaf (r6_zero (r6_neg a), 0)) (Tr.leaf (r6_zero (mode == 2), 0)))
                                    (Tr.ast (r5_Round_s (r6_neg a) t26 t1 false mode)
                                      (Tr.leaf (r5_Round (r6_neg a) t26 t1 false mode))))))
                              (Tr.ast (r1_Sub_s t9 t12 t22)
                                (Tr.ast (r1_Len_s t27)
                                  (Tr.br (r1_Len t27 == 0)
                                    (Tr.br t0 (Tr.leaf (r6_zero (r6_neg a), 0)) (Tr.leaf (r6_zero (mode == 2), 0)))
                                    (Tr.ast (r5_Round_s (r6_neg b) t27 t1 false mode)
                                      (Tr.leaf (r5_Round (r6_neg b) t27 t1 false mode))))))))))))))
              (Tr.br t4
                (Tr.ast (r6_bits_s (r4_Split a).fst)
                  (Tr.ast (r1_Shl_s (r6_bits (r4_Split a).fst) t6)
                    (Tr.ast (r6_bits_s (r4_Split b).fst)
                      (Tr.ast (r1_Shl_s (r6_bits (r4_Split b).fst) t6)
                        (Tr.br t0
                          (Tr.ast (r1_Add_s t13 t10)
                            (Tr.ast (r1_Len_s t18)
                              (Tr.br (r1_Len t18 == 0)
                                (Tr.br t0 (Tr.leaf (r6_zero (r6_neg a), 0)) (Tr.leaf (r6_zero (mode == 2), 0)))
                                (Tr.ast (r5_Round_s (r6_neg a) t18 t2 false mode)
                                  (Tr.leaf (r5_Round (r6_neg a) t18 t2 false mode))))))
                          (Tr.ast (r1_Cmp_s t13 t10)
                            (Tr.br (decide (t16 ≥ 0))
                              (Tr.ast (r1_Sub_s t13 t10 t21)
                                (Tr.ast (r1_Len_s t28)
                                  (Tr.br (r1_Len t28 == 0)
                                    (Tr.br t0 (Tr.leaf (r6_zero (r6_neg a), 0)) (Tr.leaf (r6_zero (mode == 2), 0)))
                                    (Tr.ast (r5_Round_s (r6_neg a) t28 t2 false mode)
                                      (Tr.leaf (r5_Round (r6_neg a) t28 t2 false mode))))))
                              (Tr.ast (r1_Sub_s t10 t13 t21)
                                (Tr.ast (r1_Len_s t29)
                                  (Tr.br (r1_Len t29 == 0)
                                    (Tr.br t0 (Tr.leaf (r6_zero (r6_neg a), 0)) (Tr.leaf (r6_zero (mode == 2), 0)))
                                    (Tr.ast (r5_Round_s (r6_neg b) t29 t2 false mode)
                                      (Tr.leaf (r5_Round (r6_neg b) t29 t2 false mode)))))))))))))
                (Tr.ast (r6_bits_s (r4_Split a).fst)
                  (Tr.ast (r1_Shl_s (r6_bits (r4_Split a).fst) t5)
                    (Tr.ast (r6_bits_s (r4_Split b).fst)
                      (Tr.ast (r1_Shl_s (r6_bits (r4_Split b).fst) t8)
                        (Tr.br t0
                          (Tr.ast (r1_Add_s t11 t14)
                            (Tr.ast (r1_Len_s t20)
                              (Tr.br (r1_Len t20 == 0)
                                (Tr.br t0 (Tr.leaf (r6_zero (r6_neg a), 0)) (Tr.leaf (r6_zero (mode == 2), 0)))
                                (Tr.ast (r5_Round_s (r6_neg a) t20 t3 false mode)
                                  (Tr.leaf (r5_Round (r6_neg a) t20 t3 false mode))))))
                          (Tr.ast (r1_Cmp_s t11 t14)
                            (Tr.br (decide (t19 ≥ 0))
                              (Tr.ast (r1_Sub_s t11 t14 t23)
                                (Tr.ast (r1_Len_s t25)
                                  (Tr.br (r1_Len t25 == 0)
                                    (Tr.br t0 (Tr.leaf (r6_zero (r6_neg a), 0)) (Tr.leaf (r6_zero (mode == 2), 0)))
                                    (Tr.ast (r5_Round_s (r6_neg a) t25 t3 false mode)
                                      (Tr.leaf (r5_Round (r6_neg a) t25 t3 false mode))))))
                              (Tr.ast (r1_Sub_s t14 t11 t23)
                                (Tr.ast (r1_Len_s t24)
                                  (Tr.br (r1_Len t24 == 0)
                                    (Tr.br t0 (Tr.leaf (r6_zero (r6_neg a), 0)) (Tr.leaf (r6_zero (mode == 2), 0)))
                                    (Tr.ast (r5_Round_s (r6_neg b) t24 t3 false mode)
                                      (Tr.leaf (r5_Round (r6_neg b) t24 t3 false mode)))))))))))))))))))
def r6_Add_t (a : Int) (b : Int) (mode : Int) : Tr (Int × Int) := r6_Add_T r6_is r6_neg r4_Split r6_bits r6_bits_s r1_Shl r1_Shl_s r1_Add r1_Add_s r1_Cmp r1_Cmp_s r1_Sub r1_Sub_s r1_Len r1_Len_s r6_zero r5_Round r5_Round_s a b mode
def r6_Add (a : Int) (b : Int) (mode : Int) : Int × Int := (r6_Add_t a b mode).val
def r6_Add_s (a : Int) (b : Int) (mode : Int) : Bool := (r6_Add_t a b mode).safe
def r6_Mul_T (r6_is : Int → Int → Bool) (r6_neg : Int → Bool) (r6_inf : Bool → Int) (r4_Split : Int → Int × Int) (r6_bits : Int → (List Bool)) (r6_bits_s : Int → Bool) (r1_Mul : (List Bool) → (List Bool) → (List Bool)) (r1_Mul_s : (List Bool) → (List Bool) → Bool) (r5_Round : Bool → (List Bool) → Int → Bool → Int → Int × Int) (r5_Round_s : Bool → (List Bool) → Int → Bool → Int → Bool) (a : Int) (b : Int) (mode : Int) : Tr (Int × Int) :=
  Tr.br (r6_is a 4) (Tr.leaf (9221120237041090560, 0))
    (Tr.br (r6_is b 4) (Tr.leaf (9221120237041090560, 0))
      (Tr.br (r6_is a 3)
        (Tr.br (r6_is b 0) (Tr.leaf (9221120237041090560, 16))
          (Tr.br (r6_is a 0)
            (Tr.br (r6_is b 3) (Tr.leaf (9221120237041090560, 16))
              (Tr.br (r6_is a 3) (Tr.leaf (r6_inf !r6_neg a == r6_neg b, 0))
                (Tr.br (r6_is b 3) (Tr.leaf (r6_inf !r6_neg a == r6_neg b, 0))
                  (Tr.ast (r6_bits_s (r4_Split a).fst)
                    (Tr.ast (r6_bits_s (r4_Split b).fst)
                      (Tr.ast (r1_Mul_s (r6_bits (r4_Split a).fst) (r6_bits (r4_Split b).fst))
                        (Tr.ast
                          (r5_Round_s (!r6_neg a == r6_neg b)
                            (r1_Mul (r6_bits (r4_Split a).fst) (r6_bits (r4_Split b).fst))
                            (IntKind.i64.wrap ((r4_Split a).snd + (r4_Split b).snd)) false mode)
                          (Tr.leaf
                            (r5_Round (!r6_neg a == r6_neg b)
                              (r1_Mul (r6_bits (r4_Split a).fst) (r6_bits (r4_Split b).fst))
                              (IntKind.i64.wrap ((r4_Split a).snd + (r4_Split b).snd)) false mode)))))))))
            (Tr.br (r6_is a 3) (Tr.leaf (r6_inf !r6_neg a == r6_neg b, 0))
              (Tr.br (r6_is b 3) (Tr.leaf (r6_inf !r6_neg a == r6_neg b, 0))
                (Tr.ast (r6_bits_s (r4_Split a).fst)
                  (Tr.ast (r6_bits_s (r4_Split b).fst)
                    (Tr.ast (r1_Mul_s (r6_bits (r4_Split a).fst) (r6_bits (r4_Split b).fst))
                      (Tr.ast
                        (r5_Round_s (!r6_neg a == r6_neg b) (r1_Mul (r6_bits (r4_Split a).fst) (r6_bits (r4_Split b).fst))
                          (IntKind.i64.wrap ((r4_Split a).snd + (r4_Split b).snd)) false mode)
                        (Tr.leaf
                          (r5_Round (!r6_neg a == r6_neg b) (r1_Mul (r6_bits (r4_Split a).fst) (r6_bits (r4_Split b).fst))
                            (IntKind.i64.wrap ((r4_Split a).snd + (r4_Split b).snd)) false mode))))))))))
        (Tr.br (r6_is a 0)
          (Tr.br (r6_is b 3) (Tr.leaf (9221120237041090560, 16))
            (Tr.br (r6_is a 3) (Tr.leaf (r6_inf !r6_neg a == r6_neg b, 0))
              (Tr.br (r6_is b 3) (Tr.leaf (r6_inf !r6_neg a == r6_neg b, 0))
                (Tr.ast (r6_bits_s (r4_Split a).fst)
                  (Tr.ast (r6_bits_s (r4_Split b).fst)
                    (Tr.ast (r1_Mul_s (r6_bits (r4_Split a).fst) (r6_bits (r4_Split b).fst))
                      (Tr.ast
                        (r5_Round_s (!r6_neg a == r6_neg b) (r1_Mul (r6_bits (r4_Split a).fst) (r6_bits (r4_Split b).fst))
                          (IntKind.i64.wrap ((r4_Split a).snd + (r4_Split b).snd)) false mode)
                        (Tr.leaf
                          (r5_Round (!r6_neg a == r6_neg b) (r1_Mul (r6_bits (r4_Split a).fst) (r6_bits (r4_Split b).fst))
                            (IntKind.i64.wrap ((r4_Split a).snd + (r4_Split b).snd)) false mode)))))))))
          (Tr.br (r6_is a 3) (Tr.leaf (r6_inf !r6_neg a == r6_neg b, 0))
            (Tr.br (r6_is b 3) (Tr.leaf (r6_inf !r6_neg a == r6_neg b, 0))
              (Tr.ast (r6_bits_s (r4_Split a).fst)
                (Tr.ast (r6_bits_s (r4_Split b).fst)
                  (Tr.ast (r1_Mul_s (r6_bits (r4_Split a).fst) (r6_bits (r4_Split b).fst))
                    (Tr.ast
                      (r5_Round_s (!r6_neg a == r6_neg b) (r1_Mul (r6_bits (r4_Split a).fst) (r6_bits (r4_Split b).fst))
                        (IntKind.i64.wrap ((r4_Split a).snd + (r4_Split b).snd)) false mode)
                      (Tr.leaf
                        (r5_Round (!r6_neg a == r6_neg b) (r1_Mul (r6_bits (r4_Split a).fst) (r6_bits (r4_Split b).fst))
                          (IntKind.i64.wrap ((r4_Split a).snd + (r4_Split b).snd)) false mode)))))))))))
def r6_Mul_t (a : Int) (b : Int) (mode : Int) : Tr (Int × Int) := r6_Mul_T r6_is r6_neg r6_inf r4_Split r6_bits r6_bits_s r1_Mul r1_Mul_s r5_Round r5_Round_s a b mode
def r6_Mul (a : Int) (b : Int) (mode : Int) : Int × Int := (r6_Mul_t a b mode).val
def r6_Mul_s (a : Int) (b : Int) (mode : Int) : Bool := (r6_Mul_t a b mode).safe
def r6_Div_T (r6_is : Int → Int → Bool) (r6_neg : Int → Bool) (r6_inf : Bool → Int) (r6_zero : Bool → Int) (r4_Split : Int → Int × Int) (r6_bits : Int → (List Bool)) (r6_bits_s : Int → Bool) (r5_Signed : Bool → RX → Int → Int × Int) (r5_Signed_s : Bool → RX → Int → Bool) (a : Int) (b : Int) (mode : Int) : Tr (Int × Int) :=
  Tr.br (r6_is a 4) (Tr.leaf (9221120237041090560, 0))
    (Tr.br (r6_is b 4) (Tr.leaf (9221120237041090560, 0))
      (Tr.br (r6_is a 3)
        (Tr.br (r6_is b 3) (Tr.leaf (9221120237041090560, 16))
          (Tr.br (r6_is a 0)
            (Tr.br (r6_is b 0) (Tr.leaf (9221120237041090560, 16))
              (Tr.br (r6_is a 3) (Tr.leaf (r6_inf !r6_neg a == r6_neg b, 0))
                (Tr.br (r6_is b 0) (Tr.leaf (r6_inf !r6_neg a == r6_neg b, 8))
                  (Tr.br (r6_is a 0) (Tr.leaf (r6_zero !r6_neg a == r6_neg b, 0))
                    (Tr.br (r6_is b 3) (Tr.leaf (r6_zero !r6_neg a == r6_neg b, 0))
                      (Tr.ast (r6_bits_s (r4_Split a).fst)
                        (Tr.ast (r6_bits_s (r4_Split b).fst)
                          (Tr.ast
                            (r5_Signed_s (!r6_neg a == r6_neg b)
                              (RX.mk (r6_bits (r4_Split a).fst) (r6_bits (r4_Split b).fst)
                                (IntKind.i64.wrap ((r4_Split a).snd - (r4_Split b).snd)) false)
                              mode)
                            (Tr.leaf
                              (r5_Signed (!r6_neg a == r6_neg b)
                                (RX.mk (r6_bits (r4_Split a).fst) (r6_bits (r4_Split b).fst)
                                  (IntKind.i64.wrap ((r4_Split a).snd - (r4_Split b).snd)) false)
                                mode))))))))))
            (Tr.br (r6_is a 3) (Tr.leaf (r6_inf !r6_neg a == r6_neg b, 0))
              (Tr.br (r6_is b 0) (Tr.leaf (r6_inf !r6_neg a == r6_neg b, 8))
                (Tr.br (r6_is a 0) (Tr.leaf (r6_zero !r6_neg a == r6_neg b, 0))
                  (Tr.br (r6_is b 3) (Tr.leaf (r6_zero !r6_neg a == r6_neg b, 0))
                    (Tr.ast (r6_bits_s (r4_Split a).fst)
                      (Tr.ast (r6_bits_s (r4_Split b).fst)
                        (Tr.ast
                          (r5_Signed_s (!r6_neg a == r6_neg b)
                            (RX.mk (r6_bits (r4_Split a).fst) (r6_bits (r4_Split b).fst)
                              (IntKind.i64.wrap ((r4_Split a).snd - (r4_Split b).snd)) false)
                            mode)
                          (Tr.leaf
                            (r5_Signed (!r6_neg a == r6_neg b)
                              (RX.mk (r6_bits (r4_Split a).fst) (r6_bits (r4_Split b).fst)
                                (IntKind.i64.wrap ((r4_Split a).snd - (r4_Split b).snd)) false)
                              mode)))))))))))
        (Tr.br (r6_is a 0)
          (Tr.br (r6_is b 0) (Tr.leaf (9221120237041090560, 16))
            (Tr.br (r6_is a 3) (Tr.leaf (r6_inf !r6_neg a == r6_neg b, 0))
              (Tr.br (r6_is b 0) (Tr.leaf (r6_inf !r6_neg a == r6_neg b, 8))
                (Tr.br (r6_is a 0) (Tr.leaf (r6_zero !r6_neg a == r6_neg b, 0))
                  (Tr.br (r6_is b 3) (Tr.leaf (r6_zero !r6_neg a == r6_neg b, 0))
                    (Tr.ast (r6_bits_s (r4_Split a).fst)
                      (Tr.ast (r6_bits_s (r4_Split b).fst)
                        (Tr.ast
                          (r5_Signed_s (!r6_neg a == r6_neg b)
                            (RX.mk (r6_bits (r4_Split a).fst) (r6_bits (r4_Split b).fst)
                              (IntKind.i64.wrap ((r4_Split a).snd - (r4_Split b).snd)) false)
                            mode)
                          (Tr.leaf
                            (r5_Signed (!r6_neg a == r6_neg b)
                              (RX.mk (r6_bits (r4_Split a).fst) (r6_bits (r4_Split b).fst)
                                (IntKind.i64.wrap ((r4_Split a).snd - (r4_Split b).snd)) false)
                              mode))))))))))
          (Tr.br (r6_is a 3) (Tr.leaf (r6_inf !r6_neg a == r6_neg b, 0))
            (Tr.br (r6_is b 0) (Tr.leaf (r6_inf !r6_neg a == r6_neg b, 8))
              (Tr.br (r6_is a 0) (Tr.leaf (r6_zero !r6_neg a == r6_neg b, 0))
                (Tr.br (r6_is b 3) (Tr.leaf (r6_zero !r6_neg a == r6_neg b, 0))
                  (Tr.ast (r6_bits_s (r4_Split a).fst)
                    (Tr.ast (r6_bits_s (r4_Split b).fst)
                      (Tr.ast
                        (r5_Signed_s (!r6_neg a == r6_neg b)
                          (RX.mk (r6_bits (r4_Split a).fst) (r6_bits (r4_Split b).fst)
                            (IntKind.i64.wrap ((r4_Split a).snd - (r4_Split b).snd)) false)
                          mode)
                        (Tr.leaf
                          (r5_Signed (!r6_neg a == r6_neg b)
                            (RX.mk (r6_bits (r4_Split a).fst) (r6_bits (r4_Split b).fst)
                              (IntKind.i64.wrap ((r4_Split a).snd - (r4_Split b).snd)) false)
                            mode))))))))))))
def r6_Div_t (a : Int) (b : Int) (mode : Int) : Tr (Int × Int) := r6_Div_T r6_is r6_neg r6_inf r6_zero r4_Split r6_bits r6_bits_s r5_Signed r5_Signed_s a b mode
def r6_Div (a : Int) (b : Int) (mode : Int) : Int × Int := (r6_Div_t a b mode).val
def r6_Div_s (a : Int) (b : Int) (mode : Int) : Bool := (r6_Div_t a b mode).safe
end Go.Fb
