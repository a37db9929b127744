/- Layer 5: what the laws compute, as definitions. Conditions: none. -/
import Derived.Test.YtggmmkdfgjnjfaaUd
namespace Go.Fb
open Go.Ev
def l5_works_T (n_Round : Bool → U2 → Int → Bool → Int → Int × Int) (n_Round_s : Bool → U2 → Int → Bool → Int → Bool) (n_New : Int → (List Int)) (n_New_s : Int → Bool) (q_New : Bool → (List Int) → (List Int) → RR × Int) (q_New_s : Bool → (List Int) → (List Int) → Bool) (n_Exact : RR → Int → Int × Int) (n_Exact_s : RR → Int → Bool) (q_Dyad : Bool → Int → Int → RR × Int) (q_Dyad_s : Bool → Int → Int → Bool) (p_Inf : Bool → Int) (n_Ulp : Int → Int) (n_Ulp_s : Int → Bool)  : Tr (Bool) :=
  Tr.ast (n_Round_s false (U2.mk 0 3) (-1) false 0)
    (Tr.ast (n_New_s 1)
      (Tr.ast (n_New_s 3)
        (Tr.ast (q_New_s false (n_New 1) (n_New 3))
          (Tr.ast (n_Exact_s (q_New false (n_New 1) (n_New 3)).fst 0)
            (Tr.ast (n_Exact_s (q_New false (n_New 1) (n_New 3)).fst 1)
              (Tr.ast (q_Dyad_s false 1 (-1075))
                (Tr.ast (n_Exact_s (q_Dyad false 1 (-1075)).fst 0)
                  (Tr.ast (n_Exact_s (q_Dyad false 1 (-1075)).fst 1)
                    (Tr.ast (n_Round_s true (U2.mk 0 1) 1024 false 0)
                      (Tr.ast (n_Round_s true (U2.mk 0 1) 1024 false 1)
                        (Tr.br ((n_Round false (U2.mk 0 3) (-1) false 0).fst == 4609434218613702656)
                          (Tr.br ((n_Round false (U2.mk 0 3) (-1) false 0).snd == 0)
                            (Tr.br ((n_Exact (q_New false (n_New 1) (n_New 3)).fst 0).fst == 4599676419421066581)
                              (Tr.br ((n_Exact (q_New false (n_New 1) (n_New 3)).fst 0).snd == 1)
                                (Tr.br ((n_Exact (q_New false (n_New 1) (n_New 3)).fst 1).fst == 4599676419421066582)
                                  (Tr.br ((n_Exact (q_Dyad false 1 (-1075)).fst 0).fst == 0)
                                    (Tr.br ((n_Exact (q_Dyad false 1 (-1075)).fst 0).snd == 3)
                                      (Tr.br ((n_Exact (q_Dyad false 1 (-1075)).fst 1).fst == 1)
                                        (Tr.br ((n_Round true (U2.mk 0 1) 1024 false 0).fst == p_Inf true)
                                          (Tr.br ((n_Round true (U2.mk 0 1) 1024 false 0).snd == 5)
                                            (Tr.br ((n_Round true (U2.mk 0 1) 1024 false 1).fst == 18442240474082181119)
                                              (Tr.ast (n_Ulp_s 4607182418800017408)
                                                (Tr.leaf (n_Ulp 4607182418800017408 == 4372995238176751616)))
                                              (Tr.leaf false))
                                            (Tr.leaf false))
                                          (Tr.leaf false))
                                        (Tr.leaf false))
                                      (Tr.leaf false))
                                    (Tr.leaf false))
                                  (Tr.leaf false))
                                (Tr.leaf false))
                              (Tr.leaf false))
                            (Tr.leaf false))
                          (Tr.leaf false))))))))))))
def l5_works_t  : Tr (Bool) := l5_works_T n_Round n_Round_s n_New n_New_s q_New q_New_s n_Exact n_Exact_s q_Dyad q_Dyad_s p_Inf n_Ulp n_Ulp_s 
def l5_works  : Bool := (l5_works_t ).val
def l5_works_s  : Bool := (l5_works_t ).safe
end Go.Fb
namespace Go.Fb
open Go.Ev
abbrev RhRow := Int × Bool × Int × Int × Int × Bool × List Int × List Int
def rh_z : RhRow := (0, false, 0, 0, 0, false, [], [])
def rh1_T (l5_works : Bool) (l5_works_s : Bool) (n_Exact : RR → Int → Int × Int) (n_Exact_s : RR → Int → Bool) (p_Value : Int → RR × Bool) (p_Value_s : Int → Bool) (q_Cmp : RR → RR → Int) (q_Cmp_s : RR → RR → Bool) (p_Inf : Bool → Int) (r : RR) (g : Int) : Tr (Option Bool × RhRow) :=
  let t0 : Int := (n_Exact r 2).fst;
  let t1 : Int := (n_Exact r 1).fst;
  let t2 : RR × Bool := p_Value t1;
  let t3 : RR × Bool := p_Value t0;
  let t4 : RR := t3.fst;
  let t5 : Bool := t3.snd;
  let t6 : Bool := t2.snd;
  let t7 : RR := t2.fst;
  let t8 : Int := q_Cmp t4 r;
  let t9 : Int := q_Cmp t7 r;
  Tr.ast l5_works_s
    (Tr.br (!l5_works) (Tr.leaf (some false, rh_z))
      (Tr.br (decide ((r.num.length : Int) > 6)) (Tr.leaf (some l5_works, rh_z))
        (Tr.br (decide ((r.den.length : Int) > 6)) (Tr.leaf (some l5_works, rh_z))
          (Tr.ast (n_Exact_s r 2)
            (Tr.ast (n_Exact_s r 1)
              (Tr.ast (n_Exact_s r 0)
                (Tr.ast (p_Value_s t0)
                  (Tr.ast (p_Value_s t1)
                    (Tr.br t5
                      (Tr.ast (q_Cmp_s t4 r)
                        (Tr.br (decide (t8 > 0)) (Tr.leaf (some false, rh_z))
                          (Tr.br t6
                            (Tr.ast (q_Cmp_s t7 r)
                              (Tr.br (decide (t9 < 0)) (Tr.leaf (some false, rh_z))
                                (Tr.br (!t5)
                                  (Tr.br (t0 != p_Inf true) (Tr.leaf (some false, rh_z))
                                    (Tr.br (!t6)
                                      (Tr.br (t1 != p_Inf false) (Tr.leaf (some false, rh_z))
                                        (Tr.leaf (none, g, l5_works, t0, t1, (n_Exact r 0).fst, r.neg, r.num, r.den)))
                                      (Tr.leaf (none, g, l5_works, t0, t1, (n_Exact r 0).fst, r.neg, r.num, r.den))))
                                  (Tr.br (!t6)
                                    (Tr.br (t1 != p_Inf false) (Tr.leaf (some false, rh_z))
                                      (Tr.leaf (none, g, l5_works, t0, t1, (n_Exact r 0).fst, r.neg, r.num, r.den)))
                                    (Tr.leaf (none, g, l5_works, t0, t1, (n_Exact r 0).fst, r.neg, r.num, r.den))))))
                            (Tr.br (!t5)
                              (Tr.br (t0 != p_Inf true) (Tr.leaf (some false, rh_z))
                                (Tr.br (!t6)
                                  (Tr.br (t1 != p_Inf false) (Tr.leaf (some false, rh_z))
                                    (Tr.leaf (none, g, l5_works, t0, t1, (n_Exact r 0).fst, r.neg, r.num, r.den)))
                                  (Tr.leaf (none, g, l5_works, t0, t1, (n_Exact r 0).fst, r.neg, r.num, r.den))))
                              (Tr.br (!t6)
                                (Tr.br (t1 != p_Inf false) (Tr.leaf (some false, rh_z))
                                  (Tr.leaf (none, g, l5_works, t0, t1, (n_Exact r 0).fst, r.neg, r.num, r.den)))
                                (Tr.leaf (none, g, l5_works, t0, t1, (n_Exact r 0).fst, r.neg, r.num, r.den)))))))
                      (Tr.br t6
                        (Tr.ast (q_Cmp_s t7 r)
                          (Tr.br (decide (t9 < 0)) (Tr.leaf (some false, rh_z))
                            (Tr.br (!t5)
                              (Tr.br (t0 != p_Inf true) (Tr.leaf (some false, rh_z))
                                (Tr.br (!t6)
                                  (Tr.br (t1 != p_Inf false) (Tr.leaf (some false, rh_z))
                                    (Tr.leaf (none, g, l5_works, t0, t1, (n_Exact r 0).fst, r.neg, r.num, r.den)))
                                  (Tr.leaf (none, g, l5_works, t0, t1, (n_Exact r 0).fst, r.neg, r.num, r.den))))
                              (Tr.br (!t6)
                                (Tr.br (t1 != p_Inf false) (Tr.leaf (some false, rh_z))
                                  (Tr.leaf (none, g, l5_works, t0, t1, (n_Exact r 0).fst, r.neg, r.num, r.den)))
                                (Tr.leaf (none, g, l5_works, t0, t1, (n_Exact r 0).fst, r.neg, r.num, r.den))))))
                        (Tr.br (!t5)
                          (Tr.br (t0 != p_Inf true) (Tr.leaf (some false, rh_z))
                            (Tr.br (!t6)
                              (Tr.br (t1 != p_Inf false) (Tr.leaf (some false, rh_z))
                                (Tr.leaf (none, g, l5_works, t0, t1, (n_Exact r 0).fst, r.neg, r.num, r.den)))
                              (Tr.leaf (none, g, l5_works, t0, t1, (n_Exact r 0).fst, r.neg, r.num, r.den))))
                          (Tr.br (!t6)
                            (Tr.br (t1 != p_Inf false) (Tr.leaf (some false, rh_z))
                              (Tr.leaf (none, g, l5_works, t0, t1, (n_Exact r 0).fst, r.neg, r.num, r.den)))
                            (Tr.leaf (none, g, l5_works, t0, t1, (n_Exact r 0).fst, r.neg, r.num, r.den))))))))))))))
def rh1_t (r : RR) (g : Int) : Tr (Option Bool × RhRow) := rh1_T l5_works l5_works_s n_Exact n_Exact_s p_Value p_Value_s q_Cmp q_Cmp_s p_Inf r g
def rh2_T (p_Next : Int → Int) (q_Sign : RR → Int) (q_Sign_s : RR → Bool) (g : Int) (wk : Bool) (d : Int) (u : Int) (n : Int) (ng : Bool) (nu : List Int) (de : List Int) : Tr (Option Bool × RhRow) :=
  let t0 : Bool := !u == 1;
  Tr.br (n != d)
    (Tr.br (n != u) (Tr.leaf (some false, rh_z))
      (Tr.br (d != u)
        (Tr.br (p_Next d != u)
          (Tr.ast (q_Sign_s (RR.mk ng nu de))
            (Tr.br (q_Sign (RR.mk ng nu de) != 0)
              (Tr.br (p_Next d == 9223372036854775808)
                (Tr.br (!u == 9223372036854775808)
                  (Tr.br (d == 9223372036854775808)
                    (Tr.br t0
                      (Tr.br (d == 0) (Tr.br t0 (Tr.leaf (some false, rh_z)) (Tr.leaf (none, g, wk, d, u, n, ng, nu, de)))
                        (Tr.leaf (some false, rh_z)))
                      (Tr.leaf (none, g, wk, d, u, n, ng, nu, de)))
                    (Tr.br (d == 0) (Tr.br t0 (Tr.leaf (some false, rh_z)) (Tr.leaf (none, g, wk, d, u, n, ng, nu, de)))
                      (Tr.leaf (some false, rh_z))))
                  (Tr.leaf (none, g, wk, d, u, n, ng, nu, de)))
                (Tr.br (d == 9223372036854775808)
                  (Tr.br t0
                    (Tr.br (d == 0) (Tr.br t0 (Tr.leaf (some false, rh_z)) (Tr.leaf (none, g, wk, d, u, n, ng, nu, de)))
                      (Tr.leaf (some false, rh_z)))
                    (Tr.leaf (none, g, wk, d, u, n, ng, nu, de)))
                  (Tr.br (d == 0) (Tr.br t0 (Tr.leaf (some false, rh_z)) (Tr.leaf (none, g, wk, d, u, n, ng, nu, de)))
                    (Tr.leaf (some false, rh_z)))))
              (Tr.leaf (none, g, wk, d, u, n, ng, nu, de))))
          (Tr.leaf (none, g, wk, d, u, n, ng, nu, de)))
        (Tr.leaf (none, g, wk, d, u, n, ng, nu, de))))
    (Tr.br (d != u)
      (Tr.br (p_Next d != u)
        (Tr.ast (q_Sign_s (RR.mk ng nu de))
          (Tr.br (q_Sign (RR.mk ng nu de) != 0)
            (Tr.br (p_Next d == 9223372036854775808)
              (Tr.br (!u == 9223372036854775808)
                (Tr.br (d == 9223372036854775808)
                  (Tr.br t0
                    (Tr.br (d == 0) (Tr.br t0 (Tr.leaf (some false, rh_z)) (Tr.leaf (none, g, wk, d, u, n, ng, nu, de)))
                      (Tr.leaf (some false, rh_z)))
                    (Tr.leaf (none, g, wk, d, u, n, ng, nu, de)))
                  (Tr.br (d == 0) (Tr.br t0 (Tr.leaf (some false, rh_z)) (Tr.leaf (none, g, wk, d, u, n, ng, nu, de)))
                    (Tr.leaf (some false, rh_z))))
                (Tr.leaf (none, g, wk, d, u, n, ng, nu, de)))
              (Tr.br (d == 9223372036854775808)
                (Tr.br t0
                  (Tr.br (d == 0) (Tr.br t0 (Tr.leaf (some false, rh_z)) (Tr.leaf (none, g, wk, d, u, n, ng, nu, de)))
                    (Tr.leaf (some false, rh_z)))
                  (Tr.leaf (none, g, wk, d, u, n, ng, nu, de)))
                (Tr.br (d == 0) (Tr.br t0 (Tr.leaf (some false, rh_z)) (Tr.leaf (none, g, wk, d, u, n, ng, nu, de)))
                  (Tr.leaf (some false, rh_z)))))
            (Tr.leaf (none, g, wk, d, u, n, ng, nu, de))))
        (Tr.leaf (none, g, wk, d, u, n, ng, nu, de)))
      (Tr.leaf (none, g, wk, d, u, n, ng, nu, de)))
def rh2_t (g : Int) (wk : Bool) (d : Int) (u : Int) (n : Int) (ng : Bool) (nu : List Int) (de : List Int) : Tr (Option Bool × RhRow) := rh2_T p_Next q_Sign q_Sign_s g wk d u n ng nu de
def rh3_T (p_Value : Int → RR × Bool) (p_Value_s : Int → Bool) (q_Cmp : RR → RR → Int) (q_Cmp_s : RR → RR → Bool) (q_Sub : RR → RR → RR) (q_Sub_s : RR → RR → Bool) (q_Abs : RR → RR) (q_Abs_s : RR → Bool) (g : Int) (wk : Bool) (d : Int) (u : Int) (n : Int) (ng : Bool) (nu : List Int) (de : List Int) : Tr (Option Bool × RhRow) :=
  Tr.ast (p_Value_s n)
    (Tr.ast (p_Value_s g)
      (Tr.br wk
        (Tr.br (!(p_Value n).snd) (Tr.leaf (some true, rh_z))
          (Tr.br (!(p_Value g).snd) (Tr.leaf (some true, rh_z))
            (Tr.ast (q_Sub_s (p_Value n).fst (RR.mk ng nu de))
              (Tr.ast (q_Abs_s (q_Sub (p_Value n).fst (RR.mk ng nu de)))
                (Tr.ast (q_Sub_s (p_Value g).fst (RR.mk ng nu de))
                  (Tr.ast (q_Abs_s (q_Sub (p_Value g).fst (RR.mk ng nu de)))
                    (Tr.ast
                      (q_Cmp_s (q_Abs (q_Sub (p_Value n).fst (RR.mk ng nu de)))
                        (q_Abs (q_Sub (p_Value g).fst (RR.mk ng nu de))))
                      (Tr.leaf
                        (some
                            (decide
                              (q_Cmp (q_Abs (q_Sub (p_Value n).fst (RR.mk ng nu de)))
                                  (q_Abs (q_Sub (p_Value g).fst (RR.mk ng nu de))) ≤
                                0)),
                          rh_z)))))))))
        (Tr.leaf (some false, rh_z))))
def rh3_t (g : Int) (wk : Bool) (d : Int) (u : Int) (n : Int) (ng : Bool) (nu : List Int) (de : List Int) : Tr (Option Bool × RhRow) := rh3_T p_Value p_Value_s q_Cmp q_Cmp_s q_Sub q_Sub_s q_Abs q_Abs_s g wk d u n ng nu de
end Go.Fb
