/- Layer 5: what the laws compute, as definitions. Conditions: none. -/
import Derived.Test.YtggmmkdfgjnjfaaUd
namespace Go.Fb
open Go.Ev
def l5_works_T (n_Round : Bool → U2 → Int → Bool → Int → Int × Int) (n_Round_s : Bool → U2 → Int → Bool → Int → Bool) (n_New : Int → (List Int)) (n_New_s : Int → Bool) (q_New : Bool → (List Int) → (List Int) → RR × Int) (q_New_s : Bool → (List Int) → (List Int) → Bool) (n_Exact : RR → Int → Int × Int) (n_Exact_s : RR → Int → Bool) (q_Dyad : Bool → Int → Int → RR × Int) (q_Dyad_s : Bool → Int → Int → Bool) (p_Inf : Bool → Int) (n_Ulp : Int → Int) (n_Ulp_s : Int → Bool)  : Tr (Bool) :=
  Tr.ast (n_Round_s false (U2.mk 0 3) (-1) false 0)
    (Tr.ast (n_New_s 1)
      (Tr.ast (n_New_s 3)
        (Tr.ast (q_New_s false (n_New 1) (n_New 3))
          (Tr.ast (n_Exact_s (q_New false (n_New 1) (n_New 3)).fst 0)
            (Tr.ast (n_Exact_s (q_New false (n_New 1) (n_New 3)).fst 1)
              (Tr.ast (q_Dyad_s false 1 (-1075))
                (Tr.ast (n_Exact_s (q_Dyad false 1 (-1075)).fst 0)
                  (Tr.ast (n_Exact_s (q_Dyad false 1 (-1075)).fst 1)
                    (Tr.ast (n_Round_s true (U2.mk 0 1) 1024 false 0)
                      (Tr.ast (n_Round_s true (U2.mk 0 1) 1024 false 1)
                        (Tr.br ((n_Round false (U2.mk 0 3) (-1) false 0).fst == 4609434218613702656)
                          (Tr.br ((n_Round false (U2.mk 0 3) (-1) false 0).snd == 0)
                            (Tr.br ((n_Exact (q_New false (n_New 1) (n_New 3)).fst 0).fst == 4599676419421066581)
                              (Tr.br ((n_Exact (q_New false (n_New 1) (n_New 3)).fst 0).snd == 1)
                                (Tr.br ((n_Exact (q_New false (n_New 1) (n_New 3)).fst 1).fst == 4599676419421066582)
                                  (Tr.br ((n_Exact (q_Dyad false 1 (-1075)).fst 0).fst == 0)
                                    (Tr.br ((n_Exact (q_Dyad false 1 (-1075)).fst 0).snd == 3)
                                      (Tr.br ((n_Exact (q_Dyad false 1 (-1075)).fst 1).fst == 1)
                                        (Tr.br ((n_Round true (U2.mk 0 1) 1024 false 0).fst == p_Inf true)
                                          (Tr.br ((n_Round true (U2.mk 0 1) 1024 false 0).snd == 5)
                                            (Tr.br ((n_Round true (U2.mk 0 1) 1024 false 1).fst == 18442240474082181119)
                                              (Tr.ast (n_Ulp_s 4607182418800017408)
                                                (Tr.leaf (n_Ulp 4607182418800017408 == 4372995238176751616)))
                                              (Tr.leaf false))
                                            (Tr.leaf false))
                                          (Tr.leaf false))
                                        (Tr.leaf false))
                                      (Tr.leaf false))
                                    (Tr.leaf false))
                                  (Tr.leaf false))
                                (Tr.leaf false))
                              (Tr.leaf false))
                            (Tr.leaf false))
                          (Tr.leaf false))))))))))))
def l5_works_t  : Tr (Bool) := l5_works_T n_Round n_Round_s n_New n_New_s q_New q_New_s n_Exact n_Exact_s q_Dyad q_Dyad_s p_Inf n_Ulp n_Ulp_s 
def l5_works  : Bool := (l5_works_t ).val
def l5_works_s  : Bool := (l5_works_t ).safe
def l5_of_T (r2_Bits : (List Int) → (List Bool)) (r2_Bits_s : (List Int) → Bool) (r3_Low : Bool → (List Bool) → (List Bool) → RQ) (r3_Low_s : Bool → (List Bool) → (List Bool) → Bool) (r : RR) : Tr (RQ) :=
  Tr.ast (r2_Bits_s r.num)
    (Tr.ast (r2_Bits_s r.den)
      (Tr.ast (r3_Low_s r.neg (r2_Bits r.num) (r2_Bits r.den)) (Tr.leaf (r3_Low r.neg (r2_Bits r.num) (r2_Bits r.den)))))
def l5_of_t (r : RR) : Tr (RQ) := l5_of_T r2_Bits r2_Bits_s r3_Low r3_Low_s r
def l5_of (r : RR) : RQ := (l5_of_t r).val
def l5_of_s (r : RR) : Bool := (l5_of_t r).safe
def l_RoundRounds_T (l5_works : Bool) (l5_works_s : Bool) (n_Round : Bool → U2 → Int → Bool → Int → Int × Int) (n_Round_s : Bool → U2 → Int → Bool → Int → Bool) (r1_Of2 : (Int × Int) → (List Bool)) (r1_Of2_s : (Int × Int) → Bool) (r5_Round : Bool → (List Bool) → Int → Bool → Int → Int × Int) (r5_Round_s : Bool → (List Bool) → Int → Bool → Int → Bool) (neg : Bool) (m : U2) (e : Int) (rest : Bool) (mode : Int) : Tr (Bool) :=
  Tr.ast l5_works_s
    (Tr.br (!l5_works) (Tr.leaf false)
      (Tr.ast (n_Round_s neg m e rest mode)
        (Tr.ast (r1_Of2_s (m.lo, m.hi))
          (Tr.ast (r5_Round_s neg (r1_Of2 (m.lo, m.hi)) e rest mode)
            (Tr.br l5_works
              (Tr.br ((n_Round neg m e rest mode).fst == (r5_Round neg (r1_Of2 (m.lo, m.hi)) e rest mode).fst)
                (Tr.leaf ((n_Round neg m e rest mode).snd == (r5_Round neg (r1_Of2 (m.lo, m.hi)) e rest mode).snd))
                (Tr.leaf false))
              (Tr.leaf false))))))
def l_RoundRounds_t (neg : Bool) (m : U2) (e : Int) (rest : Bool) (mode : Int) : Tr (Bool) := l_RoundRounds_T l5_works l5_works_s n_Round n_Round_s r1_Of2 r1_Of2_s r5_Round r5_Round_s neg m e rest mode
def l_RoundRounds (neg : Bool) (m : U2) (e : Int) (rest : Bool) (mode : Int) : Bool := (l_RoundRounds_t neg m e rest mode).val
def l_RoundRounds_s (neg : Bool) (m : U2) (e : Int) (rest : Bool) (mode : Int) : Bool := (l_RoundRounds_t neg m e rest mode).safe
def l_RoundExacts_T (l5_works : Bool) (l5_works_s : Bool) (n_Exact : RR → Int → Int × Int) (n_Exact_s : RR → Int → Bool) (l5_of : RR → RQ) (l5_of_s : RR → Bool) (r5_Exact : RQ → Int → Int × Int) (r5_Exact_s : RQ → Int → Bool) (n_Frac : Bool → (List Int) → (List Int) → Int → Int × Int) (n_Frac_s : Bool → (List Int) → (List Int) → Int → Bool) (r : RR) (mode : Int) : Tr (Bool) :=
  Tr.ast l5_works_s
    (Tr.br (!l5_works) (Tr.leaf false)
      (Tr.br (decide ((r.num.length : Int) > 6)) (Tr.leaf l5_works)
        (Tr.br (decide ((r.den.length : Int) > 6)) (Tr.leaf l5_works)
          (Tr.ast (n_Exact_s r mode)
            (Tr.ast (l5_of_s r)
              (Tr.ast (r5_Exact_s (l5_of r) mode)
                (Tr.ast (n_Frac_s r.neg r.num r.den mode)
                  (Tr.br l5_works
                    (Tr.br ((n_Exact r mode).fst == (r5_Exact (l5_of r) mode).fst)
                      (Tr.br ((n_Exact r mode).snd == (r5_Exact (l5_of r) mode).snd)
                        (Tr.br ((n_Frac r.neg r.num r.den mode).fst == (r5_Exact (l5_of r) mode).fst)
                          (Tr.leaf ((n_Frac r.neg r.num r.den mode).snd == (r5_Exact (l5_of r) mode).snd))
                          (Tr.leaf false))
                        (Tr.leaf false))
                      (Tr.leaf false))
                    (Tr.leaf false)))))))))
def l_RoundExacts_t (r : RR) (mode : Int) : Tr (Bool) := l_RoundExacts_T l5_works l5_works_s n_Exact n_Exact_s l5_of l5_of_s r5_Exact r5_Exact_s n_Frac n_Frac_s r mode
def l_RoundExacts (r : RR) (mode : Int) : Bool := (l_RoundExacts_t r mode).val
def l_RoundExacts_s (r : RR) (mode : Int) : Bool := (l_RoundExacts_t r mode).safe
def l_RoundStays_T (l5_works : Bool) (l5_works_s : Bool) (p_Value : Int → RR × Bool) (p_Value_s : Int → Bool) (n_Exact : RR → Int → Int × Int) (n_Exact_s : RR → Int → Bool) (p_Cmp : Int → Int → Int × Bool) (q_Sign : RR → Int) (q_Sign_s : RR → Bool) (f : Int) (mode : Int) : Tr (Bool) :=
  Tr.ast l5_works_s
    (Tr.br (!l5_works) (Tr.leaf false)
      (Tr.ast (p_Value_s f)
        (Tr.br (!(p_Value f).snd) (Tr.leaf l5_works)
          (Tr.ast (n_Exact_s (p_Value f).fst mode)
            (Tr.br l5_works
              (Tr.br ((p_Cmp (n_Exact (p_Value f).fst mode).fst f).fst == 0)
                (Tr.br (p_Cmp (n_Exact (p_Value f).fst mode).fst f).snd
                  (Tr.br ((n_Exact (p_Value f).fst mode).snd == 0)
                    (Tr.ast (q_Sign_s (p_Value f).fst)
                      (Tr.br (q_Sign (p_Value f).fst == 0) (Tr.leaf true)
                        (Tr.leaf ((n_Exact (p_Value f).fst mode).fst == f))))
                    (Tr.leaf false))
                  (Tr.leaf false))
                (Tr.leaf false))
              (Tr.leaf false))))))
def l_RoundStays_t (f : Int) (mode : Int) : Tr (Bool) := l_RoundStays_T l5_works l5_works_s p_Value p_Value_s n_Exact n_Exact_s p_Cmp q_Sign q_Sign_s f mode
def l_RoundStays (f : Int) (mode : Int) : Bool := (l_RoundStays_t f mode).val
def l_RoundStays_s (f : Int) (mode : Int) : Bool := (l_RoundStays_t f mode).safe
def l_RoundRises_T (l5_works : Bool) (l5_works_s : Bool) (n_Exact : RR → Int → Int × Int) (n_Exact_s : RR → Int → Bool) (q_Cmp : RR → RR → Int) (q_Cmp_s : RR → RR → Bool) (p_Cmp : Int → Int → Int × Bool) (p_Less : Int → Int → Bool) (a : RR) (b : RR) (mode : Int) : Tr (Bool) :=
  Tr.ast l5_works_s
    (Tr.br (!l5_works) (Tr.leaf false)
      (Tr.br (decide ((a.num.length : Int) > 6)) (Tr.leaf l5_works)
        (Tr.br (decide ((a.den.length : Int) > 6)) (Tr.leaf l5_works)
          (Tr.br (decide ((b.num.length : Int) > 6)) (Tr.leaf l5_works)
            (Tr.br (decide ((b.den.length : Int) > 6)) (Tr.leaf l5_works)
              (Tr.ast (n_Exact_s a mode)
                (Tr.ast (n_Exact_s b mode)
                  (Tr.ast (n_Exact_s a 2)
                    (Tr.ast (n_Exact_s a 0)
                      (Tr.ast (n_Exact_s a 1)
                        (Tr.ast (q_Cmp_s a b)
                          (Tr.br l5_works
                            (Tr.br (p_Cmp (n_Exact a mode).fst (n_Exact b mode).fst).snd
                              (Tr.br (decide (q_Cmp a b > 0))
                                (Tr.br (decide (q_Cmp a b < 0))
                                  (Tr.br (!p_Less (n_Exact a 0).fst (n_Exact a 2).fst)
                                    (Tr.leaf !p_Less (n_Exact a 1).fst (n_Exact a 0).fst) (Tr.leaf false))
                                  (Tr.br (decide ((p_Cmp (n_Exact a mode).fst (n_Exact b mode).fst).fst ≥ 0))
                                    (Tr.br (!p_Less (n_Exact a 0).fst (n_Exact a 2).fst)
                                      (Tr.leaf !p_Less (n_Exact a 1).fst (n_Exact a 0).fst) (Tr.leaf false))
                                    (Tr.leaf false)))
                                (Tr.br (decide ((p_Cmp (n_Exact a mode).fst (n_Exact b mode).fst).fst ≤ 0))
                                  (Tr.br (decide (q_Cmp a b < 0))
                                    (Tr.br (!p_Less (n_Exact a 0).fst (n_Exact a 2).fst)
                                      (Tr.leaf !p_Less (n_Exact a 1).fst (n_Exact a 0).fst) (Tr.leaf false))
                                    (Tr.br (decide ((p_Cmp (n_Exact a mode).fst (n_Exact b mode).fst).fst ≥ 0))
                                      (Tr.br (!p_Less (n_Exact a 0).fst (n_Exact a 2).fst)
                                        (Tr.leaf !p_Less (n_Exact a 1).fst (n_Exact a 0).fst) (Tr.leaf false))
                                      (Tr.leaf false)))
                                  (Tr.leaf false)))
                              (Tr.leaf false))
                            (Tr.leaf false)))))))))))))
def l_RoundRises_t (a : RR) (b : RR) (mode : Int) : Tr (Bool) := l_RoundRises_T l5_works l5_works_s n_Exact n_Exact_s q_Cmp q_Cmp_s p_Cmp p_Less a b mode
def l_RoundRises (a : RR) (b : RR) (mode : Int) : Bool := (l_RoundRises_t a b mode).val
def l_RoundRises_s (a : RR) (b : RR) (mode : Int) : Bool := (l_RoundRises_t a b mode).safe
def l_RoundUlps_T (l5_works : Bool) (l5_works_s : Bool) (n_Ulp : Int → Int) (n_Ulp_s : Int → Bool) (r4_Finite : Int → Bool) (p_Quiet : Int) (r4_Split : Int → Int × Int) (p_Value : Int → RR × Bool) (p_Value_s : Int → Bool) (q_Dyad : Bool → Int → Int → RR × Int) (q_Dyad_s : Bool → Int → Int → Bool) (q_Cmp : RR → RR → Int) (q_Cmp_s : RR → RR → Bool) (f : Int) : Tr (Bool) :=
  Tr.ast l5_works_s
    (Tr.br (!l5_works) (Tr.leaf false)
      (Tr.ast (n_Ulp_s f)
        (Tr.br (!r4_Finite f) (Tr.br l5_works (Tr.leaf (n_Ulp f == p_Quiet)) (Tr.leaf false))
          (Tr.br ((r4_Split f).fst == 0) (Tr.br l5_works (Tr.leaf (n_Ulp f == 1)) (Tr.leaf false))
            (Tr.ast (p_Value_s (n_Ulp f))
              (Tr.ast (q_Dyad_s false 1 (r4_Split f).snd)
                (Tr.br l5_works
                  (Tr.ast (q_Cmp_s (p_Value (n_Ulp f)).fst (q_Dyad false 1 (r4_Split f).snd).fst)
                    (Tr.leaf (q_Cmp (p_Value (n_Ulp f)).fst (q_Dyad false 1 (r4_Split f).snd).fst == 0)))
                  (Tr.leaf false))))))))
def l_RoundUlps_t (f : Int) : Tr (Bool) := l_RoundUlps_T l5_works l5_works_s n_Ulp n_Ulp_s r4_Finite p_Quiet r4_Split p_Value p_Value_s q_Dyad q_Dyad_s q_Cmp q_Cmp_s f
def l_RoundUlps (f : Int) : Bool := (l_RoundUlps_t f).val
def l_RoundUlps_s (f : Int) : Bool := (l_RoundUlps_t f).safe
end Go.Fb
