/- Contracts and laws of functions of the program, on the way to the claim. Conditions: as each theorem states. -/
import Derived.Test.YtfbpklopnnnniaaS1m
namespace Go.Proofs.Ytfbpklopnnnniaa
open Go.Ev Go.Fb


/-! flyball/flyballlaw21.works -/
def l21_works_T (ints_Point : Int → I3) (clock_Of : I3 → I3 → CK) (clock_Move : CK → I3 → CK) (clock_Tick : CK → CK) (clock_All : CK) (ints_Full : I3) (ints_Make : Int → Int → I3) (clock_Reduce : I3 → CK → I3 → I3) (clock_Has : CK → Int → Int → Bool) (clock_Inside : CK → CK → Bool) (clock_Join : CK → CK → CK) (clock_Meet : CK → CK → CK) (clock_Tight : CK → I3 → I3 → CK) (clock_Widen : CK → CK → (List Int) → CK) (clock_Widen_s : CK → CK → (List Int) → Bool)  : Tr (Bool) :=
  Tr.br
    (and
      (and ((clock_Of (ints_Point 0) (ints_Point 0)).d.e == (ints_Point 0).e)
        (and ((clock_Of (ints_Point 0) (ints_Point 0)).d.lo == (ints_Point 0).lo)
          (and ((clock_Of (ints_Point 0) (ints_Point 0)).d.hi == (ints_Point 0).hi) true)))
      (and
        (and ((clock_Of (ints_Point 0) (ints_Point 0)).p.e == (ints_Point 0).e)
          (and ((clock_Of (ints_Point 0) (ints_Point 0)).p.lo == (ints_Point 0).lo)
            (and ((clock_Of (ints_Point 0) (ints_Point 0)).p.hi == (ints_Point 0).hi) true)))
        true))
    (Tr.br
      (and
        (and ((clock_Tick (clock_Move (clock_Of (ints_Point 0) (ints_Point 0)) (ints_Point 1))).d.e == (ints_Point 0).e)
          (and
            ((clock_Tick (clock_Move (clock_Of (ints_Point 0) (ints_Point 0)) (ints_Point 1))).d.lo == (ints_Point 0).lo)
            (and
              ((clock_Tick (clock_Move (clock_Of (ints_Point 0) (ints_Point 0)) (ints_Point 1))).d.hi ==
                (ints_Point 0).hi)
              true)))
        (and
          (and ((clock_Tick (clock_Move (clock_Of (ints_Point 0) (ints_Point 0)) (ints_Point 1))).p.e == (ints_Point 2).e)
            (and
              ((clock_Tick (clock_Move (clock_Of (ints_Point 0) (ints_Point 0)) (ints_Point 1))).p.lo ==
                (ints_Point 2).lo)
              (and
                ((clock_Tick (clock_Move (clock_Of (ints_Point 0) (ints_Point 0)) (ints_Point 1))).p.hi ==
                  (ints_Point 2).hi)
                true)))
          true))
      (Tr.br
        (and ((clock_Reduce ints_Full (CK.mk (ints_Point 0) clock_All.p) (ints_Make 0 99)).e == (ints_Make 0 99).e)
          (and ((clock_Reduce ints_Full (CK.mk (ints_Point 0) clock_All.p) (ints_Make 0 99)).lo == (ints_Make 0 99).lo)
            (and ((clock_Reduce ints_Full (CK.mk (ints_Point 0) clock_All.p) (ints_Make 0 99)).hi == (ints_Make 0 99).hi)
              true)))
        (Tr.br (clock_Has (clock_Tick (clock_Move (clock_Of (ints_Point 0) (ints_Point 0)) (ints_Point 1))) 1 1)
          (Tr.br (!clock_Has (clock_Tick (clock_Move (clock_Of (ints_Point 0) (ints_Point 0)) (ints_Point 1))) 1 0)
            (Tr.br
              (clock_Inside (clock_Tick (clock_Move (clock_Of (ints_Point 0) (ints_Point 0)) (ints_Point 1))) clock_All)
              (Tr.br
                (and
                  ((clock_Join (clock_Of (ints_Point 0) (ints_Point 0))
                          (clock_Tick (clock_Move (clock_Of (ints_Point 0) (ints_Point 0)) (ints_Point 1)))).p.e ==
                    (ints_Make 0 2).e)
                  (and
                    ((clock_Join (clock_Of (ints_Point 0) (ints_Point 0))
                            (clock_Tick (clock_Move (clock_Of (ints_Point 0) (ints_Point 0)) (ints_Point 1)))).p.lo ==
                      (ints_Make 0 2).lo)
                    (and
                      ((clock_Join (clock_Of (ints_Point 0) (ints_Point 0))
                              (clock_Tick (clock_Move (clock_Of (ints_Point 0) (ints_Point 0)) (ints_Point 1)))).p.hi ==
                        (ints_Make 0 2).hi)
                      true)))
                (Tr.br
                  (clock_Meet (clock_Of (ints_Point 0) (ints_Point 0))
                        (clock_Tick (clock_Move (clock_Of (ints_Point 0) (ints_Point 0)) (ints_Point 1)))).d.e
                  (Tr.br
                    (and ((clock_Tight clock_All (ints_Point 3) (ints_Point 1)).d.e == (ints_Point 2).e)
                      (and ((clock_Tight clock_All (ints_Point 3) (ints_Point 1)).d.lo == (ints_Point 2).lo)
                        (and ((clock_Tight clock_All (ints_Point 3) (ints_Point 1)).d.hi == (ints_Point 2).hi) true)))
                    (Tr.ast
                      (clock_Widen_s (clock_Of (ints_Point 0) (ints_Point 0))
                        (clock_Tick (clock_Move (clock_Of (ints_Point 0) (ints_Point 0)) (ints_Point 1))) [])
                      (Tr.leaf
                        ((clock_Widen (clock_Of (ints_Point 0) (ints_Point 0))
                                (clock_Tick (clock_Move (clock_Of (ints_Point 0) (ints_Point 0)) (ints_Point 1)))
                                []).p.hi ==
                          1099511627776)))
                    (Tr.leaf false))
                  (Tr.leaf false))
                (Tr.leaf false))
              (Tr.leaf false))
            (Tr.leaf false))
          (Tr.leaf false))
        (Tr.leaf false))
      (Tr.leaf false))
    (Tr.leaf false)
def l21_works_t  : Tr (Bool) := l21_works_T ints_Point clock_Of clock_Move clock_Tick clock_All ints_Full ints_Make clock_Reduce clock_Has clock_Inside clock_Join clock_Meet clock_Tight clock_Widen clock_Widen_s 
def l21_works  : Bool := (l21_works_t ).val
theorem l21_works_ev (ints_Point : Int → I3) (clock_Of : I3 → I3 → CK) (clock_Move : CK → I3 → CK) (clock_Tick : CK → CK) (clock_All : CK) (ints_Full : I3) (ints_Make : Int → Int → I3) (clock_Reduce : I3 → CK → I3 → I3) (clock_Has : CK → Int → Int → Bool) (clock_Inside : CK → CK → Bool) (clock_Join : CK → CK → CK) (clock_Meet : CK → CK → CK) (clock_Tight : CK → I3 → I3 → CK) (clock_Widen : CK → CK → (List Int) → CK) (clock_Widen_s : CK → CK → (List Int) → Bool)  (Q : AV → Prop) : evF Try.prog (mkC [(35, (sumT (aOne (cInt .i64)) fun x => (o1 (cI3)).enc (ints_Point x))), (15, (sumT (aCons (cI3) (aOne (cI3))) fun x => (o1 (cCK)).enc (clock_Of x.1 x.2))), (17, (sumT (aCons (cCK) (aOne (cI3))) fun x => (o1 (cCK)).enc (clock_Move x.1 x.2))), (20, (sumT (aOne (cCK)) fun x => (o1 (cCK)).enc (clock_Tick x))), (59, (sumT aNil fun _ => (o1 (cCK)).enc (clock_All ))), (60, (sumT aNil fun _ => (o1 (cI3)).enc (ints_Full ))), (37, (sumT (aCons (cInt .i64) (aOne (cInt .i64))) fun x => (o1 (cI3)).enc (ints_Make x.1 x.2))), (24, (sumT (aCons (cI3) (aCons (cCK) (aOne (cI3)))) fun x => (o1 (cI3)).enc (clock_Reduce x.1 x.2.1 x.2.2))), (33, (sumT (aCons (cCK) (aCons (cInt .i64) (aOne (cInt .i64)))) fun x => (o1 (cBool)).enc (clock_Has x.1 x.2.1 x.2.2))), (31, (sumT (aCons (cCK) (aOne (cCK))) fun x => (o1 (cBool)).enc (clock_Inside x.1 x.2))), (26, (sumT (aCons (cCK) (aOne (cCK))) fun x => (o1 (cCK)).enc (clock_Join x.1 x.2))), (28, (sumT (aCons (cCK) (aOne (cCK))) fun x => (o1 (cCK)).enc (clock_Meet x.1 x.2))), (22, (sumT (aCons (cCK) (aCons (cI3) (aOne (cI3)))) fun x => (o1 (cCK)).enc (clock_Tight x.1 x.2.1 x.2.2))), (29, (sumOf (aCons (cCK) (aCons (cCK) (aOne (cInts .i64)))) (fun x => clock_Widen_s x.1 x.2.1 x.2.2) fun x => (o1 (cCK)).enc (clock_Widen x.1 x.2.1 x.2.2)))]) noL 60 Try.f13 (aNil.enc ()) Q = (l21_works_T ints_Point clock_Of clock_Move clock_Tick clock_All ints_Full ints_Make clock_Reduce clock_Has clock_Inside clock_Join clock_Meet clock_Tight clock_Widen clock_Widen_s ).prop (fun x => Q ((o1 (cBool)).enc x)) := by kernel_rfl
theorem l21_works_safe  : (l21_works_t ).safe = true := by
  kernel_rfl
theorem l21_works_c (x : Unit) (w : World) (vs : Array Value) (hp : ArgsR (aNil.enc x) w vs) : Calls Try.prog 13 vs w (Ans ((o1 (cBool)).enc (l21_works )) w) :=
  contractT mixed (AllGood.cons ints_Point_ok (AllGood.cons clock_Of_ok (AllGood.cons clock_Move_ok (AllGood.cons clock_Tick_ok (AllGood.cons clock_All_ok (AllGood.cons ints_Full_ok (AllGood.cons ints_Make_ok (AllGood.cons clock_Reduce_ok (AllGood.cons clock_Has_ok (AllGood.cons clock_Inside_ok (AllGood.cons clock_Join_ok (AllGood.cons clock_Meet_ok (AllGood.cons clock_Tight_ok (AllGood.cons clock_Widen_ok AllGood.nil)))))))))))))) Try.func13 (fun _ _ _ _ => noL_ok) (l21_works_safe ) (l21_works_ev ints_Point clock_Of clock_Move clock_Tick clock_All ints_Full ints_Make clock_Reduce clock_Has clock_Inside clock_Join clock_Meet clock_Tight clock_Widen clock_Widen_s ) w vs hp
theorem l21_works_ok : GoodF Try.prog 13 (sumT aNil fun _ => (o1 (cBool)).enc (l21_works )) :=
  good_sumT (callable_of Try.func13 (by kernel_rfl) (by kernel_rfl)) l21_works_c
/-! flyball/flyballlaw21.is -/
def l21_is_T  (c : CK) (q : CK) : Tr (Bool) :=
  Tr.br (and (c.d.e == q.d.e) (and (c.d.lo == q.d.lo) (and (c.d.hi == q.d.hi) true)))
    (Tr.leaf (c.p.e == q.p.e && (c.p.lo == q.p.lo && (c.p.hi == q.p.hi && true)))) (Tr.leaf false)
def l21_is_t (c : CK) (q : CK) : Tr (Bool) := l21_is_T  c q
def l21_is (c : CK) (q : CK) : Bool := (l21_is_t c q).val
theorem l21_is_ev  (c : CK) (q : CK) (Q : AV → Prop) : evF Try.prog (mkC []) noL 60 Try.f14 ((aCons (cCK) (aOne (cCK))).enc (c, q)) Q = (l21_is_T  c q).prop (fun x => Q ((o1 (cBool)).enc x)) := by kernel_rfl
theorem l21_is_c (x : CK × CK) (w : World) (vs : Array Value) (hp : ArgsR ((aCons (cCK) (aOne (cCK))).enc x) w vs) : Calls Try.prog 14 vs w (Ans ((o1 (cBool)).enc (l21_is x.1 x.2)) w) :=
  contractT mixed AllGood.nil Try.func14 (fun _ _ _ _ => noL_ok) (Tr.safe_of (t := l21_is_t x.1 x.2) rfl) (l21_is_ev  x.1 x.2) w vs hp
theorem l21_is_ok : GoodF Try.prog 14 (sumT (aCons (cCK) (aOne (cCK))) fun x => (o1 (cBool)).enc (l21_is x.1 x.2)) :=
  good_sumT (callable_of Try.func14 (by kernel_rfl) (by kernel_rfl)) l21_is_c
/-! flyball/flyballlaw21.of -/
def l21_of_T  (c : CK) : Tr (CK) :=
  Tr.leaf c
def l21_of_t (c : CK) : Tr (CK) := l21_of_T  c
def l21_of (c : CK) : CK := (l21_of_t c).val
theorem l21_of_ev  (c : CK) (Q : AV → Prop) : evF Try.prog (mkC []) noL 60 Try.f19 ((aOne (cCK)).enc c) Q = (l21_of_T  c).prop (fun x => Q ((o1 (cCK)).enc x)) := by kernel_rfl
theorem l21_of_c (x : CK) (w : World) (vs : Array Value) (hp : ArgsR ((aOne (cCK)).enc x) w vs) : Calls Try.prog 19 vs w (Ans ((o1 (cCK)).enc (l21_of x)) w) :=
  contractT mixed AllGood.nil Try.func19 (fun _ _ _ _ => noL_ok) (Tr.safe_of (t := l21_of_t x) rfl) (l21_of_ev  x) w vs hp
theorem l21_of_ok : GoodF Try.prog 19 (sumT (aOne (cCK)) fun x => (o1 (cCK)).enc (l21_of x)) :=
  good_sumT (callable_of Try.func19 (by kernel_rfl) (by kernel_rfl)) l21_of_c
/-! flyball/flyballlaw21.ClockDoes -/
def l21_ClockDoes_T (l21_works : Bool) (clock_Of : I3 → I3 → CK) (ref21_Of : I3 → I3 → CK) (l21_is : CK → CK → Bool) (clock_Move : CK → I3 → CK) (l21_of : CK → CK) (ref21_Move : CK → I3 → CK) (clock_Tick : CK → CK) (ref21_Tick : CK → CK) (clock_Tight : CK → I3 → I3 → CK) (ref21_Meet : CK → CK → CK) (clock_Reduce : I3 → CK → I3 → I3) (ref21_Reduce : I3 → CK → I3 → I3) (c : CK) (v : I3) (k : I3) : Tr (Bool) :=
  Tr.br (!l21_works) (Tr.leaf false)
    (Tr.br (l21_is (clock_Of v k) (ref21_Of v k))
      (Tr.br (l21_is (clock_Move c v) (ref21_Move (l21_of c) v))
        (Tr.br l21_works
          (Tr.br (l21_is (clock_Tick c) (ref21_Tick (l21_of c)))
            (Tr.br (l21_is (clock_Tight c v k) (ref21_Meet (l21_of c) (ref21_Of v k)))
              (Tr.leaf
                ((clock_Reduce v c k).e == (ref21_Reduce v (l21_of c) k).e &&
                  ((clock_Reduce v c k).lo == (ref21_Reduce v (l21_of c) k).lo &&
                    ((clock_Reduce v c k).hi == (ref21_Reduce v (l21_of c) k).hi && true))))
              (Tr.leaf false))
            (Tr.leaf false))
          (Tr.leaf false))
        (Tr.br l21_works (Tr.leaf false) (Tr.leaf false)))
      (Tr.br l21_works (Tr.leaf false) (Tr.leaf false)))
def l21_ClockDoes_t (c : CK) (v : I3) (k : I3) : Tr (Bool) := l21_ClockDoes_T l21_works clock_Of ref21_Of l21_is clock_Move l21_of ref21_Move clock_Tick ref21_Tick clock_Tight ref21_Meet clock_Reduce ref21_Reduce c v k
def l21_ClockDoes (c : CK) (v : I3) (k : I3) : Bool := (l21_ClockDoes_t c v k).val
theorem l21_ClockDoes_ev (l21_works : Bool) (clock_Of : I3 → I3 → CK) (ref21_Of : I3 → I3 → CK) (l21_is : CK → CK → Bool) (clock_Move : CK → I3 → CK) (l21_of : CK → CK) (ref21_Move : CK → I3 → CK) (clock_Tick : CK → CK) (ref21_Tick : CK → CK) (clock_Tight : CK → I3 → I3 → CK) (ref21_Meet : CK → CK → CK) (clock_Reduce : I3 → CK → I3 → I3) (ref21_Reduce : I3 → CK → I3 → I3) (c : CK) (v : I3) (k : I3) (Q : AV → Prop) : evF Try.prog (mkC [(13, (sumT aNil fun _ => (o1 (cBool)).enc (l21_works ))), (15, (sumT (aCons (cI3) (aOne (cI3))) fun x => (o1 (cCK)).enc (clock_Of x.1 x.2))), (16, (sumT (aCons (cI3) (aOne (cI3))) fun x => (o1 (cCK)).enc (ref21_Of x.1 x.2))), (14, (sumT (aCons (cCK) (aOne (cCK))) fun x => (o1 (cBool)).enc (l21_is x.1 x.2))), (17, (sumT (aCons (cCK) (aOne (cI3))) fun x => (o1 (cCK)).enc (clock_Move x.1 x.2))), (19, (sumT (aOne (cCK)) fun x => (o1 (cCK)).enc (l21_of x))), (18, (sumT (aCons (cCK) (aOne (cI3))) fun x => (o1 (cCK)).enc (ref21_Move x.1 x.2))), (20, (sumT (aOne (cCK)) fun x => (o1 (cCK)).enc (clock_Tick x))), (21, (sumT (aOne (cCK)) fun x => (o1 (cCK)).enc (ref21_Tick x))), (22, (sumT (aCons (cCK) (aCons (cI3) (aOne (cI3)))) fun x => (o1 (cCK)).enc (clock_Tight x.1 x.2.1 x.2.2))), (23, (sumT (aCons (cCK) (aOne (cCK))) fun x => (o1 (cCK)).enc (ref21_Meet x.1 x.2))), (24, (sumT (aCons (cI3) (aCons (cCK) (aOne (cI3)))) fun x => (o1 (cI3)).enc (clock_Reduce x.1 x.2.1 x.2.2))), (25, (sumT (aCons (cI3) (aCons (cCK) (aOne (cI3)))) fun x => (o1 (cI3)).enc (ref21_Reduce x.1 x.2.1 x.2.2)))]) noL 60 Try.f3 ((aCons (cCK) (aCons (cI3) (aOne (cI3)))).enc (c, v, k)) Q = (l21_ClockDoes_T l21_works clock_Of ref21_Of l21_is clock_Move l21_of ref21_Move clock_Tick ref21_Tick clock_Tight ref21_Meet clock_Reduce ref21_Reduce c v k).prop (fun x => Q ((o1 (cBool)).enc x)) := by kernel_rfl
theorem l21_ClockDoes_c (x : CK × I3 × I3) (w : World) (vs : Array Value) (hp : ArgsR ((aCons (cCK) (aCons (cI3) (aOne (cI3)))).enc x) w vs) : Calls Try.prog 3 vs w (Ans ((o1 (cBool)).enc (l21_ClockDoes x.1 x.2.1 x.2.2)) w) :=
  contractT mixed (AllGood.cons l21_works_ok (AllGood.cons clock_Of_ok (AllGood.cons ref21_Of_ok (AllGood.cons l21_is_ok (AllGood.cons clock_Move_ok (AllGood.cons l21_of_ok (AllGood.cons ref21_Move_ok (AllGood.cons clock_Tick_ok (AllGood.cons ref21_Tick_ok (AllGood.cons clock_Tight_ok (AllGood.cons ref21_Meet_ok (AllGood.cons clock_Reduce_ok (AllGood.cons ref21_Reduce_ok AllGood.nil))))))))))))) Try.func3 (fun _ _ _ _ => noL_ok) (Tr.safe_of (t := l21_ClockDoes_t x.1 x.2.1 x.2.2) rfl) (l21_ClockDoes_ev l21_works clock_Of ref21_Of l21_is clock_Move l21_of ref21_Move clock_Tick ref21_Tick clock_Tight ref21_Meet clock_Reduce ref21_Reduce x.1 x.2.1 x.2.2) w vs hp
theorem l21_ClockDoes_ok : GoodF Try.prog 3 (sumT (aCons (cCK) (aCons (cI3) (aOne (cI3)))) fun x => (o1 (cBool)).enc (l21_ClockDoes x.1 x.2.1 x.2.2)) :=
  good_sumT (callable_of Try.func3 (by kernel_rfl) (by kernel_rfl)) l21_ClockDoes_c
/-! flyball/flyballlaw21.ClockJoins -/
def l21_ClockJoins_T (l21_works : Bool) (clock_Join : CK → CK → CK) (l21_of : CK → CK) (ref21_Join : CK → CK → CK) (l21_is : CK → CK → Bool) (clock_Meet : CK → CK → CK) (ref21_Meet : CK → CK → CK) (clock_Widen : CK → CK → (List Int) → CK) (clock_Widen_s : CK → CK → (List Int) → Bool) (ref21_Widen : CK → CK → (List Int) → CK) (ref21_Widen_s : CK → CK → (List Int) → Bool) (clock_Inside : CK → CK → Bool) (ref21_Inside : CK → CK → Bool) (clock_Has : CK → Int → Int → Bool) (ref21_Has : CK → Int → Int → Bool) (a : CK) (b : CK) (steps : List Int) (v : Int) (k : Int) : Tr (Bool) :=
  Tr.br (!l21_works) (Tr.leaf false)
    (Tr.br (decide ((steps.length : Int) > 200)) (Tr.leaf l21_works)
      (Tr.br (l21_is (clock_Join a b) (ref21_Join (l21_of a) (l21_of b)))
        (Tr.br (l21_is (clock_Meet a b) (ref21_Meet (l21_of a) (l21_of b)))
          (Tr.ast (clock_Widen_s a b steps)
            (Tr.ast (ref21_Widen_s (l21_of a) (l21_of b) steps)
              (Tr.br l21_works
                (Tr.br (l21_is (clock_Widen a b steps) (ref21_Widen (l21_of a) (l21_of b) steps))
                  (Tr.br (clock_Inside a b == ref21_Inside (l21_of a) (l21_of b))
                    (Tr.leaf (clock_Has a v k == ref21_Has (l21_of a) v k)) (Tr.leaf false))
                  (Tr.leaf false))
                (Tr.leaf false))))
          (Tr.br l21_works (Tr.leaf false) (Tr.leaf false)))
        (Tr.br l21_works (Tr.leaf false) (Tr.leaf false))))
def l21_ClockJoins_t (a : CK) (b : CK) (steps : List Int) (v : Int) (k : Int) : Tr (Bool) := l21_ClockJoins_T l21_works clock_Join l21_of ref21_Join l21_is clock_Meet ref21_Meet clock_Widen clock_Widen_s ref21_Widen ref21_Widen_s clock_Inside ref21_Inside clock_Has ref21_Has a b steps v k
def l21_ClockJoins (a : CK) (b : CK) (steps : List Int) (v : Int) (k : Int) : Bool := (l21_ClockJoins_t a b steps v k).val
theorem l21_ClockJoins_ev (l21_works : Bool) (clock_Join : CK → CK → CK) (l21_of : CK → CK) (ref21_Join : CK → CK → CK) (l21_is : CK → CK → Bool) (clock_Meet : CK → CK → CK) (ref21_Meet : CK → CK → CK) (clock_Widen : CK → CK → (List Int) → CK) (clock_Widen_s : CK → CK → (List Int) → Bool) (ref21_Widen : CK → CK → (List Int) → CK) (ref21_Widen_s : CK → CK → (List Int) → Bool) (clock_Inside : CK → CK → Bool) (ref21_Inside : CK → CK → Bool) (clock_Has : CK → Int → Int → Bool) (ref21_Has : CK → Int → Int → Bool) (a : CK) (b : CK) (steps : List Int) (v : Int) (k : Int) (Q : AV → Prop) : evF Try.prog (mkC [(13, (sumT aNil fun _ => (o1 (cBool)).enc (l21_works ))), (26, (sumT (aCons (cCK) (aOne (cCK))) fun x => (o1 (cCK)).enc (clock_Join x.1 x.2))), (19, (sumT (aOne (cCK)) fun x => (o1 (cCK)).enc (l21_of x))), (27, (sumT (aCons (cCK) (aOne (cCK))) fun x => (o1 (cCK)).enc (ref21_Join x.1 x.2))), (14, (sumT (aCons (cCK) (aOne (cCK))) fun x => (o1 (cBool)).enc (l21_is x.1 x.2))), (28, (sumT (aCons (cCK) (aOne (cCK))) fun x => (o1 (cCK)).enc (clock_Meet x.1 x.2))), (23, (sumT (aCons (cCK) (aOne (cCK))) fun x => (o1 (cCK)).enc (ref21_Meet x.1 x.2))), (29, (sumOf (aCons (cCK) (aCons (cCK) (aOne (cInts .i64)))) (fun x => clock_Widen_s x.1 x.2.1 x.2.2) fun x => (o1 (cCK)).enc (clock_Widen x.1 x.2.1 x.2.2))), (30, (sumOf (aCons (cCK) (aCons (cCK) (aOne (cInts .i64)))) (fun x => ref21_Widen_s x.1 x.2.1 x.2.2) fun x => (o1 (cCK)).enc (ref21_Widen x.1 x.2.1 x.2.2))), (31, (sumT (aCons (cCK) (aOne (cCK))) fun x => (o1 (cBool)).enc (clock_Inside x.1 x.2))), (32, (sumT (aCons (cCK) (aOne (cCK))) fun x => (o1 (cBool)).enc (ref21_Inside x.1 x.2))), (33, (sumT (aCons (cCK) (aCons (cInt .i64) (aOne (cInt .i64)))) fun x => (o1 (cBool)).enc (clock_Has x.1 x.2.1 x.2.2))), (34, (sumT (aCons (cCK) (aCons (cInt .i64) (aOne (cInt .i64)))) fun x => (o1 (cBool)).enc (ref21_Has x.1 x.2.1 x.2.2)))]) noL 60 Try.f4 ((aCons (cCK) (aCons (cCK) (aCons (cInts .i64) (aCons (cInt .i64) (aOne (cInt .i64)))))).enc (a, b, steps, v, k)) Q = (l21_ClockJoins_T l21_works clock_Join l21_of ref21_Join l21_is clock_Meet ref21_Meet clock_Widen clock_Widen_s ref21_Widen ref21_Widen_s clock_Inside ref21_Inside clock_Has ref21_Has a b steps v k).prop (fun x => Q ((o1 (cBool)).enc x)) := by kernel_rfl
def l21_ClockJoins_s (a : CK) (b : CK) (steps : List Int) (v : Int) (k : Int) : Bool := (l21_ClockJoins_t a b steps v k).safe
theorem l21_ClockJoins_c (x : CK × CK × (List Int) × Int × Int) (hs : l21_ClockJoins_s x.1 x.2.1 x.2.2.1 x.2.2.2.1 x.2.2.2.2 = true) (w : World) (vs : Array Value) (hp : ArgsR ((aCons (cCK) (aCons (cCK) (aCons (cInts .i64) (aCons (cInt .i64) (aOne (cInt .i64)))))).enc x) w vs) : Calls Try.prog 4 vs w (Ans ((o1 (cBool)).enc (l21_ClockJoins x.1 x.2.1 x.2.2.1 x.2.2.2.1 x.2.2.2.2)) w) :=
  contractT mixed (AllGood.cons l21_works_ok (AllGood.cons clock_Join_ok (AllGood.cons l21_of_ok (AllGood.cons ref21_Join_ok (AllGood.cons l21_is_ok (AllGood.cons clock_Meet_ok (AllGood.cons ref21_Meet_ok (AllGood.cons clock_Widen_ok (AllGood.cons ref21_Widen_ok (AllGood.cons clock_Inside_ok (AllGood.cons ref21_Inside_ok (AllGood.cons clock_Has_ok (AllGood.cons ref21_Has_ok AllGood.nil))))))))))))) Try.func4 (fun _ _ _ _ => noL_ok) hs (l21_ClockJoins_ev l21_works clock_Join l21_of ref21_Join l21_is clock_Meet ref21_Meet clock_Widen clock_Widen_s ref21_Widen ref21_Widen_s clock_Inside ref21_Inside clock_Has ref21_Has x.1 x.2.1 x.2.2.1 x.2.2.2.1 x.2.2.2.2) w vs hp
theorem l21_ClockJoins_ok : GoodF Try.prog 4 (sumOf (aCons (cCK) (aCons (cCK) (aCons (cInts .i64) (aCons (cInt .i64) (aOne (cInt .i64)))))) (fun x => l21_ClockJoins_s x.1 x.2.1 x.2.2.1 x.2.2.2.1 x.2.2.2.2) fun x => (o1 (cBool)).enc (l21_ClockJoins x.1 x.2.1 x.2.2.1 x.2.2.2.1 x.2.2.2.2)) :=
  good_sum (callable_of Try.func4 (by kernel_rfl) (by kernel_rfl)) l21_ClockJoins_c
/-! flyball/flyballlaw21.ClockCounts -/
def l21_ClockCounts_L0_tm : Tm :=
  Tm.mk
    [some (false, [Sh.int IntKind.i32]), some (false, [Sh.int IntKind.i64]), none, none, some (false, [Sh.bool]),
      some (false, [Sh.bool]), some (false, [Sh.ptr 0 0]), some (false, [Sh.ptr 1 0]), some (false, [Sh.int IntKind.i64]),
      none, none, none, none, none, some (false, [Sh.bool]), none, none, none, none, none, some (false, [Sh.bool]), none,
      none, none, none, none, none, none, none, none, none, none, none, none, none, none, none, none, none, none, none,
      none, none, none, none, none, none, none, none, none, none, none, none, none, none, none, none, none, none, none,
      none, none, none, none, none, none, none, none, none, none, none, none, none, none, none, none]
    [Hs.cells 25 [Sh.bool, Sh.int IntKind.i64, Sh.int IntKind.i64, Sh.bool, Sh.int IntKind.i64, Sh.int IntKind.i64],
      Hs.cells 25 [Sh.bool, Sh.int IntKind.i64, Sh.int IntKind.i64, Sh.bool, Sh.int IntKind.i64, Sh.int IntKind.i64]]
def l21_ClockCounts_L0_of : List Pv → Option ((Int × Int × Bool × Bool × Bool × Bool) × (Int × Bool × Int × Int × Bool × Int × Int × Bool × Int × Int × Bool × Int × Int))
  | [.i v0, .i v1, .b v4, .b v5, .i v8, .b v14, .b v20, .b h0_0, .i h0_1, .i h0_2, .b h0_3, .i h0_4, .i h0_5, .b h1_0, .i h1_1, .i h1_2, .b h1_3, .i h1_4, .i h1_5] => some ((v0, v1, v4, v5, v14, v20), (v8, h0_0, h0_1, h0_2, h0_3, h0_4, h0_5, h1_0, h1_1, h1_2, h1_3, h1_4, h1_5))
  | _ => none
def l21_ClockCounts_L0_to (p : Int × Int × Bool × Bool × Bool × Bool) (x : Int × Bool × Int × Int × Bool × Int × Int × Bool × Int × Int × Bool × Int × Int) : List Pv := [.i p.1, .i p.2.1, .b p.2.2.1, .b p.2.2.2.1, .i x.1, .b p.2.2.2.2.1, .b p.2.2.2.2.2, .b x.2.1, .i x.2.2.1, .i x.2.2.2.1, .b x.2.2.2.2.1, .i x.2.2.2.2.2.1, .i x.2.2.2.2.2.2.1, .b x.2.2.2.2.2.2.2.1, .i x.2.2.2.2.2.2.2.2.1, .i x.2.2.2.2.2.2.2.2.2.1, .b x.2.2.2.2.2.2.2.2.2.2.1, .i x.2.2.2.2.2.2.2.2.2.2.2.1, .i x.2.2.2.2.2.2.2.2.2.2.2.2]
theorem l21_ClockCounts_L0_ot (l : List Pv) (p : Int × Int × Bool × Bool × Bool × Bool) (x : Int × Bool × Int × Int × Bool × Int × Int × Bool × Int × Int × Bool × Int × Int) (h : l21_ClockCounts_L0_of l = some (p, x)) : l21_ClockCounts_L0_to p x = l := by
  unfold l21_ClockCounts_L0_of at h
  split at h
  · cases h; rfl
  · cases h
def l21_ClockCounts_L0_dec (s : St) : Option ((Int × Int × Bool × Bool × Bool × Bool) × (Int × Bool × Int × Int × Bool × Int × Int × Bool × Int × Int × Bool × Int × Int)) := (l21_ClockCounts_L0_tm.dec s).bind l21_ClockCounts_L0_of
def l21_ClockCounts_L0_I (p : Int × Int × Bool × Bool × Bool × Bool) (x : Int × Bool × Int × Int × Bool × Int × Int × Bool × Int × Int × Bool × Int × Int) : St := l21_ClockCounts_L0_tm.enc (l21_ClockCounts_L0_to p x)
def l21_ClockCounts_L0_T (ints_Point : Int → I3) (clock_Move : CK → I3 → CK) (clock_Tick : CK → CK) (clock_Join : CK → CK → CK) (clock_Widen : CK → CK → (List Int) → CK) (clock_Widen_s : CK → CK → (List Int) → Bool) (_v0 : Int) (v1 : Int) (_v4 : Bool) (_v5 : Bool) (_v14 : Bool) (_v20 : Bool) (v8 : Int) (h0_0 : Bool) (h0_1 : Int) (h0_2 : Int) (h0_3 : Bool) (h0_4 : Int) (h0_5 : Int) (h1_0 : Bool) (h1_1 : Int) (h1_2 : Int) (h1_3 : Bool) (h1_4 : Int) (h1_5 : Int) : Tr ((Int × Bool × Int × Int × Bool × Int × Int × Bool × Int × Int × Bool × Int × Int) ⊕ (Int × Bool × Int × Int × Bool × Int × Int × Bool × Int × Int × Bool × Int × Int)) :=
  Tr.br (decide (v8 < v1))
    (Tr.ast
      (clock_Widen_s (CK.mk (I3.mk h1_0 h1_1 h1_2) (I3.mk h1_3 h1_4 h1_5))
        (clock_Join (CK.mk (I3.mk h1_0 h1_1 h1_2) (I3.mk h1_3 h1_4 h1_5))
          (clock_Tick (clock_Move (CK.mk (I3.mk h0_0 h0_1 h0_2) (I3.mk h0_3 h0_4 h0_5)) (ints_Point 1))))
        [])
      (Tr.leaf
        (Sum.inl
          (IntKind.i64.wrap (v8 + 1),
            (clock_Tick (clock_Move (CK.mk (I3.mk h0_0 h0_1 h0_2) (I3.mk h0_3 h0_4 h0_5)) (ints_Point 1))).d.e,
            (clock_Tick (clock_Move (CK.mk (I3.mk h0_0 h0_1 h0_2) (I3.mk h0_3 h0_4 h0_5)) (ints_Point 1))).d.lo,
            (clock_Tick (clock_Move (CK.mk (I3.mk h0_0 h0_1 h0_2) (I3.mk h0_3 h0_4 h0_5)) (ints_Point 1))).d.hi,
            (clock_Tick (clock_Move (CK.mk (I3.mk h0_0 h0_1 h0_2) (I3.mk h0_3 h0_4 h0_5)) (ints_Point 1))).p.e,
            (clock_Tick (clock_Move (CK.mk (I3.mk h0_0 h0_1 h0_2) (I3.mk h0_3 h0_4 h0_5)) (ints_Point 1))).p.lo,
            (clock_Tick (clock_Move (CK.mk (I3.mk h0_0 h0_1 h0_2) (I3.mk h0_3 h0_4 h0_5)) (ints_Point 1))).p.hi,
            (clock_Widen (CK.mk (I3.mk h1_0 h1_1 h1_2) (I3.mk h1_3 h1_4 h1_5))
                  (clock_Join (CK.mk (I3.mk h1_0 h1_1 h1_2) (I3.mk h1_3 h1_4 h1_5))
                    (clock_Tick (clock_Move (CK.mk (I3.mk h0_0 h0_1 h0_2) (I3.mk h0_3 h0_4 h0_5)) (ints_Point 1))))
                  []).d.e,
            (clock_Widen (CK.mk (I3.mk h1_0 h1_1 h1_2) (I3.mk h1_3 h1_4 h1_5))
                  (clock_Join (CK.mk (I3.mk h1_0 h1_1 h1_2) (I3.mk h1_3 h1_4 h1_5))
                    (clock_Tick (clock_Move (CK.mk (I3.mk h0_0 h0_1 h0_2) (I3.mk h0_3 h0_4 h0_5)) (ints_Point 1))))
                  []).d.lo,
            (clock_Widen (CK.mk (I3.mk h1_0 h1_1 h1_2) (I3.mk h1_3 h1_4 h1_5))
                  (clock_Join (CK.mk (I3.mk h1_0 h1_1 h1_2) (I3.mk h1_3 h1_4 h1_5))
                    (clock_Tick (clock_Move (CK.mk (I3.mk h0_0 h0_1 h0_2) (I3.mk h0_3 h0_4 h0_5)) (ints_Point 1))))
                  []).d.hi,
            (clock_Widen (CK.mk (I3.mk h1_0 h1_1 h1_2) (I3.mk h1_3 h1_4 h1_5))
                  (clock_Join (CK.mk (I3.mk h1_0 h1_1 h1_2) (I3.mk h1_3 h1_4 h1_5))
                    (clock_Tick (clock_Move (CK.mk (I3.mk h0_0 h0_1 h0_2) (I3.mk h0_3 h0_4 h0_5)) (ints_Point 1))))
                  []).p.e,
            (clock_Widen (CK.mk (I3.mk h1_0 h1_1 h1_2) (I3.mk h1_3 h1_4 h1_5))
                  (clock_Join (CK.mk (I3.mk h1_0 h1_1 h1_2) (I3.mk h1_3 h1_4 h1_5))
                    (clock_Tick (clock_Move (CK.mk (I3.mk h0_0 h0_1 h0_2) (I3.mk h0_3 h0_4 h0_5)) (ints_Point 1))))
                  []).p.lo,
            (clock_Widen (CK.mk (I3.mk h1_0 h1_1 h1_2) (I3.mk h1_3 h1_4 h1_5))
                  (clock_Join (CK.mk (I3.mk h1_0 h1_1 h1_2) (I3.mk h1_3 h1_4 h1_5))
                    (clock_Tick (clock_Move (CK.mk (I3.mk h0_0 h0_1 h0_2) (I3.mk h0_3 h0_4 h0_5)) (ints_Point 1))))
                  []).p.hi))))
    (Tr.leaf (Sum.inr (v8, h0_0, h0_1, h0_2, h0_3, h0_4, h0_5, h1_0, h1_1, h1_2, h1_3, h1_4, h1_5)))
theorem l21_ClockCounts_L0_ev (l21_works : Bool) (ints_Point : Int → I3) (clock_Of : I3 → I3 → CK) (clock_Move : CK → I3 → CK) (clock_Tick : CK → CK) (clock_Join : CK → CK → CK) (clock_Widen : CK → CK → (List Int) → CK) (clock_Widen_s : CK → CK → (List Int) → Bool) (ints_Make : Int → Int → I3) (clock_Reduce : I3 → CK → I3 → I3) (v0 : Int) (v1 : Int) (v4 : Bool) (v5 : Bool) (v14 : Bool) (v20 : Bool) (v8 : Int) (h0_0 : Bool) (h0_1 : Int) (h0_2 : Int) (h0_3 : Bool) (h0_4 : Int) (h0_5 : Int) (h1_0 : Bool) (h1_1 : Int) (h1_2 : Int) (h1_3 : Bool) (h1_4 : Int) (h1_5 : Int) (Q : ((Int × Int × Bool × Bool × Bool × Bool) × (Int × Bool × Int × Int × Bool × Int × Int × Bool × Int × Int × Bool × Int × Int)) ⊕ ((Int × Int × Bool × Bool × Bool × Bool) × (Int × Bool × Int × Int × Bool × Int × Int × Bool × Int × Int × Bool × Int × Int)) → Prop) : evC Try.prog (mkC [(13, (sumT aNil fun _ => (o1 (cBool)).enc (l21_works ))), (35, (sumT (aOne (cInt .i64)) fun x => (o1 (cI3)).enc (ints_Point x))), (15, (sumT (aCons (cI3) (aOne (cI3))) fun x => (o1 (cCK)).enc (clock_Of x.1 x.2))), (17, (sumT (aCons (cCK) (aOne (cI3))) fun x => (o1 (cCK)).enc (clock_Move x.1 x.2))), (20, (sumT (aOne (cCK)) fun x => (o1 (cCK)).enc (clock_Tick x))), (26, (sumT (aCons (cCK) (aOne (cCK))) fun x => (o1 (cCK)).enc (clock_Join x.1 x.2))), (29, (sumOf (aCons (cCK) (aCons (cCK) (aOne (cInts .i64)))) (fun x => clock_Widen_s x.1 x.2.1 x.2.2) fun x => (o1 (cCK)).enc (clock_Widen x.1 x.2.1 x.2.2))), (37, (sumT (aCons (cInt .i64) (aOne (cInt .i64))) fun x => (o1 (cI3)).enc (ints_Make x.1 x.2))), (24, (sumT (aCons (cI3) (aCons (cCK) (aOne (cI3)))) fun x => (o1 (cI3)).enc (clock_Reduce x.1 x.2.1 x.2.2)))]) noL 60 (lp Try.f6 0) (l21_ClockCounts_L0_I (v0, v1, v4, v5, v14, v20) (v8, h0_0, h0_1, h0_2, h0_3, h0_4, h0_5, h1_0, h1_1, h1_2, h1_3, h1_4, h1_5)) (fun y s => onO Q (bkE 0 l21_ClockCounts_L0_dec y s)) = (l21_ClockCounts_L0_T ints_Point clock_Move clock_Tick clock_Join clock_Widen clock_Widen_s v0 v1 v4 v5 v14 v20 v8 h0_0 h0_1 h0_2 h0_3 h0_4 h0_5 h1_0 h1_1 h1_2 h1_3 h1_4 h1_5).prop (onT (v0, v1, v4, v5, v14, v20) Q) := by kernel_rfl
def l21_ClockCounts_L0_step (p : Int × Int × Bool × Bool × Bool × Bool) (x : Int × Bool × Int × Int × Bool × Int × Int × Bool × Int × Int × Bool × Int × Int) : Tr ((Int × Bool × Int × Int × Bool × Int × Int × Bool × Int × Int × Bool × Int × Int) ⊕ (Int × Bool × Int × Int × Bool × Int × Int × Bool × Int × Int × Bool × Int × Int)) := l21_ClockCounts_L0_T ints_Point clock_Move clock_Tick clock_Join clock_Widen clock_Widen_s p.1 p.2.1 p.2.2.1 p.2.2.2.1 p.2.2.2.2.1 p.2.2.2.2.2 x.1 x.2.1 x.2.2.1 x.2.2.2.1 x.2.2.2.2.1 x.2.2.2.2.2.1 x.2.2.2.2.2.2.1 x.2.2.2.2.2.2.2.1 x.2.2.2.2.2.2.2.2.1 x.2.2.2.2.2.2.2.2.2.1 x.2.2.2.2.2.2.2.2.2.2.1 x.2.2.2.2.2.2.2.2.2.2.2.1 x.2.2.2.2.2.2.2.2.2.2.2.2
def l21_ClockCounts_L0_r (p : Int × Int × Bool × Bool × Bool × Bool) (x : Int × Bool × Int × Int × Bool × Int × Int × Bool × Int × Int × Bool × Int × Int) : Option (Int × Bool × Int × Int × Bool × Int × Int × Bool × Int × Int × Bool × Int × Int) := runB (l21_ClockCounts_L0_step p) x
def l21_ClockCounts_L0_v (p : Int × Int × Bool × Bool × Bool × Bool) (x : Int × Bool × Int × Int × Bool × Int × Int × Bool × Int × Int × Bool × Int × Int) : Int × Bool × Int × Int × Bool × Int × Int × Bool × Int × Int × Bool × Int × Int := (l21_ClockCounts_L0_r p x).getD x
def l21_ClockCounts_L0_ok (p : Int × Int × Bool × Bool × Bool × Bool) (x : Int × Bool × Int × Int × Bool × Int × Int × Bool × Int × Int × Bool × Int × Int) : Bool := (l21_ClockCounts_L0_r p x).isSome
set_option maxRecDepth 100000 in
theorem l21_ClockCounts_L0_ls {B : Nat} {w0 : World} {s : St} {k : X → St → Prop} (hk : (lsE 0 l21_ClockCounts_L0_dec l21_ClockCounts_L0_I l21_ClockCounts_L0_ok l21_ClockCounts_L0_v) s k) : EW Try.prog (mkC [(13, (sumT aNil fun _ => (o1 (cBool)).enc (l21_works ))), (35, (sumT (aOne (cInt .i64)) fun x => (o1 (cI3)).enc (ints_Point x))), (15, (sumT (aCons (cI3) (aOne (cI3))) fun x => (o1 (cCK)).enc (clock_Of x.1 x.2))), (17, (sumT (aCons (cCK) (aOne (cI3))) fun x => (o1 (cCK)).enc (clock_Move x.1 x.2))), (20, (sumT (aOne (cCK)) fun x => (o1 (cCK)).enc (clock_Tick x))), (26, (sumT (aCons (cCK) (aOne (cCK))) fun x => (o1 (cCK)).enc (clock_Join x.1 x.2))), (29, (sumOf (aCons (cCK) (aCons (cCK) (aOne (cInts .i64)))) (fun x => clock_Widen_s x.1 x.2.1 x.2.2) fun x => (o1 (cCK)).enc (clock_Widen x.1 x.2.1 x.2.2))), (37, (sumT (aCons (cInt .i64) (aOne (cInt .i64))) fun x => (o1 (cI3)).enc (ints_Make x.1 x.2))), (24, (sumT (aCons (cI3) (aCons (cCK) (aOne (cI3)))) fun x => (o1 (cI3)).enc (clock_Reduce x.1 x.2.1 x.2.2)))]) B w0 (.loop (lp Try.f6 0)) s k :=
  lsE_ok (fun _ _ _ h => weak_of l21_ClockCounts_L0_ot h) (step := l21_ClockCounts_L0_step) (fun p x Q h => evC_spec mixed (mkC_ok (AllGood.cons l21_works_ok (AllGood.cons ints_Point_ok (AllGood.cons clock_Of_ok (AllGood.cons clock_Move_ok (AllGood.cons clock_Tick_ok (AllGood.cons clock_Join_ok (AllGood.cons clock_Widen_ok (AllGood.cons ints_Make_ok (AllGood.cons clock_Reduce_ok AllGood.nil))))))))) B w0) (L := noL) (u := 60) _ (loops_nil (by kernel_rfl)) _ _ (Eq.mpr (l21_ClockCounts_L0_ev l21_works ints_Point clock_Of clock_Move clock_Tick clock_Join clock_Widen clock_Widen_s ints_Make clock_Reduce p.1 p.2.1 p.2.2.1 p.2.2.2.1 p.2.2.2.2.1 p.2.2.2.2.2 x.1 x.2.1 x.2.2.1 x.2.2.2.1 x.2.2.2.2.1 x.2.2.2.2.2.1 x.2.2.2.2.2.2.1 x.2.2.2.2.2.2.2.1 x.2.2.2.2.2.2.2.2.1 x.2.2.2.2.2.2.2.2.2.1 x.2.2.2.2.2.2.2.2.2.2.1 x.2.2.2.2.2.2.2.2.2.2.2.1 x.2.2.2.2.2.2.2.2.2.2.2.2 Q) h)) (fun _ _ h => run_ok h) hk
def l21_ClockCounts_T (l21_works : Bool) (ints_Point : Int → I3) (clock_Of : I3 → I3 → CK) (ints_Make : Int → Int → I3) (clock_Reduce : I3 → CK → I3 → I3) (l21_ClockCounts_L0_ok : (Int × Int × Bool × Bool × Bool × Bool) → (Int × Bool × Int × Int × Bool × Int × Int × Bool × Int × Int × Bool × Int × Int) → Bool) (l21_ClockCounts_L0_v : (Int × Int × Bool × Bool × Bool × Bool) → (Int × Bool × Int × Int × Bool × Int × Int × Bool × Int × Int × Bool × Int × Int) → Int × Bool × Int × Int × Bool × Int × Int × Bool × Int × Int × Bool × Int × Int) (fro : Int) (ticks : Int) : Tr (Bool) :=
  Tr.br (!l21_works) (Tr.leaf false)
    (Tr.br (decide (ticks < 0)) (Tr.leaf l21_works)
      (Tr.br (decide (ticks > 200)) (Tr.leaf l21_works)
        (Tr.ast
          (l21_ClockCounts_L0_ok (fro, ticks, false, l21_works, false, false)
            (0, (clock_Of (ints_Point (IntKind.i64.wrap fro)) (ints_Point 0)).d.e,
              (clock_Of (ints_Point (IntKind.i64.wrap fro)) (ints_Point 0)).d.lo,
              (clock_Of (ints_Point (IntKind.i64.wrap fro)) (ints_Point 0)).d.hi,
              (clock_Of (ints_Point (IntKind.i64.wrap fro)) (ints_Point 0)).p.e,
              (clock_Of (ints_Point (IntKind.i64.wrap fro)) (ints_Point 0)).p.lo,
              (clock_Of (ints_Point (IntKind.i64.wrap fro)) (ints_Point 0)).p.hi,
              (clock_Of (ints_Point (IntKind.i64.wrap fro)) (ints_Point 0)).d.e,
              (clock_Of (ints_Point (IntKind.i64.wrap fro)) (ints_Point 0)).d.lo,
              (clock_Of (ints_Point (IntKind.i64.wrap fro)) (ints_Point 0)).d.hi,
              (clock_Of (ints_Point (IntKind.i64.wrap fro)) (ints_Point 0)).p.e,
              (clock_Of (ints_Point (IntKind.i64.wrap fro)) (ints_Point 0)).p.lo,
              (clock_Of (ints_Point (IntKind.i64.wrap fro)) (ints_Point 0)).p.hi))
          (Tr.br l21_works
            (Tr.br
              (and
                ((clock_Reduce (ints_Make (-1099511627776) 1099511627776)
                      (CK.mk
                        (I3.mk
                          (l21_ClockCounts_L0_v (fro, ticks, false, l21_works, false, false)
                                (0, (clock_Of (ints_Point (IntKind.i64.wrap fro)) (ints_Point 0)).d.e,
                                  (clock_Of (ints_Point (IntKind.i64.wrap fro)) (ints_Point 0)).d.lo,
                                  (clock_Of (ints_Point (IntKind.i64.wrap fro)) (ints_Point 0)).d.hi,
                                  (clock_Of (ints_Point (IntKind.i64.wrap fro)) (ints_Point 0)).p.e,
                                  (clock_Of (ints_Point (IntKind.i64.wrap fro)) (ints_Point 0)).p.lo,
                                  (clock_Of (ints_Point (IntKind.i64.wrap fro)) (ints_Point 0)).p.hi,
                                  (clock_Of (ints_Point (IntKind.i64.wrap fro)) (ints_Point 0)).d.e,
                                  (clock_Of (ints_Point (IntKind.i64.wrap fro)) (ints_Point 0)).d.lo,
                                  (clock_Of (ints_Point (IntKind.i64.wrap fro)) (ints_Point 0)).d.hi,
                                  (clock_Of (ints_Point (IntKind.i64.wrap fro)) (ints_Point 0)).p.e,
                                  (clock_Of (ints_Point (IntKind.i64.wrap fro)) (ints_Point 0)).p.lo,
                                  (clock_Of (ints_Point (IntKind.i64.wrap fro)) (ints_Point 0)).p.hi)).snd.fst
                          (l21_ClockCounts_L0_v (fro, ticks, false, l21_works, false, false)
                                  (0, (clock_Of (ints_Point (IntKind.i64.wrap fro)) (ints_Point 0)).d.e,
                                    (clock_Of (ints_Point (IntKind.i64.wrap fro)) (ints_Point 0)).d.lo,
                                    (clock_Of (ints_Point (IntKind.i64.wrap fro)) (ints_Point 0)).d.hi,
                                    (clock_Of (ints_Point (IntKind.i64.wrap fro)) (ints_Point 0)).p.e,
                                    (clock_Of (ints_Point (IntKind.i64.wrap fro)) (ints_Point 0)).p.lo,
                                    (clock_Of (ints_Point (IntKind.i64.wrap fro)) (ints_Point 0)).p.hi,
                                    (clock_Of (ints_Point (IntKind.i64.wrap fro)) (ints_Point 0)).d.e,
                                    (clock_Of (ints_Point (IntKind.i64.wrap fro)) (ints_Point 0)).d.lo,
                                    (clock_Of (ints_Point (IntKind.i64.wrap fro)) (ints_Point 0)).d.hi,
                                    (clock_Of (ints_Point (IntKind.i64.wrap fro)) (ints_Point 0)).p.e,
                                    (clock_Of (ints_Point (IntKind.i64.wrap fro)) (ints_Point 0)).p.lo,
                                    (clock_Of (ints_Point (IntKind.i64.wrap fro)) (ints_Point 0)).p.hi)).snd.snd.fst
                          (l21_ClockCounts_L0_v (fro, ticks, false, l21_works, false, false)
                                    (0, (clock_Of (ints_Point (IntKind.i64.wrap fro)) (ints_Point 0)).d.e,
                                      (clock_Of (ints_Point (IntKind.i64.wrap fro)) (ints_Point 0)).d.lo,
                                      (clock_Of (ints_Point (IntKind.i64.wrap fro)) (ints_Point 0)).d.hi,
                                      (clock_Of (ints_Point (IntKind.i64.wrap fro)) (ints_Point 0)).p.e,
                                      (clock_Of (ints_Point (IntKind.i64.wrap fro)) (ints_Point 0)).p.lo,
                                      (clock_Of (ints_Point (IntKind.i64.wrap fro)) (ints_Point 0)).p.hi,
                                      (clock_Of (ints_Point (IntKind.i64.wrap fro)) (ints_Point 0)).d.e,
                                      (clock_Of (ints_Point (IntKind.i64.wrap fro)) (ints_Point 0)).d.lo,
                                      (clock_Of (ints_Point (IntKind.i64.wrap fro)) (ints_Point 0)).d.hi,
                                      (clock_Of (ints_Point (IntKind.i64.wrap fro)) (ints_Point 0)).p.e,
                                      (clock_Of (ints_Point (IntKind.i64.wrap fro)) (ints_Point 0)).p.lo,
                                      (clock_Of (ints_Point (IntKind.i64.wrap fro))
                                            (ints_Point 0)).p.hi)).snd.snd.snd.fst)
                        (I3.mk
                          (l21_ClockCounts_L0_v (fro, ticks, false, l21_works, false, false)
                                      (0, (clock_Of (ints_Point (IntKind.i64.wrap fro)) (ints_Point 0)).d.e,
                                        (clock_Of (ints_Point (IntKind.i64.wrap fro)) (ints_Point 0)).d.lo,
                                        (clock_Of (ints_Point (IntKind.i64.wrap fro)) (ints_Point 0)).d.hi,
                                        (clock_Of (ints_Point (IntKind.i64.wrap fro)) (ints_Point 0)).p.e,
                                        (clock_Of (ints_Point (IntKind.i64.wrap fro)) (ints_Point 0)).p.lo,
                                        (clock_Of (ints_Point (IntKind.i64.wrap fro)) (ints_Point 0)).p.hi,
                                        (clock_Of (ints_Point (IntKind.i64.wrap fro)) (ints_Point 0)).d.e,
                                        (clock_Of (ints_Point (IntKind.i64.wrap fro)) (ints_Point 0)).d.lo,
                                        (clock_Of (ints_Point (IntKind.i64.wrap fro)) (ints_Point 0)).d.hi,
                                        (clock_Of (ints_Point (IntKind.i64.wrap fro)) (ints_Point 0)).p.e,
                                        (clock_Of (ints_Point (IntKind.i64.wrap fro)) (ints_Point 0)).p.lo,
                                        (clock_Of (ints_Point (IntKind.i64.wrap fro))
                                              (ints_Point 0)).p.hi)).snd.snd.snd.snd.fst
                          (l21_ClockCounts_L0_v (fro, ticks, false, l21_works, false, false)
                                        (0, (clock_Of (ints_Point (IntKind.i64.wrap fro)) (ints_Point 0)).d.e,
                                          (clock_Of (ints_Point (IntKind.i64.wrap fro)) (ints_Point 0)).d.lo,
                                          (clock_Of (ints_Point (IntKind.i64.wrap fro)) (ints_Point 0)).d.hi,
                                          (clock_Of (ints_Point (IntKind.i64.wrap fro)) (ints_Point 0)).p.e,
                                          (clock_Of (ints_Point (IntKind.i64.wrap fro)) (ints_Point 0)).p.lo,
                                          (clock_Of (ints_Point (IntKind.i64.wrap fro)) (ints_Point 0)).p.hi,
                                          (clock_Of (ints_Point (IntKind.i64.wrap fro)) (ints_Point 0)).d.e,
                                          (clock_Of (ints_Point (IntKind.i64.wrap fro)) (ints_Point 0)).d.lo,
                                          (clock_Of (ints_Point (IntKind.i64.wrap fro)) (ints_Point 0)).d.hi,
                                          (clock_Of (ints_Point (IntKind.i64.wrap fro)) (ints_Point 0)).p.e,
                                          (clock_Of (ints_Point (IntKind.i64.wrap fro)) (ints_Point 0)).p.lo,
                                          (clock_Of (ints_Point (IntKind.i64.wrap fro))
                                                (ints_Point 0)).p.hi)).snd.snd.snd.snd.snd.fst
                          (l21_ClockCounts_L0_v (fro, ticks, false, l21_works, false, false)
                                          (0, (clock_Of (ints_Point (IntKind.i64.wrap fro)) (ints_Point 0)).d.e,
                                            (clock_Of (ints_Point (IntKind.i64.wrap fro)) (ints_Point 0)).d.lo,
                                            (clock_Of (ints_Point (IntKind.i64.wrap fro)) (ints_Point 0)).d.hi,
                                            (clock_Of (ints_Point (IntKind.i64.wrap fro)) (ints_Point 0)).p.e,
                                            (clock_Of (ints_Point (IntKind.i64.wrap fro)) (ints_Point 0)).p.lo,
                                            (clock_Of (ints_Point (IntKind.i64.wrap fro)) (ints_Point 0)).p.hi,
                                            (clock_Of (ints_Point (IntKind.i64.wrap fro)) (ints_Point 0)).d.e,
                                            (clock_Of (ints_Point (IntKind.i64.wrap fro)) (ints_Point 0)).d.lo,
                                            (clock_Of (ints_Point (IntKind.i64.wrap fro)) (ints_Point 0)).d.hi,
                                            (clock_Of (ints_Point (IntKind.i64.wrap fro)) (ints_Point 0)).p.e,
                                            (clock_Of (ints_Point (IntKind.i64.wrap fro)) (ints_Point 0)).p.lo,
                                            (clock_Of (ints_Point (IntKind.i64.wrap fro))
                                                  (ints_Point 0)).p.hi)).snd.snd.snd.snd.snd.snd.fst))
                      (ints_Point ticks)).e ==
                  (ints_Point (IntKind.i64.wrap (IntKind.i64.wrap fro + ticks))).e)
                (and
                  ((clock_Reduce (ints_Make (-1099511627776) 1099511627776)
                        (CK.mk
                          (I3.mk
                            (l21_ClockCounts_L0_v (fro, ticks, false, l21_works, false, false)
                                  (0, (clock_Of (ints_Point (IntKind.i64.wrap fro)) (ints_Point 0)).d.e,
                                    (clock_Of (ints_Point (IntKind.i64.wrap fro)) (ints_Point 0)).d.lo,
                                    (clock_Of (ints_Point (IntKind.i64.wrap fro)) (ints_Point 0)).d.hi,
                                    (clock_Of (ints_Point (IntKind.i64.wrap fro)) (ints_Point 0)).p.e,
                                    (clock_Of (ints_Point (IntKind.i64.wrap fro)) (ints_Point 0)).p.lo,
                                    (clock_Of (ints_Point (IntKind.i64.wrap fro)) (ints_Point 0)).p.hi,
                                    (clock_Of (ints_Point (IntKind.i64.wrap fro)) (ints_Point 0)).d.e,
                                    (clock_Of (ints_Point (IntKind.i64.wrap fro)) (ints_Point 0)).d.lo,
                                    (clock_Of (ints_Point (IntKind.i64.wrap fro)) (ints_Point 0)).d.hi,
                                    (clock_Of (ints_Point (IntKind.i64.wrap fro)) (ints_Point 0)).p.e,
                                    (clock_Of (ints_Point (IntKind.i64.wrap fro)) (ints_Point 0)).p.lo,
                                    (clock_Of (ints_Point (IntKind.i64.wrap fro)) (ints_Point 0)).p.hi)).snd.fst
                            (l21_ClockCounts_L0_v (fro, ticks, false, l21_works, false, false)
                                    (0, (clock_Of (ints_Point (IntKind.i64.wrap fro)) (ints_Point 0)).d.e,
                                      (clock_Of (ints_Point (IntKind.i64.wrap fro)) (ints_Point 0)).d.lo,
                                      (clock_Of (ints_Point (IntKind.i64.wrap fro)) (ints_Point 0)).d.hi,
                                      (clock_Of (ints_Point (IntKind.i64.wrap fro)) (ints_Point 0)).p.e,
                                      (clock_Of (ints_Point (IntKind.i64.wrap fro)) (ints_Point 0)).p.lo,
                                      (clock_Of (ints_Point (IntKind.i64.wrap fro)) (ints_Point 0)).p.hi,
                                      (clock_Of (ints_Point (IntKind.i64.wrap fro)) (ints_Point 0)).d.e,
                                      (clock_Of (ints_Point (IntKind.i64.wrap fro)) (ints_Point 0)).d.lo,
                                      (clock_Of (ints_Point (IntKind.i64.wrap fro)) (ints_Point 0)).d.hi,
                                      (clock_Of (ints_Point (IntKind.i64.wrap fro)) (ints_Point 0)).p.e,
                                      (clock_Of (ints_Point (IntKind.i64.wrap fro)) (ints_Point 0)).p.lo,
                                      (clock_Of (ints_Point (IntKind.i64.wrap fro)) (ints_Point 0)).p.hi)).snd.snd.fst
                            (l21_ClockCounts_L0_v (fro, ticks, false, l21_works, false, false)
                                      (0, (clock_Of (ints_Point (IntKind.i64.wrap fro)) (ints_Point 0)).d.e,
                                        (clock_Of (ints_Point (IntKind.i64.wrap fro)) (ints_Point 0)).d.lo,
                                        (clock_Of (ints_Point (IntKind.i64.wrap fro)) (ints_Point 0)).d.hi,
                                        (clock_Of (ints_Point (IntKind.i64.wrap fro)) (ints_Point 0)).p.e,
                                        (clock_Of (ints_Point (IntKind.i64.wrap fro)) (ints_Point 0)).p.lo,
                                        (clock_Of (ints_Point (IntKind.i64.wrap fro)) (ints_Point 0)).p.hi,
                                        (clock_Of (ints_Point (IntKind.i64.wrap fro)) (ints_Point 0)).d.e,
                                        (clock_Of (ints_Point (IntKind.i64.wrap fro)) (ints_Point 0)).d.lo,
                                        (clock_Of (ints_Point (IntKind.i64.wrap fro)) (ints_Point 0)).d.hi,
                                        (clock_Of (ints_Point (IntKind.i64.wrap fro)) (ints_Point 0)).p.e,
                                        (clock_Of (ints_Point (IntKind.i64.wrap fro)) (ints_Point 0)).p.lo,
                                        (clock_Of (ints_Point (IntKind.i64.wrap fro))
                                              (ints_Point 0)).p.hi)).snd.snd.snd.fst)
                          (I3.mk
                            (l21_ClockCounts_L0_v (fro, ticks, false, l21_works, false, false)
                                        (0, (clock_Of (ints_Point (IntKind.i64.wrap fro)) (ints_Point 0)).d.e,
                                          (clock_Of (ints_Point (IntKind.i64.wrap fro)) (ints_Point 0)).d.lo,
                                          (clock_Of (ints_Point (IntKind.i64.wrap fro)) (ints_Point 0)).d.hi,
                                          (clock_Of (ints_Point (IntKind.i64.wrap fro)) (ints_Point 0)).p.e,
                                          (clock_Of (ints_Point (IntKind.i64.wrap fro)) (ints_Point 0)).p.lo,
                                          (clock_Of (ints_Point (IntKind.i64.wrap fro)) (ints_Point 0)).p.hi,
                                          (clock_Of (ints_Point (IntKind.i64.wrap fro)) (ints_Point 0)).d.e,
                                          (clock_Of (ints_Point (IntKind.i64.wrap fro)) (ints_Point 0)).d.lo,
                                          (clock_Of (ints_Point (IntKind.i64.wrap fro)) (ints_Point 0)).d.hi,
                                          (clock_Of (ints_Point (IntKind.i64.wrap fro)) (ints_Point 0)).p.e,
                                          (clock_Of (ints_Point (IntKind.i64.wrap fro)) (ints_Point 0)).p.lo,
                                          (clock_Of (ints_Point (IntKind.i64.wrap fro))
                                                (ints_Point 0)).p.hi)).snd.snd.snd.snd.fst
                            (l21_ClockCounts_L0_v (fro, ticks, false, l21_works, false, false)
                                          (0, (clock_Of (ints_Point (IntKind.i64.wrap fro)) (ints_Point 0)).d.e,
                                            (clock_Of (ints_Point (IntKind.i64.wrap fro)) (ints_Point 0)).d.lo,
                                            (clock_Of (ints_Point (IntKind.i64.wrap fro)) (ints_Point 0)).d.hi,
                                            (clock_Of (ints_Point (IntKind.i64.wrap fro)) (ints_Point 0)).p.e,
                                            (clock_Of (ints_Point (IntKind.i64.wrap fro)) (ints_Point 0)).p.lo,
                                            (clock_Of (ints_Point (IntKind.i64.wrap fro)) (ints_Point 0)).p.hi,
                                            (clock_Of (ints_Point (IntKind.i64.wrap fro)) (ints_Point 0)).d.e,
                                            (clock_Of (ints_Point (IntKind.i64.wrap fro)) (ints_Point 0)).d.lo,
                                            (clock_Of (ints_Point (IntKind.i64.wrap fro)) (ints_Point 0)).d.hi,
                                            (clock_Of (ints_Point (IntKind.i64.wrap fro)) (ints_Point 0)).p.e,
                                            (clock_Of (ints_Point (IntKind.i64.wrap fro)) (ints_Point 0)).p.lo,
                                            (clock_Of (ints_Point (IntKind.i64.wrap fro))
                                                  (ints_Point 0)).p.hi)).snd.snd.snd.snd.snd.fst
                            (l21_ClockCounts_L0_v (fro, ticks, false, l21_works, false, false)
                                            (0, (clock_Of (ints_Point (IntKind.i64.wrap fro)) (ints_Point 0)).d.e,
                                              (clock_Of (ints_Point (IntKind.i64.wrap fro)) (ints_Point 0)).d.lo,
                                              (clock_Of (ints_Point (IntKind.i64.wrap fro)) (ints_Point 0)).d.hi,
                                              (clock_Of (ints_Point (IntKind.i64.wrap fro)) (ints_Point 0)).p.e,
                                              (clock_Of (ints_Point (IntKind.i64.wrap fro)) (ints_Point 0)).p.lo,
                                              (clock_Of (ints_Point (IntKind.i64.wrap fro)) (ints_Point 0)).p.hi,
                                              (clock_Of (ints_Point (IntKind.i64.wrap fro)) (ints_Point 0)).d.e,
                                              (clock_Of (ints_Point (IntKind.i64.wrap fro)) (ints_Point 0)).d.lo,
                                              (clock_Of (ints_Point (IntKind.i64.wrap fro)) (ints_Point 0)).d.hi,
                                              (clock_Of (ints_Point (IntKind.i64.wrap fro)) (ints_Point 0)).p.e,
                                              (clock_Of (ints_Point (IntKind.i64.wrap fro)) (ints_Point 0)).p.lo,
                                              (clock_Of (ints_Point (IntKind.i64.wrap fro))
                                                    (ints_Point 0)).p.hi)).snd.snd.snd.snd.snd.snd.fst))
                        (ints_Point ticks)).lo ==
                    (ints_Point (IntKind.i64.wrap (IntKind.i64.wrap fro + ticks))).lo)
                  (and
                    ((clock_Reduce (ints_Make (-1099511627776) 1099511627776)
                          (CK.mk
                            (I3.mk
                              (l21_ClockCounts_L0_v (fro, ticks, false, l21_works, false, false)
                                    (0, (clock_Of (ints_Point (IntKind.i64.wrap fro)) (ints_Point 0)).d.e,
                                      (clock_Of (ints_Point (IntKind.i64.wrap fro)) (ints_Point 0)).d.lo,
                                      (clock_Of (ints_Point (IntKind.i64.wrap fro)) (ints_Point 0)).d.hi,
                                      (clock_Of (ints_Point (IntKind.i64.wrap fro)) (ints_Point 0)).p.e,
                                      (clock_Of (ints_Point (IntKind.i64.wrap fro)) (ints_Point 0)).p.lo,
                                      (clock_Of (ints_Point (IntKind.i64.wrap fro)) (ints_Point 0)).p.hi,
                                      (clock_Of (ints_Point (IntKind.i64.wrap fro)) (ints_Point 0)).d.e,
                                      (clock_Of (ints_Point (IntKind.i64.wrap fro)) (ints_Point 0)).d.lo,
                                      (clock_Of (ints_Point (IntKind.i64.wrap fro)) (ints_Point 0)).d.hi,
                                      (clock_Of (ints_Point (IntKind.i64.wrap fro)) (ints_Point 0)).p.e,
                                      (clock_Of (ints_Point (IntKind.i64.wrap fro)) (ints_Point 0)).p.lo,
                                      (clock_Of (ints_Point (IntKind.i64.wrap fro)) (ints_Point 0)).p.hi)).snd.fst
                              (l21_ClockCounts_L0_v (fro, ticks, false, l21_works, false, false)
                                      (0, (clock_Of (ints_Point (IntKind.i64.wrap fro)) (ints_Point 0)).d.e,
                                        (clock_Of (ints_Point (IntKind.i64.wrap fro)) (ints_Point 0)).d.lo,
                                        (clock_Of (ints_Point (IntKind.i64.wrap fro)) (ints_Point 0)).d.hi,
                                        (clock_Of (ints_Point (IntKind.i64.wrap fro)) (ints_Point 0)).p.e,
                                        (clock_Of (ints_Point (IntKind.i64.wrap fro)) (ints_Point 0)).p.lo,
                                        (clock_Of (ints_Point (IntKind.i64.wrap fro)) (ints_Point 0)).p.hi,
                                        (clock_Of (ints_Point (IntKind.i64.wrap fro)) (ints_Point 0)).d.e,
                                        (clock_Of (ints_Point (IntKind.i64.wrap fro)) (ints_Point 0)).d.lo,
                                        (clock_Of (ints_Point (IntKind.i64.wrap fro)) (ints_Point 0)).d.hi,
                                        (clock_Of (ints_Point (IntKind.i64.wrap fro)) (ints_Point 0)).p.e,
                                        (clock_Of (ints_Point (IntKind.i64.wrap fro)) (ints_Point 0)).p.lo,
                                        (clock_Of (ints_Point (IntKind.i64.wrap fro)) (ints_Point 0)).p.hi)).snd.snd.fst
                              (l21_ClockCounts_L0_v (fro, ticks, false, l21_works, false, false)
                                        (0, (clock_Of (ints_Point (IntKind.i64.wrap fro)) (ints_Point 0)).d.e,
                                          (clock_Of (ints_Point (IntKind.i64.wrap fro)) (ints_Point 0)).d.lo,
                                          (clock_Of (ints_Point (IntKind.i64.wrap fro)) (ints_Point 0)).d.hi,
                                          (clock_Of (ints_Point (IntKind.i64.wrap fro)) (ints_Point 0)).p.e,
                                          (clock_Of (ints_Point (IntKind.i64.wrap fro)) (ints_Point 0)).p.lo,
                                          (clock_Of (ints_Point (IntKind.i64.wrap fro)) (ints_Point 0)).p.hi,
                                          (clock_Of (ints_Point (IntKind.i64.wrap fro)) (ints_Point 0)).d.e,
                                          (clock_Of (ints_Point (IntKind.i64.wrap fro)) (ints_Point 0)).d.lo,
                                          (clock_Of (ints_Point (IntKind.i64.wrap fro)) (ints_Point 0)).d.hi,
                                          (clock_Of (ints_Point (IntKind.i64.wrap fro)) (ints_Point 0)).p.e,
                                          (clock_Of (ints_Point (IntKind.i64.wrap fro)) (ints_Point 0)).p.lo,
                                          (clock_Of (ints_Point (IntKind.i64.wrap fro))
                                                (ints_Point 0)).p.hi)).snd.snd.snd.fst)
                            (I3.mk
                              (l21_ClockCounts_L0_v (fro, ticks, false, l21_works, false, false)
                                          (0, (clock_Of (ints_Point (IntKind.i64.wrap fro)) (ints_Point 0)).d.e,
                                            (clock_Of (ints_Point (IntKind.i64.wrap fro)) (ints_Point 0)).d.lo,
                                            (clock_Of (ints_Point (IntKind.i64.wrap fro)) (ints_Point 0)).d.hi,
                                            (clock_Of (ints_Point (IntKind.i64.wrap fro)) (ints_Point 0)).p.e,
                                            (clock_Of (ints_Point (IntKind.i64.wrap fro)) (ints_Point 0)).p.lo,
                                            (clock_Of (ints_Point (IntKind.i64.wrap fro)) (ints_Point 0)).p.hi,
                                            (clock_Of (ints_Point (IntKind.i64.wrap fro)) (ints_Point 0)).d.e,
                                            (clock_Of (ints_Point (IntKind.i64.wrap fro)) (ints_Point 0)).d.lo,
                                            (clock_Of (ints_Point (IntKind.i64.wrap fro)) (ints_Point 0)).d.hi,
                                            (clock_Of (ints_Point (IntKind.i64.wrap fro)) (ints_Point 0)).p.e,
                                            (clock_Of (ints_Point (IntKind.i64.wrap fro)) (ints_Point 0)).p.lo,
                                            (clock_Of (ints_Point (IntKind.i64.wrap fro))
                                                  (ints_Point 0)).p.hi)).snd.snd.snd.snd.fst
                              (l21_ClockCounts_L0_v (fro, ticks, false, l21_works, false, false)
                                            (0, (clock_Of (ints_Point (IntKind.i64.wrap fro)) (ints_Point 0)).d.e,
                                              (clock_Of (ints_Point (IntKind.i64.wrap fro)) (ints_Point 0)).d.lo,
                                              (clock_Of (ints_Point (IntKind.i64.wrap fro)) (ints_Point 0)).d.hi,
                                              (clock_Of (ints_Point (IntKind.i64.wrap fro)) (ints_Point 0)).p.e,
                                              (clock_Of (ints_Point (IntKind.i64.wrap fro)) (ints_Point 0)).p.lo,
                                              (clock_Of (ints_Point (IntKind.i64.wrap fro)) (ints_Point 0)).p.hi,
                                              (clock_Of (ints_Point (IntKind.i64.wrap fro)) (ints_Point 0)).d.e,
                                              (clock_Of (ints_Point (IntKind.i64.wrap fro)) (ints_Point 0)).d.lo,
                                              (clock_Of (ints_Point (IntKind.i64.wrap fro)) (ints_Point 0)).d.hi,
                                              (clock_Of (ints_Point (IntKind.i64.wrap fro)) (ints_Point 0)).p.e,
                                              (clock_Of (ints_Point (IntKind.i64.wrap fro)) (ints_Point 0)).p.lo,
                                              (clock_Of (ints_Point (IntKind.i64.wrap fro))
                                                    (ints_Point 0)).p.hi)).snd.snd.snd.snd.snd.fst
                              (l21_ClockCounts_L0_v (fro, ticks, false, l21_works, false, false)
                                              (0, (clock_Of (ints_Point (IntKind.i64.wrap fro)) (ints_Point 0)).d.e,
                                                (clock_Of (ints_Point (IntKind.i64.wrap fro)) (ints_Point 0)).d.lo,
                                                (clock_Of (ints_Point (IntKind.i64.wrap fro)) (ints_Point 0)).d.hi,
                                                (clock_Of (ints_Point (IntKind.i64.wrap fro)) (ints_Point 0)).p.e,
                                                (clock_Of (ints_Point (IntKind.i64.wrap fro)) (ints_Point 0)).p.lo,
                                                (clock_Of (ints_Point (IntKind.i64.wrap fro)) (ints_Point 0)).p.hi,
                                                (clock_Of (ints_Point (IntKind.i64.wrap fro)) (ints_Point 0)).d.e,
                                                (clock_Of (ints_Point (IntKind.i64.wrap fro)) (ints_Point 0)).d.lo,
                                                (clock_Of (ints_Point (IntKind.i64.wrap fro)) (ints_Point 0)).d.hi,
                                                (clock_Of (ints_Point (IntKind.i64.wrap fro)) (ints_Point 0)).p.e,
                                                (clock_Of (ints_Point (IntKind.i64.wrap fro)) (ints_Point 0)).p.lo,
                                                (clock_Of (ints_Point (IntKind.i64.wrap fro))
                                                      (ints_Point 0)).p.hi)).snd.snd.snd.snd.snd.snd.fst))
                          (ints_Point ticks)).hi ==
                      (ints_Point (IntKind.i64.wrap (IntKind.i64.wrap fro + ticks))).hi)
                    true)))
              (Tr.br (ticks == 0) (Tr.leaf true)
                (Tr.leaf
                  ((clock_Reduce (ints_Make (-1099511627776) 1099511627776)
                          (CK.mk
                            (I3.mk
                              (l21_ClockCounts_L0_v (fro, ticks, false, l21_works, false, false)
                                                (0, (clock_Of (ints_Point (IntKind.i64.wrap fro)) (ints_Point 0)).d.e,
                                                  (clock_Of (ints_Point (IntKind.i64.wrap fro)) (ints_Point 0)).d.lo,
                                                  (clock_Of (ints_Point (IntKind.i64.wrap fro)) (ints_Point 0)).d.hi,
                                                  (clock_Of (ints_Point (IntKind.i64.wrap fro)) (ints_Point 0)).p.e,
                                                  (clock_Of (ints_Point (IntKind.i64.wrap fro)) (ints_Point 0)).p.lo,
                                                  (clock_Of (ints_Point (IntKind.i64.wrap fro)) (ints_Point 0)).p.hi,
                                                  (clock_Of (ints_Point (IntKind.i64.wrap fro)) (ints_Point 0)).d.e,
                                                  (clock_Of (ints_Point (IntKind.i64.wrap fro)) (ints_Point 0)).d.lo,
                                                  (clock_Of (ints_Point (IntKind.i64.wrap fro)) (ints_Point 0)).d.hi,
                                                  (clock_Of (ints_Point (IntKind.i64.wrap fro)) (ints_Point 0)).p.e,
                                                  (clock_Of (ints_Point (IntKind.i64.wrap fro)) (ints_Point 0)).p.lo,
                                                  (clock_Of (ints_Point (IntKind.i64.wrap fro))
                                                        (ints_Point 0)).p.hi)).snd.snd.snd.snd.snd.snd.snd.fst
                              (l21_ClockCounts_L0_v (fro, ticks, false, l21_works, false, false)
                                                  (0, (clock_Of (ints_Point (IntKind.i64.wrap fro)) (ints_Point 0)).d.e,
                                                    (clock_Of (ints_Point (IntKind.i64.wrap fro)) (ints_Point 0)).d.lo,
                                                    (clock_Of (ints_Point (IntKind.i64.wrap fro)) (ints_Point 0)).d.hi,
                                                    (clock_Of (ints_Point (IntKind.i64.wrap fro)) (ints_Point 0)).p.e,
                                                    (clock_Of (ints_Point (IntKind.i64.wrap fro)) (ints_Point 0)).p.lo,
                                                    (clock_Of (ints_Point (IntKind.i64.wrap fro)) (ints_Point 0)).p.hi,
                                                    (clock_Of (ints_Point (IntKind.i64.wrap fro)) (ints_Point 0)).d.e,
                                                    (clock_Of (ints_Point (IntKind.i64.wrap fro)) (ints_Point 0)).d.lo,
                                                    (clock_Of (ints_Point (IntKind.i64.wrap fro)) (ints_Point 0)).d.hi,
                                                    (clock_Of (ints_Point (IntKind.i64.wrap fro)) (ints_Point 0)).p.e,
                                                    (clock_Of (ints_Point (IntKind.i64.wrap fro)) (ints_Point 0)).p.lo,
                                                    (clock_Of (ints_Point (IntKind.i64.wrap fro))
                                                          (ints_Point 0)).p.hi)).snd.snd.snd.snd.snd.snd.snd.snd.fst
                              (l21_ClockCounts_L0_v (fro, ticks, false, l21_works, false, false)
                                                    (0, (clock_Of (ints_Point (IntKind.i64.wrap fro)) (ints_Point 0)).d.e,
                                                      (clock_Of (ints_Point (IntKind.i64.wrap fro)) (ints_Point 0)).d.lo,
                                                      (clock_Of (ints_Point (IntKind.i64.wrap fro)) (ints_Point 0)).d.hi,
                                                      (clock_Of (ints_Point (IntKind.i64.wrap fro)) (ints_Point 0)).p.e,
                                                      (clock_Of (ints_Point (IntKind.i64.wrap fro)) (ints_Point 0)).p.lo,
                                                      (clock_Of (ints_Point (IntKind.i64.wrap fro)) (ints_Point 0)).p.hi,
                                                      (clock_Of (ints_Point (IntKind.i64.wrap fro)) (ints_Point 0)).d.e,
                                                      (clock_Of (ints_Point (IntKind.i64.wrap fro)) (ints_Point 0)).d.lo,
                                                      (clock_Of (ints_Point (IntKind.i64.wrap fro)) (ints_Point 0)).d.hi,
                                                      (clock_Of (ints_Point (IntKind.i64.wrap fro)) (ints_Point 0)).p.e,
                                                      (clock_Of (ints_Point (IntKind.i64.wrap fro)) (ints_Point 0)).p.lo,
                                                      (clock_Of (ints_Point (IntKind.i64.wrap fro))
                                                            (ints_Point
                                                              0)).p.hi)).snd.snd.snd.snd.snd.snd.snd.snd.snd.fst)
                            (I3.mk
                              (l21_ClockCounts_L0_v (fro, ticks, false, l21_works, false, false)
                                                      (0,
                                                        (clock_Of (ints_Point (IntKind.i64.wrap fro)) (ints_Point 0)).d.e,
                                                        (clock_Of (ints_Point (IntKind.i64.wrap fro))
                                                              (ints_Point 0)).d.lo,
                                                        (clock_Of (ints_Point (IntKind.i64.wrap fro))
                                                              (ints_Point 0)).d.hi,
                                                        (clock_Of (ints_Point (IntKind.i64.wrap fro)) (ints_Point 0)).p.e,
                                                        (clock_Of (ints_Point (IntKind.i64.wrap fro))
                                                              (ints_Point 0)).p.lo,
                                                        (clock_Of (ints_Point (IntKind.i64.wrap fro))
                                                              (ints_Point 0)).p.hi,
                                                        (clock_Of (ints_Point (IntKind.i64.wrap fro)) (ints_Point 0)).d.e,
                                                        (clock_Of (ints_Point (IntKind.i64.wrap fro))
                                                              (ints_Point 0)).d.lo,
                                                        (clock_Of (ints_Point (IntKind.i64.wrap fro))
                                                              (ints_Point 0)).d.hi,
                                                        (clock_Of (ints_Point (IntKind.i64.wrap fro)) (ints_Point 0)).p.e,
                                                        (clock_Of (ints_Point (IntKind.i64.wrap fro))
                                                              (ints_Point 0)).p.lo,
                                                        (clock_Of (ints_Point (IntKind.i64.wrap fro))
                                                              (ints_Point
                                                                0)).p.hi)).snd.snd.snd.snd.snd.snd.snd.snd.snd.snd.fst
                              (l21_ClockCounts_L0_v (fro, ticks, false, l21_works, false, false)
                                                        (0,
                                                          (clock_Of (ints_Point (IntKind.i64.wrap fro))
                                                                (ints_Point 0)).d.e,
                                                          (clock_Of (ints_Point (IntKind.i64.wrap fro))
                                                                (ints_Point 0)).d.lo,
                                                          (clock_Of (ints_Point (IntKind.i64.wrap fro))
                                                                (ints_Point 0)).d.hi,
                                                          (clock_Of (ints_Point (IntKind.i64.wrap fro))
                                                                (ints_Point 0)).p.e,
                                                          (clock_Of (ints_Point (IntKind.i64.wrap fro))
                                                                (ints_Point 0)).p.lo,
                                                          (clock_Of (ints_Point (IntKind.i64.wrap fro))
                                                                (ints_Point 0)).p.hi,
                                                          (clock_Of (ints_Point (IntKind.i64.wrap fro))
                                                                (ints_Point 0)).d.e,
                                                          (clock_Of (ints_Point (IntKind.i64.wrap fro))
                                                                (ints_Point 0)).d.lo,
                                                          (clock_Of (ints_Point (IntKind.i64.wrap fro))
                                                                (ints_Point 0)).d.hi,
                                                          (clock_Of (ints_Point (IntKind.i64.wrap fro))
                                                                (ints_Point 0)).p.e,
                                                          (clock_Of (ints_Point (IntKind.i64.wrap fro))
                                                                (ints_Point 0)).p.lo,
                                                          (clock_Of (ints_Point (IntKind.i64.wrap fro))
                                                                (ints_Point
                                                                  0)).p.hi)).snd.snd.snd.snd.snd.snd.snd.snd.snd.snd.snd.fst
                              (l21_ClockCounts_L0_v (fro, ticks, false, l21_works, false, false)
                                                        (0,
                                                          (clock_Of (ints_Point (IntKind.i64.wrap fro))
                                                                (ints_Point 0)).d.e,
                                                          (clock_Of (ints_Point (IntKind.i64.wrap fro))
                                                                (ints_Point 0)).d.lo,
                                                          (clock_Of (ints_Point (IntKind.i64.wrap fro))
                                                                (ints_Point 0)).d.hi,
                                                          (clock_Of (ints_Point (IntKind.i64.wrap fro))
                                                                (ints_Point 0)).p.e,
                                                          (clock_Of (ints_Point (IntKind.i64.wrap fro))
                                                                (ints_Point 0)).p.lo,
                                                          (clock_Of (ints_Point (IntKind.i64.wrap fro))
                                                                (ints_Point 0)).p.hi,
                                                          (clock_Of (ints_Point (IntKind.i64.wrap fro))
                                                                (ints_Point 0)).d.e,
                                                          (clock_Of (ints_Point (IntKind.i64.wrap fro))
                                                                (ints_Point 0)).d.lo,
                                                          (clock_Of (ints_Point (IntKind.i64.wrap fro))
                                                                (ints_Point 0)).d.hi,
                                                          (clock_Of (ints_Point (IntKind.i64.wrap fro))
                                                                (ints_Point 0)).p.e,
                                                          (clock_Of (ints_Point (IntKind.i64.wrap fro))
                                                                (ints_Point 0)).p.lo,
                                                          (clock_Of (ints_Point (IntKind.i64.wrap fro))
                                                                (ints_Point
                                                                  0)).p.hi)).snd.snd.snd.snd.snd.snd.snd.snd.snd.snd.snd.snd))
                          (ints_Make 0 2147483647)).e ==
                      (ints_Make (IntKind.i64.wrap fro) (IntKind.i64.wrap (IntKind.i64.wrap fro + 2147483647))).e &&
                    ((clock_Reduce (ints_Make (-1099511627776) 1099511627776)
                            (CK.mk
                              (I3.mk
                                (l21_ClockCounts_L0_v (fro, ticks, false, l21_works, false, false)
                                                  (0, (clock_Of (ints_Point (IntKind.i64.wrap fro)) (ints_Point 0)).d.e,
                                                    (clock_Of (ints_Point (IntKind.i64.wrap fro)) (ints_Point 0)).d.lo,
                                                    (clock_Of (ints_Point (IntKind.i64.wrap fro)) (ints_Point 0)).d.hi,
                                                    (clock_Of (ints_Point (IntKind.i64.wrap fro)) (ints_Point 0)).p.e,
                                                    (clock_Of (ints_Point (IntKind.i64.wrap fro)) (ints_Point 0)).p.lo,
                                                    (clock_Of (ints_Point (IntKind.i64.wrap fro)) (ints_Point 0)).p.hi,
                                                    (clock_Of (ints_Point (IntKind.i64.wrap fro)) (ints_Point 0)).d.e,
                                                    (clock_Of (ints_Point (IntKind.i64.wrap fro)) (ints_Point 0)).d.lo,
                                                    (clock_Of (ints_Point (IntKind.i64.wrap fro)) (ints_Point 0)).d.hi,
                                                    (clock_Of (ints_Point (IntKind.i64.wrap fro)) (ints_Point 0)).p.e,
                                                    (clock_Of (ints_Point (IntKind.i64.wrap fro)) (ints_Point 0)).p.lo,
                                                    (clock_Of (ints_Point (IntKind.i64.wrap fro))
                                                          (ints_Point 0)).p.hi)).snd.snd.snd.snd.snd.snd.snd.fst
                                (l21_ClockCounts_L0_v (fro, ticks, false, l21_works, false, false)
                                                    (0, (clock_Of (ints_Point (IntKind.i64.wrap fro)) (ints_Point 0)).d.e,
                                                      (clock_Of (ints_Point (IntKind.i64.wrap fro)) (ints_Point 0)).d.lo,
                                                      (clock_Of (ints_Point (IntKind.i64.wrap fro)) (ints_Point 0)).d.hi,
                                                      (clock_Of (ints_Point (IntKind.i64.wrap fro)) (ints_Point 0)).p.e,
                                                      (clock_Of (ints_Point (IntKind.i64.wrap fro)) (ints_Point 0)).p.lo,
                                                      (clock_Of (ints_Point (IntKind.i64.wrap fro)) (ints_Point 0)).p.hi,
                                                      (clock_Of (ints_Point (IntKind.i64.wrap fro)) (ints_Point 0)).d.e,
                                                      (clock_Of (ints_Point (IntKind.i64.wrap fro)) (ints_Point 0)).d.lo,
                                                      (clock_Of (ints_Point (IntKind.i64.wrap fro)) (ints_Point 0)).d.hi,
                                                      (clock_Of (ints_Point (IntKind.i64.wrap fro)) (ints_Point 0)).p.e,
                                                      (clock_Of (ints_Point (IntKind.i64.wrap fro)) (ints_Point 0)).p.lo,
                                                      (clock_Of (ints_Point (IntKind.i64.wrap fro))
                                                            (ints_Point 0)).p.hi)).snd.snd.snd.snd.snd.snd.snd.snd.fst
                                (l21_ClockCounts_L0_v (fro, ticks, false, l21_works, false, false)
                                                      (0,
                                                        (clock_Of (ints_Point (IntKind.i64.wrap fro)) (ints_Point 0)).d.e,
                                                        (clock_Of (ints_Point (IntKind.i64.wrap fro))
                                                              (ints_Point 0)).d.lo,
                                                        (clock_Of (ints_Point (IntKind.i64.wrap fro))
                                                              (ints_Point 0)).d.hi,
                                                        (clock_Of (ints_Point (IntKind.i64.wrap fro)) (ints_Point 0)).p.e,
                                                        (clock_Of (ints_Point (IntKind.i64.wrap fro))
                                                              (ints_Point 0)).p.lo,
                                                        (clock_Of (ints_Point (IntKind.i64.wrap fro))
                                                              (ints_Point 0)).p.hi,
                                                        (clock_Of (ints_Point (IntKind.i64.wrap fro)) (ints_Point 0)).d.e,
                                                        (clock_Of (ints_Point (IntKind.i64.wrap fro))
                                                              (ints_Point 0)).d.lo,
                                                        (clock_Of (ints_Point (IntKind.i64.wrap fro))
                                                              (ints_Point 0)).d.hi,
                                                        (clock_Of (ints_Point (IntKind.i64.wrap fro)) (ints_Point 0)).p.e,
                                                        (clock_Of (ints_Point (IntKind.i64.wrap fro))
                                                              (ints_Point 0)).p.lo,
                                                        (clock_Of (ints_Point (IntKind.i64.wrap fro))
                                                              (ints_Point
                                                                0)).p.hi)).snd.snd.snd.snd.snd.snd.snd.snd.snd.fst)
                              (I3.mk
                                (l21_ClockCounts_L0_v (fro, ticks, false, l21_works, false, false)
                                                        (0,
                                                          (clock_Of (ints_Point (IntKind.i64.wrap fro))
                                                                (ints_Point 0)).d.e,
                                                          (clock_Of (ints_Point (IntKind.i64.wrap fro))
                                                                (ints_Point 0)).d.lo,
                                                          (clock_Of (ints_Point (IntKind.i64.wrap fro))
                                                                (ints_Point 0)).d.hi,
                                                          (clock_Of (ints_Point (IntKind.i64.wrap fro))
                                                                (ints_Point 0)).p.e,
                                                          (clock_Of (ints_Point (IntKind.i64.wrap fro))
                                                                (ints_Point 0)).p.lo,
                                                          (clock_Of (ints_Point (IntKind.i64.wrap fro))
                                                                (ints_Point 0)).p.hi,
                                                          (clock_Of (ints_Point (IntKind.i64.wrap fro))
                                                                (ints_Point 0)).d.e,
                                                          (clock_Of (ints_Point (IntKind.i64.wrap fro))
                                                                (ints_Point 0)).d.lo,
                                                          (clock_Of (ints_Point (IntKind.i64.wrap fro))
                                                                (ints_Point 0)).d.hi,
                                                          (clock_Of (ints_Point (IntKind.i64.wrap fro))
                                                                (ints_Point 0)).p.e,
                                                          (clock_Of (ints_Point (IntKind.i64.wrap fro))
                                                                (ints_Point 0)).p.lo,
                                                          (clock_Of (ints_Point (IntKind.i64.wrap fro))
                                                                (ints_Point
                                                                  0)).p.hi)).snd.snd.snd.snd.snd.snd.snd.snd.snd.snd.fst
                                (l21_ClockCounts_L0_v (fro, ticks, false, l21_works, false, false)
                                                          (0,
                                                            (clock_Of (ints_Point (IntKind.i64.wrap fro))
                                                                  (ints_Point 0)).d.e,
                                                            (clock_Of (ints_Point (IntKind.i64.wrap fro))
                                                                  (ints_Point 0)).d.lo,
                                                            (clock_Of (ints_Point (IntKind.i64.wrap fro))
                                                                  (ints_Point 0)).d.hi,
                                                            (clock_Of (ints_Point (IntKind.i64.wrap fro))
                                                                  (ints_Point 0)).p.e,
                                                            (clock_Of (ints_Point (IntKind.i64.wrap fro))
                                                                  (ints_Point 0)).p.lo,
                                                            (clock_Of (ints_Point (IntKind.i64.wrap fro))
                                                                  (ints_Point 0)).p.hi,
                                                            (clock_Of (ints_Point (IntKind.i64.wrap fro))
                                                                  (ints_Point 0)).d.e,
                                                            (clock_Of (ints_Point (IntKind.i64.wrap fro))
                                                                  (ints_Point 0)).d.lo,
                                                            (clock_Of (ints_Point (IntKind.i64.wrap fro))
                                                                  (ints_Point 0)).d.hi,
                                                            (clock_Of (ints_Point (IntKind.i64.wrap fro))
                                                                  (ints_Point 0)).p.e,
                                                            (clock_Of (ints_Point (IntKind.i64.wrap fro))
                                                                  (ints_Point 0)).p.lo,
                                                            (clock_Of (ints_Point (IntKind.i64.wrap fro))
                                                                  (ints_Point
                                                                    0)).p.hi)).snd.snd.snd.snd.snd.snd.snd.snd.snd.snd.snd.fst
                                (l21_ClockCounts_L0_v (fro, ticks, false, l21_works, false, false)
                                                          (0,
                                                            (clock_Of (ints_Point (IntKind.i64.wrap fro))
                                                                  (ints_Point 0)).d.e,
                                                            (clock_Of (ints_Point (IntKind.i64.wrap fro))
                                                                  (ints_Point 0)).d.lo,
                                                            (clock_Of (ints_Point (IntKind.i64.wrap fro))
                                                                  (ints_Point 0)).d.hi,
                                                            (clock_Of (ints_Point (IntKind.i64.wrap fro))
                                                                  (ints_Point 0)).p.e,
                                                            (clock_Of (ints_Point (IntKind.i64.wrap fro))
                                                                  (ints_Point 0)).p.lo,
                                                            (clock_Of (ints_Point (IntKind.i64.wrap fro))
                                                                  (ints_Point 0)).p.hi,
                                                            (clock_Of (ints_Point (IntKind.i64.wrap fro))
                                                                  (ints_Point 0)).d.e,
                                                            (clock_Of (ints_Point (IntKind.i64.wrap fro))
                                                                  (ints_Point 0)).d.lo,
                                                            (clock_Of (ints_Point (IntKind.i64.wrap fro))
                                                                  (ints_Point 0)).d.hi,
                                                            (clock_Of (ints_Point (IntKind.i64.wrap fro))
                                                                  (ints_Point 0)).p.e,
                                                            (clock_Of (ints_Point (IntKind.i64.wrap fro))
                                                                  (ints_Point 0)).p.lo,
                                                            (clock_Of (ints_Point (IntKind.i64.wrap fro))
                                                                  (ints_Point
                                                                    0)).p.hi)).snd.snd.snd.snd.snd.snd.snd.snd.snd.snd.snd.snd))
                            (ints_Make 0 2147483647)).lo ==
                        (ints_Make (IntKind.i64.wrap fro) (IntKind.i64.wrap (IntKind.i64.wrap fro + 2147483647))).lo &&
                      ((clock_Reduce (ints_Make (-1099511627776) 1099511627776)
                              (CK.mk
                                (I3.mk
                                  (l21_ClockCounts_L0_v (fro, ticks, false, l21_works, false, false)
                                                    (0, (clock_Of (ints_Point (IntKind.i64.wrap fro)) (ints_Point 0)).d.e,
                                                      (clock_Of (ints_Point (IntKind.i64.wrap fro)) (ints_Point 0)).d.lo,
                                                      (clock_Of (ints_Point (IntKind.i64.wrap fro)) (ints_Point 0)).d.hi,
                                                      (clock_Of (ints_Point (IntKind.i64.wrap fro)) (ints_Point 0)).p.e,
                                                      (clock_Of (ints_Point (IntKind.i64.wrap fro)) (ints_Point 0)).p.lo,
                                                      (clock_Of (ints_Point (IntKind.i64.wrap fro)) (ints_Point 0)).p.hi,
                                                      (clock_Of (ints_Point (IntKind.i64.wrap fro)) (ints_Point 0)).d.e,
                                                      (clock_Of (ints_Point (IntKind.i64.wrap fro)) (ints_Point 0)).d.lo,
                                                      (clock_Of (ints_Point (IntKind.i64.wrap fro)) (ints_Point 0)).d.hi,
                                                      (clock_Of (ints_Point (IntKind.i64.wrap fro)) (ints_Point 0)).p.e,
                                                      (clock_Of (ints_Point (IntKind.i64.wrap fro)) (ints_Point 0)).p.lo,
                                                      (clock_Of (ints_Point (IntKind.i64.wrap fro))
                                                            (ints_Point 0)).p.hi)).snd.snd.snd.snd.snd.snd.snd.fst
                                  (l21_ClockCounts_L0_v (fro, ticks, false, l21_works, false, false)
                                                      (0,
                                                        (clock_Of (ints_Point (IntKind.i64.wrap fro)) (ints_Point 0)).d.e,
                                                        (clock_Of (ints_Point (IntKind.i64.wrap fro))
                                                              (ints_Point 0)).d.lo,
                                                        (clock_Of (ints_Point (IntKind.i64.wrap fro))
                                                              (ints_Point 0)).d.hi,
                                                        (clock_Of (ints_Point (IntKind.i64.wrap fro)) (ints_Point 0)).p.e,
                                                        (clock_Of (ints_Point (IntKind.i64.wrap fro))
                                                              (ints_Point 0)).p.lo,
                                                        (clock_Of (ints_Point (IntKind.i64.wrap fro))
                                                              (ints_Point 0)).p.hi,
                                                        (clock_Of (ints_Point (IntKind.i64.wrap fro)) (ints_Point 0)).d.e,
                                                        (clock_Of (ints_Point (IntKind.i64.wrap fro))
                                                              (ints_Point 0)).d.lo,
                                                        (clock_Of (ints_Point (IntKind.i64.wrap fro))
                                                              (ints_Point 0)).d.hi,
                                                        (clock_Of (ints_Point (IntKind.i64.wrap fro)) (ints_Point 0)).p.e,
                                                        (clock_Of (ints_Point (IntKind.i64.wrap fro))
                                                              (ints_Point 0)).p.lo,
                                                        (clock_Of (ints_Point (IntKind.i64.wrap fro))
                                                              (ints_Point 0)).p.hi)).snd.snd.snd.snd.snd.snd.snd.snd.fst
                                  (l21_ClockCounts_L0_v (fro, ticks, false, l21_works, false, false)
                                                        (0,
                                                          (clock_Of (ints_Point (IntKind.i64.wrap fro))
                                                                (ints_Point 0)).d.e,
                                                          (clock_Of (ints_Point (IntKind.i64.wrap fro))
                                                                (ints_Point 0)).d.lo,
                                                          (clock_Of (ints_Point (IntKind.i64.wrap fro))
                                                                (ints_Point 0)).d.hi,
                                                          (clock_Of (ints_Point (IntKind.i64.wrap fro))
                                                                (ints_Point 0)).p.e,
                                                          (clock_Of (ints_Point (IntKind.i64.wrap fro))
                                                                (ints_Point 0)).p.lo,
                                                          (clock_Of (ints_Point (IntKind.i64.wrap fro))
                                                                (ints_Point 0)).p.hi,
                                                          (clock_Of (ints_Point (IntKind.i64.wrap fro))
                                                                (ints_Point 0)).d.e,
                                                          (clock_Of (ints_Point (IntKind.i64.wrap fro))
                                                                (ints_Point 0)).d.lo,
                                                          (clock_Of (ints_Point (IntKind.i64.wrap fro))
                                                                (ints_Point 0)).d.hi,
                                                          (clock_Of (ints_Point (IntKind.i64.wrap fro))
                                                                (ints_Point 0)).p.e,
                                                          (clock_Of (ints_Point (IntKind.i64.wrap fro))
                                                                (ints_Point 0)).p.lo,
                                                          (clock_Of (ints_Point (IntKind.i64.wrap fro))
                                                                (ints_Point
                                                                  0)).p.hi)).snd.snd.snd.snd.snd.snd.snd.snd.snd.fst)
                                (I3.mk
                                  (l21_ClockCounts_L0_v (fro, ticks, false, l21_works, false, false)
                                                          (0,
                                                            (clock_Of (ints_Point (IntKind.i64.wrap fro))
                                                                  (ints_Point 0)).d.e,
                                                            (clock_Of (ints_Point (IntKind.i64.wrap fro))
                                                                  (ints_Point 0)).d.lo,
                                                            (clock_Of (ints_Point (IntKind.i64.wrap fro))
                                                                  (ints_Point 0)).d.hi,
                                                            (clock_Of (ints_Point (IntKind.i64.wrap fro))
                                                                  (ints_Point 0)).p.e,
                                                            (clock_Of (ints_Point (IntKind.i64.wrap fro))
                                                                  (ints_Point 0)).p.lo,
                                                            (clock_Of (ints_Point (IntKind.i64.wrap fro))
                                                                  (ints_Point 0)).p.hi,
                                                            (clock_Of (ints_Point (IntKind.i64.wrap fro))
                                                                  (ints_Point 0)).d.e,
                                                            (clock_Of (ints_Point (IntKind.i64.wrap fro))
                                                                  (ints_Point 0)).d.lo,
                                                            (clock_Of (ints_Point (IntKind.i64.wrap fro))
                                                                  (ints_Point 0)).d.hi,
                                                            (clock_Of (ints_Point (IntKind.i64.wrap fro))
                                                                  (ints_Point 0)).p.e,
                                                            (clock_Of (ints_Point (IntKind.i64.wrap fro))
                                                                  (ints_Point 0)).p.lo,
                                                            (clock_Of (ints_Point (IntKind.i64.wrap fro))
                                                                  (ints_Point
                                                                    0)).p.hi)).snd.snd.snd.snd.snd.snd.snd.snd.snd.snd.fst
                                  (l21_ClockCounts_L0_v (fro, ticks, false, l21_works, false, false)
                                                            (0,
                                                              (clock_Of (ints_Point (IntKind.i64.wrap fro))
                                                                    (ints_Point 0)).d.e,
                                                              (clock_Of (ints_Point (IntKind.i64.wrap fro))
                                                                    (ints_Point 0)).d.lo,
                                                              (clock_Of (ints_Point (IntKind.i64.wrap fro))
                                                                    (ints_Point 0)).d.hi,
                                                              (clock_Of (ints_Point (IntKind.i64.wrap fro))
                                                                    (ints_Point 0)).p.e,
                                                              (clock_Of (ints_Point (IntKind.i64.wrap fro))
                                                                    (ints_Point 0)).p.lo,
                                                              (clock_Of (ints_Point (IntKind.i64.wrap fro))
                                                                    (ints_Point 0)).p.hi,
                                                              (clock_Of (ints_Point (IntKind.i64.wrap fro))
                                                                    (ints_Point 0)).d.e,
                                                              (clock_Of (ints_Point (IntKind.i64.wrap fro))
                                                                    (ints_Point 0)).d.lo,
                                                              (clock_Of (ints_Point (IntKind.i64.wrap fro))
                                                                    (ints_Point 0)).d.hi,
                                                              (clock_Of (ints_Point (IntKind.i64.wrap fro))
                                                                    (ints_Point 0)).p.e,
                                                              (clock_Of (ints_Point (IntKind.i64.wrap fro))
                                                                    (ints_Point 0)).p.lo,
                                                              (clock_Of (ints_Point (IntKind.i64.wrap fro))
                                                                    (ints_Point
                                                                      0)).p.hi)).snd.snd.snd.snd.snd.snd.snd.snd.snd.snd.snd.fst
                                  (l21_ClockCounts_L0_v (fro, ticks, false, l21_works, false, false)
                                                            (0,
                                                              (clock_Of (ints_Point (IntKind.i64.wrap fro))
                                                                    (ints_Point 0)).d.e,
                                                              (clock_Of (ints_Point (IntKind.i64.wrap fro))
                                                                    (ints_Point 0)).d.lo,
                                                              (clock_Of (ints_Point (IntKind.i64.wrap fro))
                                                                    (ints_Point 0)).d.hi,
                                                              (clock_Of (ints_Point (IntKind.i64.wrap fro))
                                                                    (ints_Point 0)).p.e,
                                                              (clock_Of (ints_Point (IntKind.i64.wrap fro))
                                                                    (ints_Point 0)).p.lo,
                                                              (clock_Of (ints_Point (IntKind.i64.wrap fro))
                                                                    (ints_Point 0)).p.hi,
                                                              (clock_Of (ints_Point (IntKind.i64.wrap fro))
                                                                    (ints_Point 0)).d.e,
                                                              (clock_Of (ints_Point (IntKind.i64.wrap fro))
                                                                    (ints_Point 0)).d.lo,
                                                              (clock_Of (ints_Point (IntKind.i64.wrap fro))
                                                                    (ints_Point 0)).d.hi,
                                                              (clock_Of (ints_Point (IntKind.i64.wrap fro))
                                                                    (ints_Point 0)).p.e,
                                                              (clock_Of (ints_Point (IntKind.i64.wrap fro))
                                                                    (ints_Point 0)).p.lo,
                                                              (clock_Of (ints_Point (IntKind.i64.wrap fro))
                                                                    (ints_Point
                                                                      0)).p.hi)).snd.snd.snd.snd.snd.snd.snd.snd.snd.snd.snd.snd))
                              (ints_Make 0 2147483647)).hi ==
                          (ints_Make (IntKind.i64.wrap fro) (IntKind.i64.wrap (IntKind.i64.wrap fro + 2147483647))).hi &&
                        true)))))
              (Tr.leaf false))
            (Tr.leaf false)))))
def l21_ClockCounts_t (fro : Int) (ticks : Int) : Tr (Bool) := l21_ClockCounts_T l21_works ints_Point clock_Of ints_Make clock_Reduce l21_ClockCounts_L0_ok l21_ClockCounts_L0_v fro ticks
def l21_ClockCounts (fro : Int) (ticks : Int) : Bool := (l21_ClockCounts_t fro ticks).val
theorem l21_ClockCounts_ev (l21_works : Bool) (ints_Point : Int → I3) (clock_Of : I3 → I3 → CK) (clock_Move : CK → I3 → CK) (clock_Tick : CK → CK) (clock_Join : CK → CK → CK) (clock_Widen : CK → CK → (List Int) → CK) (clock_Widen_s : CK → CK → (List Int) → Bool) (ints_Make : Int → Int → I3) (clock_Reduce : I3 → CK → I3 → I3) (l21_ClockCounts_L0_ok : (Int × Int × Bool × Bool × Bool × Bool) → (Int × Bool × Int × Int × Bool × Int × Int × Bool × Int × Int × Bool × Int × Int) → Bool) (l21_ClockCounts_L0_v : (Int × Int × Bool × Bool × Bool × Bool) → (Int × Bool × Int × Int × Bool × Int × Int × Bool × Int × Int × Bool × Int × Int) → Int × Bool × Int × Int × Bool × Int × Int × Bool × Int × Int × Bool × Int × Int) (fro : Int) (ticks : Int) (Q : AV → Prop) : evF Try.prog (mkC [(13, (sumT aNil fun _ => (o1 (cBool)).enc (l21_works ))), (35, (sumT (aOne (cInt .i64)) fun x => (o1 (cI3)).enc (ints_Point x))), (15, (sumT (aCons (cI3) (aOne (cI3))) fun x => (o1 (cCK)).enc (clock_Of x.1 x.2))), (17, (sumT (aCons (cCK) (aOne (cI3))) fun x => (o1 (cCK)).enc (clock_Move x.1 x.2))), (20, (sumT (aOne (cCK)) fun x => (o1 (cCK)).enc (clock_Tick x))), (26, (sumT (aCons (cCK) (aOne (cCK))) fun x => (o1 (cCK)).enc (clock_Join x.1 x.2))), (29, (sumOf (aCons (cCK) (aCons (cCK) (aOne (cInts .i64)))) (fun x => clock_Widen_s x.1 x.2.1 x.2.2) fun x => (o1 (cCK)).enc (clock_Widen x.1 x.2.1 x.2.2))), (37, (sumT (aCons (cInt .i64) (aOne (cInt .i64))) fun x => (o1 (cI3)).enc (ints_Make x.1 x.2))), (24, (sumT (aCons (cI3) (aCons (cCK) (aOne (cI3)))) fun x => (o1 (cI3)).enc (clock_Reduce x.1 x.2.1 x.2.2)))]) (fun id => cond (Nat.beq 9 id) (some (lsE 0 l21_ClockCounts_L0_dec l21_ClockCounts_L0_I l21_ClockCounts_L0_ok l21_ClockCounts_L0_v)) (none) : Loops) 60 Try.f6 ((aCons (cInt .i32) (aOne (cInt .i64))).enc (fro, ticks)) Q = (l21_ClockCounts_T l21_works ints_Point clock_Of ints_Make clock_Reduce l21_ClockCounts_L0_ok l21_ClockCounts_L0_v fro ticks).prop (fun x => Q ((o1 (cBool)).enc x)) := by kernel_rfl
def l21_ClockCounts_s (fro : Int) (ticks : Int) : Bool := (l21_ClockCounts_t fro ticks).safe
theorem l21_ClockCounts_c (x : Int × Int) (hs : l21_ClockCounts_s x.1 x.2 = true) (w : World) (vs : Array Value) (hp : ArgsR ((aCons (cInt .i32) (aOne (cInt .i64))).enc x) w vs) : Calls Try.prog 6 vs w (Ans ((o1 (cBool)).enc (l21_ClockCounts x.1 x.2)) w) :=
  contractT mixed (AllGood.cons l21_works_ok (AllGood.cons ints_Point_ok (AllGood.cons clock_Of_ok (AllGood.cons clock_Move_ok (AllGood.cons clock_Tick_ok (AllGood.cons clock_Join_ok (AllGood.cons clock_Widen_ok (AllGood.cons ints_Make_ok (AllGood.cons clock_Reduce_ok AllGood.nil))))))))) Try.func6 (fun _ _ => loops_all (m := 1) (by kernel_rfl) (fun i hi => match i, hi with
    | 0, _ => (fun g hg s k hk => l21_ClockCounts_L0_ls (cast (congrFun (congrFun (Option.some.inj (hg.symm.trans (by kernel_rfl))) s) k) hk))
    | (j + 1), hi => absurd hi (by omega))) hs (l21_ClockCounts_ev l21_works ints_Point clock_Of clock_Move clock_Tick clock_Join clock_Widen clock_Widen_s ints_Make clock_Reduce l21_ClockCounts_L0_ok l21_ClockCounts_L0_v x.1 x.2) w vs hp
theorem l21_ClockCounts_ok : GoodF Try.prog 6 (sumOf (aCons (cInt .i32) (aOne (cInt .i64))) (fun x => l21_ClockCounts_s x.1 x.2) fun x => (o1 (cBool)).enc (l21_ClockCounts x.1 x.2)) :=
  good_sum (callable_of Try.func6 (by kernel_rfl) (by kernel_rfl)) l21_ClockCounts_c
end Go.Proofs.Ytfbpklopnnnniaa
