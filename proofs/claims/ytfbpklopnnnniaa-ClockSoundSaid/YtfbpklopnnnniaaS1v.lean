/- Contracts and laws of functions of the program, on the way to the claim. Conditions: as each theorem states. -/
import Derived.Test.YtfbpklopnnnniaaS1o
namespace Go.Proofs.Ytfbpklopnnnniaa
open Go.Ev Go.Fb


/-! flyball/flyballlaw21.ClockSound -/
def l21_ClockSound_T (l21_works : Bool) (clock_Has : CK → Int → Int → Bool) (clock_Tick : CK → CK) (ints_Point : Int → I3) (clock_Move : CK → I3 → CK) (clock_Join : CK → CK → CK) (clock_Widen : CK → CK → (List Int) → CK) (clock_Widen_s : CK → CK → (List Int) → Bool) (clock_Meet : CK → CK → CK) (ints_Has : I3 → Int → Bool) (clock_Reduce : I3 → CK → I3 → I3) (clock_Tight : CK → I3 → I3 → CK) (clock_Of : I3 → I3 → CK) (a : CK) (b : CK) (v : I3) (k : I3) (n : Int) (m : Int) (d : Int) (steps : List Int) : Tr (Bool) :=
  Tr.br (!l21_works) (Tr.leaf false)
    (Tr.br (decide ((steps.length : Int) > 200)) (Tr.leaf l21_works)
      (Tr.br (decide (n < -34359738368)) (Tr.leaf l21_works)
        (Tr.br (decide (n > 34359738368)) (Tr.leaf l21_works)
          (Tr.br (decide (m < -34359738368)) (Tr.leaf l21_works)
            (Tr.br (decide (m > 34359738368)) (Tr.leaf l21_works)
              (Tr.br (decide (d < -34359738368)) (Tr.leaf l21_works)
                (Tr.br (decide (d > 34359738368)) (Tr.leaf l21_works)
                  (Tr.br (!clock_Has a n m) (Tr.leaf l21_works)
                    (Tr.br (clock_Has (clock_Tick a) n (IntKind.i64.wrap (m + 1)))
                      (Tr.br (clock_Has (clock_Join a b) n m)
                        (Tr.br (clock_Has (clock_Join b a) n m)
                          (Tr.ast (clock_Widen_s a b steps)
                            (Tr.br (clock_Has (clock_Widen a b steps) n m)
                              (Tr.ast (clock_Widen_s b a steps)
                                (Tr.br (ints_Has v n)
                                  (Tr.br (!ints_Has k m)
                                    (Tr.br l21_works
                                      (Tr.br (clock_Has (clock_Move a (ints_Point d)) (IntKind.i64.wrap (n + d)) m)
                                        (Tr.br (clock_Has (clock_Widen b a steps) n m)
                                          (Tr.br (clock_Has (clock_Meet a b) n m == clock_Has b n m) (Tr.leaf true)
                                            (Tr.leaf false))
                                          (Tr.leaf false))
                                        (Tr.leaf false))
                                      (Tr.leaf false))
                                    (Tr.br (ints_Has (clock_Reduce v a k) n)
                                      (Tr.br (clock_Has (clock_Tight a v k) n m)
                                        (Tr.br l21_works
                                          (Tr.br (clock_Has (clock_Move a (ints_Point d)) (IntKind.i64.wrap (n + d)) m)
                                            (Tr.br (clock_Has (clock_Widen b a steps) n m)
                                              (Tr.br (clock_Has (clock_Meet a b) n m == clock_Has b n m)
                                                (Tr.leaf (clock_Has (clock_Of v k) n m)) (Tr.leaf false))
                                              (Tr.leaf false))
                                            (Tr.leaf false))
                                          (Tr.leaf false))
                                        (Tr.br l21_works
                                          (Tr.br (clock_Has (clock_Move a (ints_Point d)) (IntKind.i64.wrap (n + d)) m)
                                            (Tr.br (clock_Has (clock_Widen b a steps) n m)
                                              (Tr.br (clock_Has (clock_Meet a b) n m == clock_Has b n m) (Tr.leaf false)
                                                (Tr.leaf false))
                                              (Tr.leaf false))
                                            (Tr.leaf false))
                                          (Tr.leaf false)))
                                      (Tr.br l21_works
                                        (Tr.br (clock_Has (clock_Move a (ints_Point d)) (IntKind.i64.wrap (n + d)) m)
                                          (Tr.br (clock_Has (clock_Widen b a steps) n m)
                                            (Tr.br (clock_Has (clock_Meet a b) n m == clock_Has b n m) (Tr.leaf false)
                                              (Tr.leaf false))
                                            (Tr.leaf false))
                                          (Tr.leaf false))
                                        (Tr.leaf false))))
                                  (Tr.br l21_works
                                    (Tr.br (clock_Has (clock_Move a (ints_Point d)) (IntKind.i64.wrap (n + d)) m)
                                      (Tr.br (clock_Has (clock_Widen b a steps) n m)
                                        (Tr.br (clock_Has (clock_Meet a b) n m == clock_Has b n m) (Tr.leaf true)
                                          (Tr.leaf false))
                                        (Tr.leaf false))
                                      (Tr.leaf false))
                                    (Tr.leaf false))))
                              (Tr.br (ints_Has v n)
                                (Tr.br (!ints_Has k m)
                                  (Tr.br l21_works
                                    (Tr.br (clock_Has (clock_Move a (ints_Point d)) (IntKind.i64.wrap (n + d)) m)
                                      (Tr.leaf false) (Tr.leaf false))
                                    (Tr.leaf false))
                                  (Tr.br (ints_Has (clock_Reduce v a k) n)
                                    (Tr.br (clock_Has (clock_Tight a v k) n m)
                                      (Tr.br l21_works
                                        (Tr.br (clock_Has (clock_Move a (ints_Point d)) (IntKind.i64.wrap (n + d)) m)
                                          (Tr.leaf false) (Tr.leaf false))
                                        (Tr.leaf false))
                                      (Tr.br l21_works
                                        (Tr.br (clock_Has (clock_Move a (ints_Point d)) (IntKind.i64.wrap (n + d)) m)
                                          (Tr.leaf false) (Tr.leaf false))
                                        (Tr.leaf false)))
                                    (Tr.br l21_works
                                      (Tr.br (clock_Has (clock_Move a (ints_Point d)) (IntKind.i64.wrap (n + d)) m)
                                        (Tr.leaf false) (Tr.leaf false))
                                      (Tr.leaf false))))
                                (Tr.br l21_works
                                  (Tr.br (clock_Has (clock_Move a (ints_Point d)) (IntKind.i64.wrap (n + d)) m)
                                    (Tr.leaf false) (Tr.leaf false))
                                  (Tr.leaf false)))))
                          (Tr.br (ints_Has v n)
                            (Tr.br (!ints_Has k m)
                              (Tr.br l21_works
                                (Tr.br (clock_Has (clock_Move a (ints_Point d)) (IntKind.i64.wrap (n + d)) m)
                                  (Tr.leaf false) (Tr.leaf false))
                                (Tr.leaf false))
                              (Tr.br (ints_Has (clock_Reduce v a k) n)
                                (Tr.br (clock_Has (clock_Tight a v k) n m)
                                  (Tr.br l21_works
                                    (Tr.br (clock_Has (clock_Move a (ints_Point d)) (IntKind.i64.wrap (n + d)) m)
                                      (Tr.leaf false) (Tr.leaf false))
                                    (Tr.leaf false))
                                  (Tr.br l21_works
                                    (Tr.br (clock_Has (clock_Move a (ints_Point d)) (IntKind.i64.wrap (n + d)) m)
                                      (Tr.leaf false) (Tr.leaf false))
                                    (Tr.leaf false)))
                                (Tr.br l21_works
                                  (Tr.br (clock_Has (clock_Move a (ints_Point d)) (IntKind.i64.wrap (n + d)) m)
                                    (Tr.leaf false) (Tr.leaf false))
                                  (Tr.leaf false))))
                            (Tr.br l21_works
                              (Tr.br (clock_Has (clock_Move a (ints_Point d)) (IntKind.i64.wrap (n + d)) m)
                                (Tr.leaf false) (Tr.leaf false))
                              (Tr.leaf false))))
                        (Tr.br (ints_Has v n)
                          (Tr.br (!ints_Has k m)
                            (Tr.br l21_works
                              (Tr.br (clock_Has (clock_Move a (ints_Point d)) (IntKind.i64.wrap (n + d)) m)
                                (Tr.leaf false) (Tr.leaf false))
                              (Tr.leaf false))
                            (Tr.br (ints_Has (clock_Reduce v a k) n)
                              (Tr.br (clock_Has (clock_Tight a v k) n m)
                                (Tr.br l21_works
                                  (Tr.br (clock_Has (clock_Move a (ints_Point d)) (IntKind.i64.wrap (n + d)) m)
                                    (Tr.leaf false) (Tr.leaf false))
                                  (Tr.leaf false))
                                (Tr.br l21_works
                                  (Tr.br (clock_Has (clock_Move a (ints_Point d)) (IntKind.i64.wrap (n + d)) m)
                                    (Tr.leaf false) (Tr.leaf false))
                                  (Tr.leaf false)))
                              (Tr.br l21_works
                                (Tr.br (clock_Has (clock_Move a (ints_Point d)) (IntKind.i64.wrap (n + d)) m)
                                  (Tr.leaf false) (Tr.leaf false))
                                (Tr.leaf false))))
                          (Tr.br l21_works
                            (Tr.br (clock_Has (clock_Move a (ints_Point d)) (IntKind.i64.wrap (n + d)) m) (Tr.leaf false)
                              (Tr.leaf false))
                            (Tr.leaf false))))
                      (Tr.br (clock_Has (clock_Join a b) n m)
                        (Tr.br (clock_Has (clock_Join b a) n m)
                          (Tr.ast (clock_Widen_s a b steps)
                            (Tr.br (clock_Has (clock_Widen a b steps) n m)
                              (Tr.ast (clock_Widen_s b a steps)
                                (Tr.br (ints_Has v n)
                                  (Tr.br (!ints_Has k m) (Tr.br l21_works (Tr.leaf false) (Tr.leaf false))
                                    (Tr.br (ints_Has (clock_Reduce v a k) n)
                                      (Tr.br (clock_Has (clock_Tight a v k) n m)
                                        (Tr.br l21_works (Tr.leaf false) (Tr.leaf false))
                                        (Tr.br l21_works (Tr.leaf false) (Tr.leaf false)))
                                      (Tr.br l21_works (Tr.leaf false) (Tr.leaf false))))
                                  (Tr.br l21_works (Tr.leaf false) (Tr.leaf false))))
                              (Tr.br (ints_Has v n)
                                (Tr.br (!ints_Has k m) (Tr.br l21_works (Tr.leaf false) (Tr.leaf false))
                                  (Tr.br (ints_Has (clock_Reduce v a k) n)
                                    (Tr.br (clock_Has (clock_Tight a v k) n m)
                                      (Tr.br l21_works (Tr.leaf false) (Tr.leaf false))
                                      (Tr.br l21_works (Tr.leaf false) (Tr.leaf false)))
                                    (Tr.br l21_works (Tr.leaf false) (Tr.leaf false))))
                                (Tr.br l21_works (Tr.leaf false) (Tr.leaf false)))))
                          (Tr.br (ints_Has v n)
                            (Tr.br (!ints_Has k m) (Tr.br l21_works (Tr.leaf false) (Tr.leaf false))
                              (Tr.br (ints_Has (clock_Reduce v a k) n)
                                (Tr.br (clock_Has (clock_Tight a v k) n m)
                                  (Tr.br l21_works (Tr.leaf false) (Tr.leaf false))
                                  (Tr.br l21_works (Tr.leaf false) (Tr.leaf false)))
                                (Tr.br l21_works (Tr.leaf false) (Tr.leaf false))))
                            (Tr.br l21_works (Tr.leaf false) (Tr.leaf false))))
                        (Tr.br (ints_Has v n)
                          (Tr.br (!ints_Has k m) (Tr.br l21_works (Tr.leaf false) (Tr.leaf false))
                            (Tr.br (ints_Has (clock_Reduce v a k) n)
                              (Tr.br (clock_Has (clock_Tight a v k) n m) (Tr.br l21_works (Tr.leaf false) (Tr.leaf false))
                                (Tr.br l21_works (Tr.leaf false) (Tr.leaf false)))
                              (Tr.br l21_works (Tr.leaf false) (Tr.leaf false))))
                          (Tr.br l21_works (Tr.leaf false) (Tr.leaf false)))))))))))))
def l21_ClockSound_t (a : CK) (b : CK) (v : I3) (k : I3) (n : Int) (m : Int) (d : Int) (steps : List Int) : Tr (Bool) := l21_ClockSound_T l21_works clock_Has clock_Tick ints_Point clock_Move clock_Join clock_Widen clock_Widen_s clock_Meet ints_Has clock_Reduce clock_Tight clock_Of a b v k n m d steps
def l21_ClockSound (a : CK) (b : CK) (v : I3) (k : I3) (n : Int) (m : Int) (d : Int) (steps : List Int) : Bool := (l21_ClockSound_t a b v k n m d steps).val
theorem l21_ClockSound_ev (l21_works : Bool) (clock_Has : CK → Int → Int → Bool) (clock_Tick : CK → CK) (ints_Point : Int → I3) (clock_Move : CK → I3 → CK) (clock_Join : CK → CK → CK) (clock_Widen : CK → CK → (List Int) → CK) (clock_Widen_s : CK → CK → (List Int) → Bool) (clock_Meet : CK → CK → CK) (ints_Has : I3 → Int → Bool) (clock_Reduce : I3 → CK → I3 → I3) (clock_Tight : CK → I3 → I3 → CK) (clock_Of : I3 → I3 → CK) (a : CK) (b : CK) (v : I3) (k : I3) (n : Int) (m : Int) (d : Int) (steps : List Int) (Q : AV → Prop) : evF Try.prog (mkC [(13, (sumT aNil fun _ => (o1 (cBool)).enc (l21_works ))), (33, (sumT (aCons (cCK) (aCons (cInt .i64) (aOne (cInt .i64)))) fun x => (o1 (cBool)).enc (clock_Has x.1 x.2.1 x.2.2))), (20, (sumT (aOne (cCK)) fun x => (o1 (cCK)).enc (clock_Tick x))), (35, (sumT (aOne (cInt .i64)) fun x => (o1 (cI3)).enc (ints_Point x))), (17, (sumT (aCons (cCK) (aOne (cI3))) fun x => (o1 (cCK)).enc (clock_Move x.1 x.2))), (26, (sumT (aCons (cCK) (aOne (cCK))) fun x => (o1 (cCK)).enc (clock_Join x.1 x.2))), (29, (sumOf (aCons (cCK) (aCons (cCK) (aOne (cInts .i64)))) (fun x => clock_Widen_s x.1 x.2.1 x.2.2) fun x => (o1 (cCK)).enc (clock_Widen x.1 x.2.1 x.2.2))), (28, (sumT (aCons (cCK) (aOne (cCK))) fun x => (o1 (cCK)).enc (clock_Meet x.1 x.2))), (36, (sumT (aCons (cI3) (aOne (cInt .i64))) fun x => (o1 (cBool)).enc (ints_Has x.1 x.2))), (24, (sumT (aCons (cI3) (aCons (cCK) (aOne (cI3)))) fun x => (o1 (cI3)).enc (clock_Reduce x.1 x.2.1 x.2.2))), (22, (sumT (aCons (cCK) (aCons (cI3) (aOne (cI3)))) fun x => (o1 (cCK)).enc (clock_Tight x.1 x.2.1 x.2.2))), (15, (sumT (aCons (cI3) (aOne (cI3))) fun x => (o1 (cCK)).enc (clock_Of x.1 x.2)))]) noL 60 Try.f5 ((aCons (cCK) (aCons (cCK) (aCons (cI3) (aCons (cI3) (aCons (cInt .i64) (aCons (cInt .i64) (aCons (cInt .i64) (aOne (cInts .i64))))))))).enc (a, b, v, k, n, m, d, steps)) Q = (l21_ClockSound_T l21_works clock_Has clock_Tick ints_Point clock_Move clock_Join clock_Widen clock_Widen_s clock_Meet ints_Has clock_Reduce clock_Tight clock_Of a b v k n m d steps).prop (fun x => Q ((o1 (cBool)).enc x)) := by kernel_rfl
def l21_ClockSound_s (a : CK) (b : CK) (v : I3) (k : I3) (n : Int) (m : Int) (d : Int) (steps : List Int) : Bool := (l21_ClockSound_t a b v k n m d steps).safe
theorem l21_ClockSound_c (x : CK × CK × I3 × I3 × Int × Int × Int × (List Int)) (hs : l21_ClockSound_s x.1 x.2.1 x.2.2.1 x.2.2.2.1 x.2.2.2.2.1 x.2.2.2.2.2.1 x.2.2.2.2.2.2.1 x.2.2.2.2.2.2.2 = true) (w : World) (vs : Array Value) (hp : ArgsR ((aCons (cCK) (aCons (cCK) (aCons (cI3) (aCons (cI3) (aCons (cInt .i64) (aCons (cInt .i64) (aCons (cInt .i64) (aOne (cInts .i64))))))))).enc x) w vs) : Calls Try.prog 5 vs w (Ans ((o1 (cBool)).enc (l21_ClockSound x.1 x.2.1 x.2.2.1 x.2.2.2.1 x.2.2.2.2.1 x.2.2.2.2.2.1 x.2.2.2.2.2.2.1 x.2.2.2.2.2.2.2)) w) :=
  contractT mixed (AllGood.cons l21_works_ok (AllGood.cons clock_Has_ok (AllGood.cons clock_Tick_ok (AllGood.cons ints_Point_ok (AllGood.cons clock_Move_ok (AllGood.cons clock_Join_ok (AllGood.cons clock_Widen_ok (AllGood.cons clock_Meet_ok (AllGood.cons ints_Has_ok (AllGood.cons clock_Reduce_ok (AllGood.cons clock_Tight_ok (AllGood.cons clock_Of_ok AllGood.nil)))))))))))) Try.func5 (fun _ _ _ _ => noL_ok) hs (l21_ClockSound_ev l21_works clock_Has clock_Tick ints_Point clock_Move clock_Join clock_Widen clock_Widen_s clock_Meet ints_Has clock_Reduce clock_Tight clock_Of x.1 x.2.1 x.2.2.1 x.2.2.2.1 x.2.2.2.2.1 x.2.2.2.2.2.1 x.2.2.2.2.2.2.1 x.2.2.2.2.2.2.2) w vs hp
theorem l21_ClockSound_ok : GoodF Try.prog 5 (sumOf (aCons (cCK) (aCons (cCK) (aCons (cI3) (aCons (cI3) (aCons (cInt .i64) (aCons (cInt .i64) (aCons (cInt .i64) (aOne (cInts .i64))))))))) (fun x => l21_ClockSound_s x.1 x.2.1 x.2.2.1 x.2.2.2.1 x.2.2.2.2.1 x.2.2.2.2.2.1 x.2.2.2.2.2.2.1 x.2.2.2.2.2.2.2) fun x => (o1 (cBool)).enc (l21_ClockSound x.1 x.2.1 x.2.2.1 x.2.2.2.1 x.2.2.2.2.1 x.2.2.2.2.2.1 x.2.2.2.2.2.2.1 x.2.2.2.2.2.2.2)) :=
  good_sum (callable_of Try.func5 (by kernel_rfl) (by kernel_rfl)) l21_ClockSound_c
end Go.Proofs.Ytfbpklopnnnniaa
