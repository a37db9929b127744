/- Contracts and laws of functions of the program, on the way to the claim. Conditions: as each theorem states. -/
import Derived.Test.YtfbpklopnnnniaaS1b
namespace Go.Proofs.Ytfbpklopnnnniaa
open Go.Ev Go.Fb


/-! flyball/ints.Mul -/
def ints_Mul_T (ints_norm : I3 → I3) (ints_none : I3) (ints_corT : I3 → (Int × Int) → Unit → I3) (ints_corT_s : I3 → (Int × Int) → Unit → Bool) (a : I3) (b : I3) : Tr (I3) :=
  Tr.br (ints_norm a).e (Tr.leaf ints_none)
    (Tr.br (ints_norm b).e (Tr.leaf ints_none)
      (Tr.ast (ints_corT_s (ints_norm a) ((ints_norm b).lo, (ints_norm b).hi) ())
        (Tr.leaf (ints_corT (ints_norm a) ((ints_norm b).lo, (ints_norm b).hi) ()))))
def ints_Mul_t (a : I3) (b : I3) : Tr (I3) := ints_Mul_T ints_norm ints_none ints_corT ints_corT_s a b
def ints_Mul (a : I3) (b : I3) : I3 := (ints_Mul_t a b).val
theorem ints_Mul_ev (ints_norm : I3 → I3) (ints_none : I3) (ints_cor4 : I3 → (Int × Int × Int × Int) → Unit → I3) (ints_cor4_s : I3 → (Int × Int × Int × Int) → Unit → Bool) (ints_cor3 : I3 → (Int × Int × Int) → Unit → I3) (ints_cor3_s : I3 → (Int × Int × Int) → Unit → Bool) (ints_cor2 : I3 → (Int × Int) → Unit → I3) (ints_cor2_s : I3 → (Int × Int) → Unit → Bool) (ints_cor1 : I3 → Int → Unit → I3) (ints_cor1_s : I3 → Int → Unit → Bool) (ints_corT : I3 → (Int × Int) → Unit → I3) (ints_corT_s : I3 → (Int × Int) → Unit → Bool) (ints_times : Int → Int → Int) (ints_times_s : Int → Int → Bool) (a : I3) (b : I3) (Q : AV → Prop) : evF Try.prog (mkC [(68, (sumT (aOne (cI3)) fun x => (o1 (cI3)).enc (ints_norm x))), (70, (sumT aNil fun _ => (o1 (cI3)).enc (ints_none ))), (74, (orS (sumOf (aCons (cI3) (aCons (cIntsN .i64 to4 of4 l4) (aOne (cFn 76)))) (fun x => ints_cor4_s x.1 x.2.1 x.2.2) fun x => (o1 (cI3)).enc (ints_cor4 x.1 x.2.1 x.2.2)) (orS (sumOf (aCons (cI3) (aCons (cIntsN .i64 to3 of3 l3) (aOne (cFn 76)))) (fun x => ints_cor3_s x.1 x.2.1 x.2.2) fun x => (o1 (cI3)).enc (ints_cor3 x.1 x.2.1 x.2.2)) (orS (sumOf (aCons (cI3) (aCons (cIntsN .i64 to2 of2 l2) (aOne (cFn 76)))) (fun x => ints_cor2_s x.1 x.2.1 x.2.2) fun x => (o1 (cI3)).enc (ints_cor2 x.1 x.2.1 x.2.2)) (orS (sumOf (aCons (cI3) (aCons (cIntsN .i64 to1 of1 l1) (aOne (cFn 76)))) (fun x => ints_cor1_s x.1 x.2.1 x.2.2) fun x => (o1 (cI3)).enc (ints_cor1 x.1 x.2.1 x.2.2)) (sumOf (aCons (cI3) (aCons (cIntsN .i64 to2 of2 l2) (aOne (cFn 75)))) (fun x => ints_corT_s x.1 x.2.1 x.2.2) fun x => (o1 (cI3)).enc (ints_corT x.1 x.2.1 x.2.2))))))), (75, (sumOf (aCons (cInt .i64) (aOne (cInt .i64))) (fun x => ints_times_s x.1 x.2) fun x => (o1 (cInt .i64)).enc (ints_times x.1 x.2)))]) noL 60 Try.f53 ((aCons (cI3) (aOne (cI3))).enc (a, b)) Q = (ints_Mul_T ints_norm ints_none ints_corT ints_corT_s a b).prop (fun x => Q ((o1 (cI3)).enc x)) := by kernel_rfl
theorem ints_Mul_safe (a : I3) (b : I3) : (ints_Mul_t a b).safe = true := by
  simp [ints_Mul_t, ints_Mul_T, Tr.safe, corT_safe]
theorem ints_Mul_c (x : I3 × I3) (w : World) (vs : Array Value) (hp : ArgsR ((aCons (cI3) (aOne (cI3))).enc x) w vs) : Calls Try.prog 53 vs w (Ans ((o1 (cI3)).enc (ints_Mul x.1 x.2)) w) :=
  contractT mixed (AllGood.cons ints_norm_ok (AllGood.cons ints_none_ok (AllGood.cons (good_or ints_cor4_ok (good_or ints_cor3_ok (good_or ints_cor2_ok (good_or ints_cor1_ok ints_corT_ok)))) (AllGood.cons ints_times_ok AllGood.nil)))) Try.func53 (fun _ _ _ _ => noL_ok) (ints_Mul_safe x.1 x.2) (ints_Mul_ev ints_norm ints_none ints_cor4 ints_cor4_s ints_cor3 ints_cor3_s ints_cor2 ints_cor2_s ints_cor1 ints_cor1_s ints_corT ints_corT_s ints_times ints_times_s x.1 x.2) w vs hp
theorem ints_Mul_ok : GoodF Try.prog 53 (sumT (aCons (cI3) (aOne (cI3))) fun x => (o1 (cI3)).enc (ints_Mul x.1 x.2)) :=
  good_sumT (callable_of Try.func53 (by kernel_rfl) (by kernel_rfl)) ints_Mul_c
/-! flyball/ints.Div -/
def ints_Div_T (ints_norm : I3 → I3) (ints_none : I3) (ints_Has : I3 → Int → Bool) (ints_cor4 : I3 → (Int × Int × Int × Int) → Unit → I3) (ints_cor4_s : I3 → (Int × Int × Int × Int) → Unit → Bool) (ints_cor3 : I3 → (Int × Int × Int) → Unit → I3) (ints_cor3_s : I3 → (Int × Int × Int) → Unit → Bool) (ints_cor2 : I3 → (Int × Int) → Unit → I3) (ints_cor2_s : I3 → (Int × Int) → Unit → Bool) (ints_cor1 : I3 → Int → Unit → I3) (ints_cor1_s : I3 → Int → Unit → Bool) (a : I3) (b : I3) : Tr (I3) :=
  Tr.br (ints_norm a).e (Tr.leaf ints_none)
    (Tr.br (ints_norm b).e (Tr.leaf ints_none)
      (Tr.br ((ints_norm b).lo != 0)
        (Tr.br (ints_Has (ints_norm b) (ints_norm b).lo)
          (Tr.br ((ints_norm b).hi != 0)
            (Tr.br (ints_Has (ints_norm b) (ints_norm b).hi)
              (Tr.br (ints_Has (ints_norm b) (-1))
                (Tr.br (ints_Has (ints_norm b) 1)
                  (Tr.ast (ints_cor4_s (ints_norm a) ((ints_norm b).lo, (ints_norm b).hi, -1, 1) ())
                    (Tr.leaf (ints_cor4 (ints_norm a) ((ints_norm b).lo, (ints_norm b).hi, -1, 1) ())))
                  (Tr.ast (ints_cor3_s (ints_norm a) ((ints_norm b).lo, (ints_norm b).hi, -1) ())
                    (Tr.leaf (ints_cor3 (ints_norm a) ((ints_norm b).lo, (ints_norm b).hi, -1) ()))))
                (Tr.br (ints_Has (ints_norm b) 1)
                  (Tr.ast (ints_cor3_s (ints_norm a) ((ints_norm b).lo, (ints_norm b).hi, 1) ())
                    (Tr.leaf (ints_cor3 (ints_norm a) ((ints_norm b).lo, (ints_norm b).hi, 1) ())))
                  (Tr.ast (ints_cor2_s (ints_norm a) ((ints_norm b).lo, (ints_norm b).hi) ())
                    (Tr.leaf (ints_cor2 (ints_norm a) ((ints_norm b).lo, (ints_norm b).hi) ())))))
              (Tr.br (ints_Has (ints_norm b) (-1))
                (Tr.br (ints_Has (ints_norm b) 1)
                  (Tr.ast (ints_cor3_s (ints_norm a) ((ints_norm b).lo, -1, 1) ())
                    (Tr.leaf (ints_cor3 (ints_norm a) ((ints_norm b).lo, -1, 1) ())))
                  (Tr.ast (ints_cor2_s (ints_norm a) ((ints_norm b).lo, -1) ())
                    (Tr.leaf (ints_cor2 (ints_norm a) ((ints_norm b).lo, -1) ()))))
                (Tr.br (ints_Has (ints_norm b) 1)
                  (Tr.ast (ints_cor2_s (ints_norm a) ((ints_norm b).lo, 1) ())
                    (Tr.leaf (ints_cor2 (ints_norm a) ((ints_norm b).lo, 1) ())))
                  (Tr.ast (ints_cor1_s (ints_norm a) (ints_norm b).lo ())
                    (Tr.leaf (ints_cor1 (ints_norm a) (ints_norm b).lo ()))))))
            (Tr.br (ints_Has (ints_norm b) (-1))
              (Tr.br (ints_Has (ints_norm b) 1)
                (Tr.ast (ints_cor3_s (ints_norm a) ((ints_norm b).lo, -1, 1) ())
                  (Tr.leaf (ints_cor3 (ints_norm a) ((ints_norm b).lo, -1, 1) ())))
                (Tr.ast (ints_cor2_s (ints_norm a) ((ints_norm b).lo, -1) ())
                  (Tr.leaf (ints_cor2 (ints_norm a) ((ints_norm b).lo, -1) ()))))
              (Tr.br (ints_Has (ints_norm b) 1)
                (Tr.ast (ints_cor2_s (ints_norm a) ((ints_norm b).lo, 1) ())
                  (Tr.leaf (ints_cor2 (ints_norm a) ((ints_norm b).lo, 1) ())))
                (Tr.ast (ints_cor1_s (ints_norm a) (ints_norm b).lo ())
                  (Tr.leaf (ints_cor1 (ints_norm a) (ints_norm b).lo ()))))))
          (Tr.br ((ints_norm b).hi != 0)
            (Tr.br (ints_Has (ints_norm b) (ints_norm b).hi)
              (Tr.br (ints_Has (ints_norm b) (-1))
                (Tr.br (ints_Has (ints_norm b) 1)
                  (Tr.ast (ints_cor3_s (ints_norm a) ((ints_norm b).hi, -1, 1) ())
                    (Tr.leaf (ints_cor3 (ints_norm a) ((ints_norm b).hi, -1, 1) ())))
                  (Tr.ast (ints_cor2_s (ints_norm a) ((ints_norm b).hi, -1) ())
                    (Tr.leaf (ints_cor2 (ints_norm a) ((ints_norm b).hi, -1) ()))))
                (Tr.br (ints_Has (ints_norm b) 1)
                  (Tr.ast (ints_cor2_s (ints_norm a) ((ints_norm b).hi, 1) ())
                    (Tr.leaf (ints_cor2 (ints_norm a) ((ints_norm b).hi, 1) ())))
                  (Tr.ast (ints_cor1_s (ints_norm a) (ints_norm b).hi ())
                    (Tr.leaf (ints_cor1 (ints_norm a) (ints_norm b).hi ())))))
              (Tr.br (ints_Has (ints_norm b) (-1))
                (Tr.br (ints_Has (ints_norm b) 1)
                  (Tr.ast (ints_cor2_s (ints_norm a) (-1, 1) ()) (Tr.leaf (ints_cor2 (ints_norm a) (-1, 1) ())))
                  (Tr.ast (ints_cor1_s (ints_norm a) (-1) ()) (Tr.leaf (ints_cor1 (ints_norm a) (-1) ()))))
                (Tr.br (ints_Has (ints_norm b) 1)
                  (Tr.ast (ints_cor1_s (ints_norm a) 1 ()) (Tr.leaf (ints_cor1 (ints_norm a) 1 ())))
                  (Tr.leaf ints_none))))
            (Tr.br (ints_Has (ints_norm b) (-1))
              (Tr.br (ints_Has (ints_norm b) 1)
                (Tr.ast (ints_cor2_s (ints_norm a) (-1, 1) ()) (Tr.leaf (ints_cor2 (ints_norm a) (-1, 1) ())))
                (Tr.ast (ints_cor1_s (ints_norm a) (-1) ()) (Tr.leaf (ints_cor1 (ints_norm a) (-1) ()))))
              (Tr.br (ints_Has (ints_norm b) 1)
                (Tr.ast (ints_cor1_s (ints_norm a) 1 ()) (Tr.leaf (ints_cor1 (ints_norm a) 1 ()))) (Tr.leaf ints_none)))))
        (Tr.br ((ints_norm b).hi != 0)
          (Tr.br (ints_Has (ints_norm b) (ints_norm b).hi)
            (Tr.br (ints_Has (ints_norm b) (-1))
              (Tr.br (ints_Has (ints_norm b) 1)
                (Tr.ast (ints_cor3_s (ints_norm a) ((ints_norm b).hi, -1, 1) ())
                  (Tr.leaf (ints_cor3 (ints_norm a) ((ints_norm b).hi, -1, 1) ())))
                (Tr.ast (ints_cor2_s (ints_norm a) ((ints_norm b).hi, -1) ())
                  (Tr.leaf (ints_cor2 (ints_norm a) ((ints_norm b).hi, -1) ()))))
              (Tr.br (ints_Has (ints_norm b) 1)
                (Tr.ast (ints_cor2_s (ints_norm a) ((ints_norm b).hi, 1) ())
                  (Tr.leaf (ints_cor2 (ints_norm a) ((ints_norm b).hi, 1) ())))
                (Tr.ast (ints_cor1_s (ints_norm a) (ints_norm b).hi ())
                  (Tr.leaf (ints_cor1 (ints_norm a) (ints_norm b).hi ())))))
            (Tr.br (ints_Has (ints_norm b) (-1))
              (Tr.br (ints_Has (ints_norm b) 1)
                (Tr.ast (ints_cor2_s (ints_norm a) (-1, 1) ()) (Tr.leaf (ints_cor2 (ints_norm a) (-1, 1) ())))
                (Tr.ast (ints_cor1_s (ints_norm a) (-1) ()) (Tr.leaf (ints_cor1 (ints_norm a) (-1) ()))))
              (Tr.br (ints_Has (ints_norm b) 1)
                (Tr.ast (ints_cor1_s (ints_norm a) 1 ()) (Tr.leaf (ints_cor1 (ints_norm a) 1 ()))) (Tr.leaf ints_none))))
          (Tr.br (ints_Has (ints_norm b) (-1))
            (Tr.br (ints_Has (ints_norm b) 1)
              (Tr.ast (ints_cor2_s (ints_norm a) (-1, 1) ()) (Tr.leaf (ints_cor2 (ints_norm a) (-1, 1) ())))
              (Tr.ast (ints_cor1_s (ints_norm a) (-1) ()) (Tr.leaf (ints_cor1 (ints_norm a) (-1) ()))))
            (Tr.br (ints_Has (ints_norm b) 1)
              (Tr.ast (ints_cor1_s (ints_norm a) 1 ()) (Tr.leaf (ints_cor1 (ints_norm a) 1 ()))) (Tr.leaf ints_none))))))
def ints_Div_t (a : I3) (b : I3) : Tr (I3) := ints_Div_T ints_norm ints_none ints_Has ints_cor4 ints_cor4_s ints_cor3 ints_cor3_s ints_cor2 ints_cor2_s ints_cor1 ints_cor1_s a b
def ints_Div (a : I3) (b : I3) : I3 := (ints_Div_t a b).val
theorem ints_Div_ev (ints_norm : I3 → I3) (ints_none : I3) (ints_Has : I3 → Int → Bool) (ints_cor4 : I3 → (Int × Int × Int × Int) → Unit → I3) (ints_cor4_s : I3 → (Int × Int × Int × Int) → Unit → Bool) (ints_cor3 : I3 → (Int × Int × Int) → Unit → I3) (ints_cor3_s : I3 → (Int × Int × Int) → Unit → Bool) (ints_cor2 : I3 → (Int × Int) → Unit → I3) (ints_cor2_s : I3 → (Int × Int) → Unit → Bool) (ints_cor1 : I3 → Int → Unit → I3) (ints_cor1_s : I3 → Int → Unit → Bool) (ints_corT : I3 → (Int × Int) → Unit → I3) (ints_corT_s : I3 → (Int × Int) → Unit → Bool) (ints_over : Int → Int → Int) (ints_over_s : Int → Int → Bool) (a : I3) (b : I3) (Q : AV → Prop) : evF Try.prog (mkC [(68, (sumT (aOne (cI3)) fun x => (o1 (cI3)).enc (ints_norm x))), (70, (sumT aNil fun _ => (o1 (cI3)).enc (ints_none ))), (36, (sumT (aCons (cI3) (aOne (cInt .i64))) fun x => (o1 (cBool)).enc (ints_Has x.1 x.2))), (74, (orS (sumOf (aCons (cI3) (aCons (cIntsN .i64 to4 of4 l4) (aOne (cFn 76)))) (fun x => ints_cor4_s x.1 x.2.1 x.2.2) fun x => (o1 (cI3)).enc (ints_cor4 x.1 x.2.1 x.2.2)) (orS (sumOf (aCons (cI3) (aCons (cIntsN .i64 to3 of3 l3) (aOne (cFn 76)))) (fun x => ints_cor3_s x.1 x.2.1 x.2.2) fun x => (o1 (cI3)).enc (ints_cor3 x.1 x.2.1 x.2.2)) (orS (sumOf (aCons (cI3) (aCons (cIntsN .i64 to2 of2 l2) (aOne (cFn 76)))) (fun x => ints_cor2_s x.1 x.2.1 x.2.2) fun x => (o1 (cI3)).enc (ints_cor2 x.1 x.2.1 x.2.2)) (orS (sumOf (aCons (cI3) (aCons (cIntsN .i64 to1 of1 l1) (aOne (cFn 76)))) (fun x => ints_cor1_s x.1 x.2.1 x.2.2) fun x => (o1 (cI3)).enc (ints_cor1 x.1 x.2.1 x.2.2)) (sumOf (aCons (cI3) (aCons (cIntsN .i64 to2 of2 l2) (aOne (cFn 75)))) (fun x => ints_corT_s x.1 x.2.1 x.2.2) fun x => (o1 (cI3)).enc (ints_corT x.1 x.2.1 x.2.2))))))), (76, (sumOf (aCons (cInt .i64) (aOne (cInt .i64))) (fun x => ints_over_s x.1 x.2) fun x => (o1 (cInt .i64)).enc (ints_over x.1 x.2)))]) noL 60 Try.f54 ((aCons (cI3) (aOne (cI3))).enc (a, b)) Q = (ints_Div_T ints_norm ints_none ints_Has ints_cor4 ints_cor4_s ints_cor3 ints_cor3_s ints_cor2 ints_cor2_s ints_cor1 ints_cor1_s a b).prop (fun x => Q ((o1 (cI3)).enc x)) := by kernel_rfl
theorem ints_Div_safe (a : I3) (b : I3) : (ints_Div_t a b).safe = true := by
  have hm : (-1 : Int) ≠ 0 := by decide
  have h1 : (1 : Int) ≠ 0 := by decide
  unfold ints_Div_t ints_Div_T
  simp only [Tr.safe]
  cases (ints_norm a).e
  · cases (ints_norm b).e
    · cases hl : ((ints_norm b).lo != 0)
      · cases hh : ((ints_norm b).hi != 0)
        · simp [cor1_safe, cor2_safe, hm, h1]
        · have := bne_iff_ne.1 hh
          simp [cor1_safe, cor2_safe, cor3_safe, hm, h1, this]
      · have h2 := bne_iff_ne.1 hl
        cases hh : ((ints_norm b).hi != 0)
        · simp [cor1_safe, cor2_safe, cor3_safe, hm, h1, h2]
        · have h3 := bne_iff_ne.1 hh
          simp [cor1_safe, cor2_safe, cor3_safe, cor4_safe, hm, h1, h2, h3]
    · rfl
  · rfl
theorem ints_Div_c (x : I3 × I3) (w : World) (vs : Array Value) (hp : ArgsR ((aCons (cI3) (aOne (cI3))).enc x) w vs) : Calls Try.prog 54 vs w (Ans ((o1 (cI3)).enc (ints_Div x.1 x.2)) w) :=
  contractT mixed (AllGood.cons ints_norm_ok (AllGood.cons ints_none_ok (AllGood.cons ints_Has_ok (AllGood.cons (good_or ints_cor4_ok (good_or ints_cor3_ok (good_or ints_cor2_ok (good_or ints_cor1_ok ints_corT_ok)))) (AllGood.cons ints_over_ok AllGood.nil))))) Try.func54 (fun _ _ _ _ => noL_ok) (ints_Div_safe x.1 x.2) (ints_Div_ev ints_norm ints_none ints_Has ints_cor4 ints_cor4_s ints_cor3 ints_cor3_s ints_cor2 ints_cor2_s ints_cor1 ints_cor1_s ints_corT ints_corT_s ints_over ints_over_s x.1 x.2) w vs hp
theorem ints_Div_ok : GoodF Try.prog 54 (sumT (aCons (cI3) (aOne (cI3))) fun x => (o1 (cI3)).enc (ints_Div x.1 x.2)) :=
  good_sumT (callable_of Try.func54 (by kernel_rfl) (by kernel_rfl)) ints_Div_c
/-! flyball/ints.moved -/
def ints_moved_T  (n : Int) (d : Int) : Tr (Int) :=
  Tr.br (n == 1099511627776) (Tr.leaf n) (Tr.br (n == -1099511627776) (Tr.leaf n) (Tr.leaf (IntKind.i64.wrap (n + d))))
def ints_moved_t (n : Int) (d : Int) : Tr (Int) := ints_moved_T  n d
def ints_moved (n : Int) (d : Int) : Int := (ints_moved_t n d).val
theorem ints_moved_ev  (n : Int) (d : Int) (Q : AV → Prop) : evF Try.prog (mkC []) noL 60 Try.f78 ((aCons (cInt .i64) (aOne (cInt .i64))).enc (n, d)) Q = (ints_moved_T  n d).prop (fun x => Q ((o1 (cInt .i64)).enc x)) := by kernel_rfl
theorem ints_moved_c (x : Int × Int) (w : World) (vs : Array Value) (hp : ArgsR ((aCons (cInt .i64) (aOne (cInt .i64))).enc x) w vs) : Calls Try.prog 78 vs w (Ans ((o1 (cInt .i64)).enc (ints_moved x.1 x.2)) w) :=
  contractT mixed AllGood.nil Try.func78 (fun _ _ _ _ => noL_ok) (Tr.safe_of (t := ints_moved_t x.1 x.2) rfl) (ints_moved_ev  x.1 x.2) w vs hp
theorem ints_moved_ok : GoodF Try.prog 78 (sumT (aCons (cInt .i64) (aOne (cInt .i64))) fun x => (o1 (cInt .i64)).enc (ints_moved x.1 x.2)) :=
  good_sumT (callable_of Try.func78 (by kernel_rfl) (by kernel_rfl)) ints_moved_c
/-! flyball/ints.without -/
def ints_without_T (ints_Make : Int → Int → I3) (a : I3) (b : I3) : Tr (I3) :=
  Tr.br (b.lo != b.hi) (Tr.leaf a)
    (Tr.br (a.lo == b.lo) (Tr.leaf (ints_Make (IntKind.i64.wrap (b.lo + 1)) a.hi))
      (Tr.br (a.hi == b.lo) (Tr.leaf (ints_Make a.lo (IntKind.i64.wrap (b.lo - 1)))) (Tr.leaf a)))
def ints_without_t (a : I3) (b : I3) : Tr (I3) := ints_without_T ints_Make a b
def ints_without (a : I3) (b : I3) : I3 := (ints_without_t a b).val
theorem ints_without_ev (ints_Make : Int → Int → I3) (a : I3) (b : I3) (Q : AV → Prop) : evF Try.prog (mkC [(37, (sumT (aCons (cInt .i64) (aOne (cInt .i64))) fun x => (o1 (cI3)).enc (ints_Make x.1 x.2)))]) noL 60 Try.f79 ((aCons (cI3) (aOne (cI3))).enc (a, b)) Q = (ints_without_T ints_Make a b).prop (fun x => Q ((o1 (cI3)).enc x)) := by kernel_rfl
theorem ints_without_c (x : I3 × I3) (w : World) (vs : Array Value) (hp : ArgsR ((aCons (cI3) (aOne (cI3))).enc x) w vs) : Calls Try.prog 79 vs w (Ans ((o1 (cI3)).enc (ints_without x.1 x.2)) w) :=
  contractT mixed (AllGood.cons ints_Make_ok AllGood.nil) Try.func79 (fun _ _ _ _ => noL_ok) (Tr.safe_of (t := ints_without_t x.1 x.2) rfl) (ints_without_ev ints_Make x.1 x.2) w vs hp
theorem ints_without_ok : GoodF Try.prog 79 (sumT (aCons (cI3) (aOne (cI3))) fun x => (o1 (cI3)).enc (ints_without x.1 x.2)) :=
  good_sumT (callable_of Try.func79 (by kernel_rfl) (by kernel_rfl)) ints_without_c
/-! flyball/ints.Test -/
def ints_Test_T (ints_norm : I3 → I3) (ints_none : I3) (ints_moved : Int → Int → Int) (ints_Make : Int → Int → I3) (ints_Meet : I3 → I3 → I3) (ints_without : I3 → I3 → I3) (op : Int) (a : I3) (b : I3) : Tr (I3 × I3) :=
  Tr.br (ints_norm a).e (Tr.leaf (ints_none, ints_none))
    (Tr.br (ints_norm b).e (Tr.leaf (ints_none, ints_none))
      (Tr.br (op == 9)
        (Tr.br (op == 9)
          (Tr.br
            (ints_Meet (ints_norm a)
                (ints_Make (-1099511627776) (ints_moved (ints_norm b).hi (IntKind.i64.wrap (0 - 1))))).e
            (Tr.leaf (ints_none, ints_none))
            (Tr.br (ints_Meet (ints_norm b) (ints_Make (ints_moved (ints_norm a).lo 1) 1099511627776)).e
              (Tr.leaf (ints_none, ints_none))
              (Tr.leaf
                (ints_Meet (ints_norm a)
                    (ints_Make (-1099511627776) (ints_moved (ints_norm b).hi (IntKind.i64.wrap (0 - 1)))),
                  ints_Meet (ints_norm b) (ints_Make (ints_moved (ints_norm a).lo 1) 1099511627776)))))
          (Tr.br (op == 10)
            (Tr.br
              (ints_Meet (ints_norm a)
                  (ints_Make (-1099511627776) (ints_moved (ints_norm b).hi (IntKind.i64.wrap (0 - 1))))).e
              (Tr.leaf (ints_none, ints_none))
              (Tr.br (ints_Meet (ints_norm b) (ints_Make (ints_moved (ints_norm a).lo 1) 1099511627776)).e
                (Tr.leaf (ints_none, ints_none))
                (Tr.leaf
                  (ints_Meet (ints_norm a)
                      (ints_Make (-1099511627776) (ints_moved (ints_norm b).hi (IntKind.i64.wrap (0 - 1)))),
                    ints_Meet (ints_norm b) (ints_Make (ints_moved (ints_norm a).lo 1) 1099511627776)))))
            (Tr.br (op == 13)
              (Tr.br (ints_Meet (ints_norm a) (ints_Make (ints_moved (ints_norm b).lo 1) 1099511627776)).e
                (Tr.leaf (ints_none, ints_none))
                (Tr.br
                  (ints_Meet (ints_norm b)
                      (ints_Make (-1099511627776) (ints_moved (ints_norm a).hi (IntKind.i64.wrap (0 - 1))))).e
                  (Tr.leaf (ints_none, ints_none))
                  (Tr.leaf
                    (ints_Meet (ints_norm a) (ints_Make (ints_moved (ints_norm b).lo 1) 1099511627776),
                      ints_Meet (ints_norm b)
                        (ints_Make (-1099511627776) (ints_moved (ints_norm a).hi (IntKind.i64.wrap (0 - 1))))))))
              (Tr.br (op == 14)
                (Tr.br (ints_Meet (ints_norm a) (ints_Make (ints_moved (ints_norm b).lo 1) 1099511627776)).e
                  (Tr.leaf (ints_none, ints_none))
                  (Tr.br
                    (ints_Meet (ints_norm b)
                        (ints_Make (-1099511627776) (ints_moved (ints_norm a).hi (IntKind.i64.wrap (0 - 1))))).e
                    (Tr.leaf (ints_none, ints_none))
                    (Tr.leaf
                      (ints_Meet (ints_norm a) (ints_Make (ints_moved (ints_norm b).lo 1) 1099511627776),
                        ints_Meet (ints_norm b)
                          (ints_Make (-1099511627776) (ints_moved (ints_norm a).hi (IntKind.i64.wrap (0 - 1))))))))
                (Tr.br (op == 11)
                  (Tr.br (ints_Meet (ints_norm a) (ints_norm b)).e (Tr.leaf (ints_none, ints_none))
                    (Tr.br (ints_Meet (ints_norm a) (ints_norm b)).e (Tr.leaf (ints_none, ints_none))
                      (Tr.leaf (ints_Meet (ints_norm a) (ints_norm b), ints_Meet (ints_norm a) (ints_norm b)))))
                  (Tr.br (op == 12)
                    (Tr.br (ints_without (ints_norm a) (ints_norm b)).e (Tr.leaf (ints_none, ints_none))
                      (Tr.br (ints_without (ints_norm b) (ints_norm a)).e (Tr.leaf (ints_none, ints_none))
                        (Tr.leaf (ints_without (ints_norm a) (ints_norm b), ints_without (ints_norm b) (ints_norm a)))))
                    (Tr.br (ints_norm a).e (Tr.leaf (ints_none, ints_none))
                      (Tr.br (ints_norm b).e (Tr.leaf (ints_none, ints_none)) (Tr.leaf (ints_norm a, ints_norm b))))))))))
        (Tr.br (op == 13)
          (Tr.br (op == 9)
            (Tr.br
              (ints_Meet (ints_norm a)
                  (ints_Make (-1099511627776) (ints_moved (ints_norm b).hi (IntKind.i64.wrap (0 - 1))))).e
              (Tr.leaf (ints_none, ints_none))
              (Tr.br (ints_Meet (ints_norm b) (ints_Make (ints_moved (ints_norm a).lo 1) 1099511627776)).e
                (Tr.leaf (ints_none, ints_none))
                (Tr.leaf
                  (ints_Meet (ints_norm a)
                      (ints_Make (-1099511627776) (ints_moved (ints_norm b).hi (IntKind.i64.wrap (0 - 1)))),
                    ints_Meet (ints_norm b) (ints_Make (ints_moved (ints_norm a).lo 1) 1099511627776)))))
            (Tr.br (op == 10)
              (Tr.br
                (ints_Meet (ints_norm a)
                    (ints_Make (-1099511627776) (ints_moved (ints_norm b).hi (IntKind.i64.wrap (0 - 1))))).e
                (Tr.leaf (ints_none, ints_none))
                (Tr.br (ints_Meet (ints_norm b) (ints_Make (ints_moved (ints_norm a).lo 1) 1099511627776)).e
                  (Tr.leaf (ints_none, ints_none))
                  (Tr.leaf
                    (ints_Meet (ints_norm a)
                        (ints_Make (-1099511627776) (ints_moved (ints_norm b).hi (IntKind.i64.wrap (0 - 1)))),
                      ints_Meet (ints_norm b) (ints_Make (ints_moved (ints_norm a).lo 1) 1099511627776)))))
              (Tr.br (op == 13)
                (Tr.br (ints_Meet (ints_norm a) (ints_Make (ints_moved (ints_norm b).lo 1) 1099511627776)).e
                  (Tr.leaf (ints_none, ints_none))
                  (Tr.br
                    (ints_Meet (ints_norm b)
                        (ints_Make (-1099511627776) (ints_moved (ints_norm a).hi (IntKind.i64.wrap (0 - 1))))).e
                    (Tr.leaf (ints_none, ints_none))
                    (Tr.leaf
                      (ints_Meet (ints_norm a) (ints_Make (ints_moved (ints_norm b).lo 1) 1099511627776),
                        ints_Meet (ints_norm b)
                          (ints_Make (-1099511627776) (ints_moved (ints_norm a).hi (IntKind.i64.wrap (0 - 1))))))))
                (Tr.br (op == 14)
                  (Tr.br (ints_Meet (ints_norm a) (ints_Make (ints_moved (ints_norm b).lo 1) 1099511627776)).e
                    (Tr.leaf (ints_none, ints_none))
                    (Tr.br
                      (ints_Meet (ints_norm b)
                          (ints_Make (-1099511627776) (ints_moved (ints_norm a).hi (IntKind.i64.wrap (0 - 1))))).e
                      (Tr.leaf (ints_none, ints_none))
                      (Tr.leaf
                        (ints_Meet (ints_norm a) (ints_Make (ints_moved (ints_norm b).lo 1) 1099511627776),
                          ints_Meet (ints_norm b)
                            (ints_Make (-1099511627776) (ints_moved (ints_norm a).hi (IntKind.i64.wrap (0 - 1))))))))
                  (Tr.br (op == 11)
                    (Tr.br (ints_Meet (ints_norm a) (ints_norm b)).e (Tr.leaf (ints_none, ints_none))
                      (Tr.br (ints_Meet (ints_norm a) (ints_norm b)).e (Tr.leaf (ints_none, ints_none))
                        (Tr.leaf (ints_Meet (ints_norm a) (ints_norm b), ints_Meet (ints_norm a) (ints_norm b)))))
                    (Tr.br (op == 12)
                      (Tr.br (ints_without (ints_norm a) (ints_norm b)).e (Tr.leaf (ints_none, ints_none))
                        (Tr.br (ints_without (ints_norm b) (ints_norm a)).e (Tr.leaf (ints_none, ints_none))
                          (Tr.leaf (ints_without (ints_norm a) (ints_norm b), ints_without (ints_norm b) (ints_norm a)))))
                      (Tr.br (ints_norm a).e (Tr.leaf (ints_none, ints_none))
                        (Tr.br (ints_norm b).e (Tr.leaf (ints_none, ints_none))
                          (Tr.leaf (ints_norm a, ints_norm b))))))))))
          (Tr.br (op == 9)
            (Tr.br
              (ints_Meet (ints_norm a)
                  (ints_Make (-1099511627776) (ints_moved (ints_norm b).hi (IntKind.i64.wrap (0 - 0))))).e
              (Tr.leaf (ints_none, ints_none))
              (Tr.br (ints_Meet (ints_norm b) (ints_Make (ints_moved (ints_norm a).lo 0) 1099511627776)).e
                (Tr.leaf (ints_none, ints_none))
                (Tr.leaf
                  (ints_Meet (ints_norm a)
                      (ints_Make (-1099511627776) (ints_moved (ints_norm b).hi (IntKind.i64.wrap (0 - 0)))),
                    ints_Meet (ints_norm b) (ints_Make (ints_moved (ints_norm a).lo 0) 1099511627776)))))
            (Tr.br (op == 10)
              (Tr.br
                (ints_Meet (ints_norm a)
                    (ints_Make (-1099511627776) (ints_moved (ints_norm b).hi (IntKind.i64.wrap (0 - 0))))).e
                (Tr.leaf (ints_none, ints_none))
                (Tr.br (ints_Meet (ints_norm b) (ints_Make (ints_moved (ints_norm a).lo 0) 1099511627776)).e
                  (Tr.leaf (ints_none, ints_none))
                  (Tr.leaf
                    (ints_Meet (ints_norm a)
                        (ints_Make (-1099511627776) (ints_moved (ints_norm b).hi (IntKind.i64.wrap (0 - 0)))),
                      ints_Meet (ints_norm b) (ints_Make (ints_moved (ints_norm a).lo 0) 1099511627776)))))
              (Tr.br (op == 13)
                (Tr.br (ints_Meet (ints_norm a) (ints_Make (ints_moved (ints_norm b).lo 0) 1099511627776)).e
                  (Tr.leaf (ints_none, ints_none))
                  (Tr.br
                    (ints_Meet (ints_norm b)
                        (ints_Make (-1099511627776) (ints_moved (ints_norm a).hi (IntKind.i64.wrap (0 - 0))))).e
                    (Tr.leaf (ints_none, ints_none))
                    (Tr.leaf
                      (ints_Meet (ints_norm a) (ints_Make (ints_moved (ints_norm b).lo 0) 1099511627776),
                        ints_Meet (ints_norm b)
                          (ints_Make (-1099511627776) (ints_moved (ints_norm a).hi (IntKind.i64.wrap (0 - 0))))))))
                (Tr.br (op == 14)
                  (Tr.br (ints_Meet (ints_norm a) (ints_Make (ints_moved (ints_norm b).lo 0) 1099511627776)).e
                    (Tr.leaf (ints_none, ints_none))
                    (Tr.br
                      (ints_Meet (ints_norm b)
                          (ints_Make (-1099511627776) (ints_moved (ints_norm a).hi (IntKind.i64.wrap (0 - 0))))).e
                      (Tr.leaf (ints_none, ints_none))
                      (Tr.leaf
                        (ints_Meet (ints_norm a) (ints_Make (ints_moved (ints_norm b).lo 0) 1099511627776),
                          ints_Meet (ints_norm b)
                            (ints_Make (-1099511627776) (ints_moved (ints_norm a).hi (IntKind.i64.wrap (0 - 0))))))))
                  (Tr.br (op == 11)
                    (Tr.br (ints_Meet (ints_norm a) (ints_norm b)).e (Tr.leaf (ints_none, ints_none))
                      (Tr.br (ints_Meet (ints_norm a) (ints_norm b)).e (Tr.leaf (ints_none, ints_none))
                        (Tr.leaf (ints_Meet (ints_norm a) (ints_norm b), ints_Meet (ints_norm a) (ints_norm b)))))
                    (Tr.br (op == 12)
                      (Tr.br (ints_without (ints_norm a) (ints_norm b)).e (Tr.leaf (ints_none, ints_none))
                        (Tr.br (ints_without (ints_norm b) (ints_norm a)).e (Tr.leaf (ints_none, ints_none))
                          (Tr.leaf (ints_without (ints_norm a) (ints_norm b), ints_without (ints_norm b) (ints_norm a)))))
                      (Tr.br (ints_norm a).e (Tr.leaf (ints_none, ints_none))
                        (Tr.br (ints_norm b).e (Tr.leaf (ints_none, ints_none))
                          (Tr.leaf (ints_norm a, ints_norm b)))))))))))))
def ints_Test_t (op : Int) (a : I3) (b : I3) : Tr (I3 × I3) := ints_Test_T ints_norm ints_none ints_moved ints_Make ints_Meet ints_without op a b
def ints_Test (op : Int) (a : I3) (b : I3) : I3 × I3 := (ints_Test_t op a b).val
theorem ints_Test_ev (ints_norm : I3 → I3) (ints_none : I3) (ints_moved : Int → Int → Int) (ints_Make : Int → Int → I3) (ints_Meet : I3 → I3 → I3) (ints_without : I3 → I3 → I3) (op : Int) (a : I3) (b : I3) (Q : AV → Prop) : evF Try.prog (mkC [(68, (sumT (aOne (cI3)) fun x => (o1 (cI3)).enc (ints_norm x))), (70, (sumT aNil fun _ => (o1 (cI3)).enc (ints_none ))), (78, (sumT (aCons (cInt .i64) (aOne (cInt .i64))) fun x => (o1 (cInt .i64)).enc (ints_moved x.1 x.2))), (37, (sumT (aCons (cInt .i64) (aOne (cInt .i64))) fun x => (o1 (cI3)).enc (ints_Make x.1 x.2))), (45, (sumT (aCons (cI3) (aOne (cI3))) fun x => (o1 (cI3)).enc (ints_Meet x.1 x.2))), (79, (sumT (aCons (cI3) (aOne (cI3))) fun x => (o1 (cI3)).enc (ints_without x.1 x.2)))]) noL 60 Try.f69 ((aCons (cInt .u8) (aCons (cI3) (aOne (cI3)))).enc (op, a, b)) Q = (ints_Test_T ints_norm ints_none ints_moved ints_Make ints_Meet ints_without op a b).prop (fun x => Q ((o2 (cI3) (cI3)).enc x)) := by kernel_rfl
theorem ints_Test_c (x : Int × I3 × I3) (w : World) (vs : Array Value) (hp : ArgsR ((aCons (cInt .u8) (aCons (cI3) (aOne (cI3)))).enc x) w vs) : Calls Try.prog 69 vs w (Ans ((o2 (cI3) (cI3)).enc (ints_Test x.1 x.2.1 x.2.2)) w) :=
  contractT mixed (AllGood.cons ints_norm_ok (AllGood.cons ints_none_ok (AllGood.cons ints_moved_ok (AllGood.cons ints_Make_ok (AllGood.cons ints_Meet_ok (AllGood.cons ints_without_ok AllGood.nil)))))) Try.func69 (fun _ _ _ _ => noL_ok) (Tr.safe_of (t := ints_Test_t x.1 x.2.1 x.2.2) rfl) (ints_Test_ev ints_norm ints_none ints_moved ints_Make ints_Meet ints_without x.1 x.2.1 x.2.2) w vs hp
theorem ints_Test_ok : GoodF Try.prog 69 (sumT (aCons (cInt .u8) (aCons (cI3) (aOne (cI3)))) fun x => (o2 (cI3) (cI3)).enc (ints_Test x.1 x.2.1 x.2.2)) :=
  good_sumT (callable_of Try.func69 (by kernel_rfl) (by kernel_rfl)) ints_Test_c
/-! flyball/flyballref17.Norm -/
def ref_Norm_T  (s : I3) : Tr (I3) :=
  Tr.br s.e (Tr.leaf (I3.mk true 0 0))
    (Tr.br (decide (s.lo > s.hi)) (Tr.leaf (I3.mk true 0 0))
      (Tr.br (decide (s.lo ≥ 1099511627776)) (Tr.leaf (I3.mk true 0 0))
        (Tr.br (decide (s.hi ≤ -1099511627776)) (Tr.leaf (I3.mk true 0 0))
          (Tr.leaf (I3.mk false (imax s.lo (-1099511627776)) (imin s.hi 1099511627776))))))
def ref_Norm_t (s : I3) : Tr (I3) := ref_Norm_T  s
def ref_Norm (s : I3) : I3 := (ref_Norm_t s).val
theorem ref_Norm_ev  (s : I3) (Q : AV → Prop) : evF Try.prog (mkC []) noL 60 Try.f39 ((aOne (cI3)).enc s) Q = (ref_Norm_T  s).prop (fun x => Q ((o1 (cI3)).enc x)) := by kernel_rfl
theorem ref_Norm_c (x : I3) (w : World) (vs : Array Value) (hp : ArgsR ((aOne (cI3)).enc x) w vs) : Calls Try.prog 39 vs w (Ans ((o1 (cI3)).enc (ref_Norm x)) w) :=
  contractT mixed AllGood.nil Try.func39 (fun _ _ _ _ => noL_ok) (Tr.safe_of (t := ref_Norm_t x) rfl) (ref_Norm_ev  x) w vs hp
theorem ref_Norm_ok : GoodF Try.prog 39 (sumT (aOne (cI3)) fun x => (o1 (cI3)).enc (ref_Norm x)) :=
  good_sumT (callable_of Try.func39 (by kernel_rfl) (by kernel_rfl)) ref_Norm_c
/-! flyball/flyballref17.Has -/
def ref_Has_T (ref_Norm : I3 → I3) (s : I3) (n : Int) : Tr (Bool) :=
  Tr.br (ref_Norm s).e (Tr.leaf false)
    (Tr.br ((ref_Norm s).lo == -1099511627776)
      (Tr.br ((ref_Norm s).hi == 1099511627776) (Tr.leaf true) (Tr.leaf (decide (n ≤ (ref_Norm s).hi))))
      (Tr.br (decide (n ≥ (ref_Norm s).lo))
        (Tr.br ((ref_Norm s).hi == 1099511627776) (Tr.leaf true) (Tr.leaf (decide (n ≤ (ref_Norm s).hi))))
        (Tr.leaf false)))
def ref_Has_t (s : I3) (n : Int) : Tr (Bool) := ref_Has_T ref_Norm s n
def ref_Has (s : I3) (n : Int) : Bool := (ref_Has_t s n).val
theorem ref_Has_ev (ref_Norm : I3 → I3) (s : I3) (n : Int) (Q : AV → Prop) : evF Try.prog (mkC [(39, (sumT (aOne (cI3)) fun x => (o1 (cI3)).enc (ref_Norm x)))]) noL 60 Try.f40 ((aCons (cI3) (aOne (cInt .i64))).enc (s, n)) Q = (ref_Has_T ref_Norm s n).prop (fun x => Q ((o1 (cBool)).enc x)) := by kernel_rfl
theorem ref_Has_c (x : I3 × Int) (w : World) (vs : Array Value) (hp : ArgsR ((aCons (cI3) (aOne (cInt .i64))).enc x) w vs) : Calls Try.prog 40 vs w (Ans ((o1 (cBool)).enc (ref_Has x.1 x.2)) w) :=
  contractT mixed (AllGood.cons ref_Norm_ok AllGood.nil) Try.func40 (fun _ _ _ _ => noL_ok) (Tr.safe_of (t := ref_Has_t x.1 x.2) rfl) (ref_Has_ev ref_Norm x.1 x.2) w vs hp
theorem ref_Has_ok : GoodF Try.prog 40 (sumT (aCons (cI3) (aOne (cInt .i64))) fun x => (o1 (cBool)).enc (ref_Has x.1 x.2)) :=
  good_sumT (callable_of Try.func40 (by kernel_rfl) (by kernel_rfl)) ref_Has_c
/-! flyball/flyballref17.Inside -/
def ref_Inside_T (ref_Norm : I3 → I3) (a : I3) (b : I3) : Tr (Bool) :=
  Tr.br (ref_Norm a).e (Tr.leaf (ref_Norm a).e)
    (Tr.br (ref_Norm b).e (Tr.leaf (ref_Norm a).e)
      (Tr.br (decide ((ref_Norm b).lo ≤ (ref_Norm a).lo)) (Tr.leaf (decide ((ref_Norm a).hi ≤ (ref_Norm b).hi)))
        (Tr.leaf false)))
def ref_Inside_t (a : I3) (b : I3) : Tr (Bool) := ref_Inside_T ref_Norm a b
def ref_Inside (a : I3) (b : I3) : Bool := (ref_Inside_t a b).val
theorem ref_Inside_ev (ref_Norm : I3 → I3) (a : I3) (b : I3) (Q : AV → Prop) : evF Try.prog (mkC [(39, (sumT (aOne (cI3)) fun x => (o1 (cI3)).enc (ref_Norm x)))]) noL 60 Try.f42 ((aCons (cI3) (aOne (cI3))).enc (a, b)) Q = (ref_Inside_T ref_Norm a b).prop (fun x => Q ((o1 (cBool)).enc x)) := by kernel_rfl
theorem ref_Inside_c (x : I3 × I3) (w : World) (vs : Array Value) (hp : ArgsR ((aCons (cI3) (aOne (cI3))).enc x) w vs) : Calls Try.prog 42 vs w (Ans ((o1 (cBool)).enc (ref_Inside x.1 x.2)) w) :=
  contractT mixed (AllGood.cons ref_Norm_ok AllGood.nil) Try.func42 (fun _ _ _ _ => noL_ok) (Tr.safe_of (t := ref_Inside_t x.1 x.2) rfl) (ref_Inside_ev ref_Norm x.1 x.2) w vs hp
theorem ref_Inside_ok : GoodF Try.prog 42 (sumT (aCons (cI3) (aOne (cI3))) fun x => (o1 (cBool)).enc (ref_Inside x.1 x.2)) :=
  good_sumT (callable_of Try.func42 (by kernel_rfl) (by kernel_rfl)) ref_Inside_c
/-! flyball/flyballref17.Join -/
def ref_Join_T (ref_Norm : I3 → I3) (a : I3) (b : I3) : Tr (I3) :=
  Tr.br (ref_Norm a).e (Tr.leaf (ref_Norm b))
    (Tr.br (ref_Norm b).e (Tr.leaf (ref_Norm a))
      (Tr.leaf (I3.mk false (imin (ref_Norm a).lo (ref_Norm b).lo) (imax (ref_Norm a).hi (ref_Norm b).hi))))
def ref_Join_t (a : I3) (b : I3) : Tr (I3) := ref_Join_T ref_Norm a b
def ref_Join (a : I3) (b : I3) : I3 := (ref_Join_t a b).val
theorem ref_Join_ev (ref_Norm : I3 → I3) (a : I3) (b : I3) (Q : AV → Prop) : evF Try.prog (mkC [(39, (sumT (aOne (cI3)) fun x => (o1 (cI3)).enc (ref_Norm x)))]) noL 60 Try.f44 ((aCons (cI3) (aOne (cI3))).enc (a, b)) Q = (ref_Join_T ref_Norm a b).prop (fun x => Q ((o1 (cI3)).enc x)) := by kernel_rfl
theorem ref_Join_c (x : I3 × I3) (w : World) (vs : Array Value) (hp : ArgsR ((aCons (cI3) (aOne (cI3))).enc x) w vs) : Calls Try.prog 44 vs w (Ans ((o1 (cI3)).enc (ref_Join x.1 x.2)) w) :=
  contractT mixed (AllGood.cons ref_Norm_ok AllGood.nil) Try.func44 (fun _ _ _ _ => noL_ok) (Tr.safe_of (t := ref_Join_t x.1 x.2) rfl) (ref_Join_ev ref_Norm x.1 x.2) w vs hp
theorem ref_Join_ok : GoodF Try.prog 44 (sumT (aCons (cI3) (aOne (cI3))) fun x => (o1 (cI3)).enc (ref_Join x.1 x.2)) :=
  good_sumT (callable_of Try.func44 (by kernel_rfl) (by kernel_rfl)) ref_Join_c
/-! flyball/flyballref17.Meet -/
def ref_Meet_T (ref_Norm : I3 → I3) (a : I3) (b : I3) : Tr (I3) :=
  Tr.br (ref_Norm a).e (Tr.leaf (I3.mk true 0 0))
    (Tr.br (ref_Norm b).e (Tr.leaf (I3.mk true 0 0))
      (Tr.leaf (ref_Norm (I3.mk false (imax (ref_Norm a).lo (ref_Norm b).lo) (imin (ref_Norm a).hi (ref_Norm b).hi)))))
def ref_Meet_t (a : I3) (b : I3) : Tr (I3) := ref_Meet_T ref_Norm a b
def ref_Meet (a : I3) (b : I3) : I3 := (ref_Meet_t a b).val
theorem ref_Meet_ev (ref_Norm : I3 → I3) (a : I3) (b : I3) (Q : AV → Prop) : evF Try.prog (mkC [(39, (sumT (aOne (cI3)) fun x => (o1 (cI3)).enc (ref_Norm x)))]) noL 60 Try.f46 ((aCons (cI3) (aOne (cI3))).enc (a, b)) Q = (ref_Meet_T ref_Norm a b).prop (fun x => Q ((o1 (cI3)).enc x)) := by kernel_rfl
theorem ref_Meet_c (x : I3 × I3) (w : World) (vs : Array Value) (hp : ArgsR ((aCons (cI3) (aOne (cI3))).enc x) w vs) : Calls Try.prog 46 vs w (Ans ((o1 (cI3)).enc (ref_Meet x.1 x.2)) w) :=
  contractT mixed (AllGood.cons ref_Norm_ok AllGood.nil) Try.func46 (fun _ _ _ _ => noL_ok) (Tr.safe_of (t := ref_Meet_t x.1 x.2) rfl) (ref_Meet_ev ref_Norm x.1 x.2) w vs hp
theorem ref_Meet_ok : GoodF Try.prog 46 (sumT (aCons (cI3) (aOne (cI3))) fun x => (o1 (cI3)).enc (ref_Meet x.1 x.2)) :=
  good_sumT (callable_of Try.func46 (by kernel_rfl) (by kernel_rfl)) ref_Meet_c
/-! flyball/flyballref17.Small -/
def ref_Small_T (ref_Norm : I3 → I3) (s : I3) (most : Int) : Tr (Bool) :=
  Tr.br (ref_Norm s).e (Tr.leaf true)
    (Tr.br (decide ((ref_Norm s).lo > -1099511627776))
      (Tr.br (decide ((ref_Norm s).hi < 1099511627776))
        (Tr.leaf (decide (IntKind.i64.wrap ((ref_Norm s).hi - (ref_Norm s).lo) < most))) (Tr.leaf false))
      (Tr.leaf false))
def ref_Small_t (s : I3) (most : Int) : Tr (Bool) := ref_Small_T ref_Norm s most
def ref_Small (s : I3) (most : Int) : Bool := (ref_Small_t s most).val
theorem ref_Small_ev (ref_Norm : I3 → I3) (s : I3) (most : Int) (Q : AV → Prop) : evF Try.prog (mkC [(39, (sumT (aOne (cI3)) fun x => (o1 (cI3)).enc (ref_Norm x)))]) noL 60 Try.f47 ((aCons (cI3) (aOne (cInt .i64))).enc (s, most)) Q = (ref_Small_T ref_Norm s most).prop (fun x => Q ((o1 (cBool)).enc x)) := by kernel_rfl
theorem ref_Small_c (x : I3 × Int) (w : World) (vs : Array Value) (hp : ArgsR ((aCons (cI3) (aOne (cInt .i64))).enc x) w vs) : Calls Try.prog 47 vs w (Ans ((o1 (cBool)).enc (ref_Small x.1 x.2)) w) :=
  contractT mixed (AllGood.cons ref_Norm_ok AllGood.nil) Try.func47 (fun _ _ _ _ => noL_ok) (Tr.safe_of (t := ref_Small_t x.1 x.2) rfl) (ref_Small_ev ref_Norm x.1 x.2) w vs hp
theorem ref_Small_ok : GoodF Try.prog 47 (sumT (aCons (cI3) (aOne (cInt .i64))) fun x => (o1 (cBool)).enc (ref_Small x.1 x.2)) :=
  good_sumT (callable_of Try.func47 (by kernel_rfl) (by kernel_rfl)) ref_Small_c
end Go.Proofs.Ytfbpklopnnnniaa
