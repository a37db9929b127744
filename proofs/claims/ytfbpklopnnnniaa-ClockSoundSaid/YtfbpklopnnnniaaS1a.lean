/- Contracts and laws of functions of the program, on the way to the claim. Conditions: as each theorem states. -/
import Derived.Test.YtfbpklopnnnniaaTy
import Derived.Test.YtfbpklopnnnniaaRows
namespace Go.Proofs.Ytfbpklopnnnniaa
open Go.Ev Go.Fb

theorem mixed : Try.prog.follows .mixedOrders = true := by kernel_rfl
/-! flyball/ints.none -/
def ints_none_T   : Tr (I3) :=
  Tr.leaf (I3.mk true 0 0)
def ints_none_t  : Tr (I3) := ints_none_T  
def ints_none  : I3 := (ints_none_t ).val
theorem ints_none_ev   (Q : AV → Prop) : evF Try.prog (mkC []) noL 60 Try.f70 (aNil.enc ()) Q = (ints_none_T  ).prop (fun x => Q ((o1 (cI3)).enc x)) := by kernel_rfl
theorem ints_none_c (x : Unit) (w : World) (vs : Array Value) (hp : ArgsR (aNil.enc x) w vs) : Calls Try.prog 70 vs w (Ans ((o1 (cI3)).enc (ints_none )) w) :=
  contractT mixed AllGood.nil Try.func70 (fun _ _ _ _ => noL_ok) (Tr.safe_of (t := ints_none_t ) rfl) (ints_none_ev  ) w vs hp
theorem ints_none_ok : GoodF Try.prog 70 (sumT aNil fun _ => (o1 (cI3)).enc (ints_none )) :=
  good_sumT (callable_of Try.func70 (by kernel_rfl) (by kernel_rfl)) ints_none_c
/-! flyball/ints.norm -/
def ints_norm_T (ints_none : I3) (s : I3) : Tr (I3) :=
  Tr.br s.e (Tr.leaf ints_none)
    (Tr.br (decide (s.lo > s.hi)) (Tr.leaf ints_none)
      (Tr.br (decide (s.lo ≥ 1099511627776)) (Tr.leaf ints_none)
        (Tr.br (decide (s.hi ≤ -1099511627776)) (Tr.leaf ints_none)
          (Tr.leaf (I3.mk false (imax s.lo (-1099511627776)) (imin s.hi 1099511627776))))))
def ints_norm_t (s : I3) : Tr (I3) := ints_norm_T ints_none s
def ints_norm (s : I3) : I3 := (ints_norm_t s).val
theorem ints_norm_ev (ints_none : I3) (s : I3) (Q : AV → Prop) : evF Try.prog (mkC [(70, (sumT aNil fun _ => (o1 (cI3)).enc (ints_none )))]) noL 60 Try.f68 ((aOne (cI3)).enc s) Q = (ints_norm_T ints_none s).prop (fun x => Q ((o1 (cI3)).enc x)) := by kernel_rfl
theorem ints_norm_c (x : I3) (w : World) (vs : Array Value) (hp : ArgsR ((aOne (cI3)).enc x) w vs) : Calls Try.prog 68 vs w (Ans ((o1 (cI3)).enc (ints_norm x)) w) :=
  contractT mixed (AllGood.cons ints_none_ok AllGood.nil) Try.func68 (fun _ _ _ _ => noL_ok) (Tr.safe_of (t := ints_norm_t x) rfl) (ints_norm_ev ints_none x) w vs hp
theorem ints_norm_ok : GoodF Try.prog 68 (sumT (aOne (cI3)) fun x => (o1 (cI3)).enc (ints_norm x)) :=
  good_sumT (callable_of Try.func68 (by kernel_rfl) (by kernel_rfl)) ints_norm_c
/-! flyball/ints.Make -/
def ints_Make_T (ints_norm : I3 → I3) (lo : Int) (hi : Int) : Tr (I3) :=
  Tr.leaf (ints_norm (I3.mk false lo hi))
def ints_Make_t (lo : Int) (hi : Int) : Tr (I3) := ints_Make_T ints_norm lo hi
def ints_Make (lo : Int) (hi : Int) : I3 := (ints_Make_t lo hi).val
theorem ints_Make_ev (ints_norm : I3 → I3) (lo : Int) (hi : Int) (Q : AV → Prop) : evF Try.prog (mkC [(68, (sumT (aOne (cI3)) fun x => (o1 (cI3)).enc (ints_norm x)))]) noL 60 Try.f37 ((aCons (cInt .i64) (aOne (cInt .i64))).enc (lo, hi)) Q = (ints_Make_T ints_norm lo hi).prop (fun x => Q ((o1 (cI3)).enc x)) := by kernel_rfl
theorem ints_Make_c (x : Int × Int) (w : World) (vs : Array Value) (hp : ArgsR ((aCons (cInt .i64) (aOne (cInt .i64))).enc x) w vs) : Calls Try.prog 37 vs w (Ans ((o1 (cI3)).enc (ints_Make x.1 x.2)) w) :=
  contractT mixed (AllGood.cons ints_norm_ok AllGood.nil) Try.func37 (fun _ _ _ _ => noL_ok) (Tr.safe_of (t := ints_Make_t x.1 x.2) rfl) (ints_Make_ev ints_norm x.1 x.2) w vs hp
theorem ints_Make_ok : GoodF Try.prog 37 (sumT (aCons (cInt .i64) (aOne (cInt .i64))) fun x => (o1 (cI3)).enc (ints_Make x.1 x.2)) :=
  good_sumT (callable_of Try.func37 (by kernel_rfl) (by kernel_rfl)) ints_Make_c
/-! flyball/ints.Point -/
def ints_Point_T (ints_Make : Int → Int → I3) (n : Int) : Tr (I3) :=
  Tr.leaf (ints_Make n n)
def ints_Point_t (n : Int) : Tr (I3) := ints_Point_T ints_Make n
def ints_Point (n : Int) : I3 := (ints_Point_t n).val
theorem ints_Point_ev (ints_Make : Int → Int → I3) (n : Int) (Q : AV → Prop) : evF Try.prog (mkC [(37, (sumT (aCons (cInt .i64) (aOne (cInt .i64))) fun x => (o1 (cI3)).enc (ints_Make x.1 x.2)))]) noL 60 Try.f35 ((aOne (cInt .i64)).enc n) Q = (ints_Point_T ints_Make n).prop (fun x => Q ((o1 (cI3)).enc x)) := by kernel_rfl
theorem ints_Point_c (x : Int) (w : World) (vs : Array Value) (hp : ArgsR ((aOne (cInt .i64)).enc x) w vs) : Calls Try.prog 35 vs w (Ans ((o1 (cI3)).enc (ints_Point x)) w) :=
  contractT mixed (AllGood.cons ints_Make_ok AllGood.nil) Try.func35 (fun _ _ _ _ => noL_ok) (Tr.safe_of (t := ints_Point_t x) rfl) (ints_Point_ev ints_Make x) w vs hp
theorem ints_Point_ok : GoodF Try.prog 35 (sumT (aOne (cInt .i64)) fun x => (o1 (cI3)).enc (ints_Point x)) :=
  good_sumT (callable_of Try.func35 (by kernel_rfl) (by kernel_rfl)) ints_Point_c
/-! flyball/ints.Full -/
def ints_Full_T (ints_Make : Int → Int → I3)  : Tr (I3) :=
  Tr.leaf (ints_Make (-2147483648) 2147483647)
def ints_Full_t  : Tr (I3) := ints_Full_T ints_Make 
def ints_Full  : I3 := (ints_Full_t ).val
theorem ints_Full_ev (ints_Make : Int → Int → I3)  (Q : AV → Prop) : evF Try.prog (mkC [(37, (sumT (aCons (cInt .i64) (aOne (cInt .i64))) fun x => (o1 (cI3)).enc (ints_Make x.1 x.2)))]) noL 60 Try.f60 (aNil.enc ()) Q = (ints_Full_T ints_Make ).prop (fun x => Q ((o1 (cI3)).enc x)) := by kernel_rfl
theorem ints_Full_c (x : Unit) (w : World) (vs : Array Value) (hp : ArgsR (aNil.enc x) w vs) : Calls Try.prog 60 vs w (Ans ((o1 (cI3)).enc (ints_Full )) w) :=
  contractT mixed (AllGood.cons ints_Make_ok AllGood.nil) Try.func60 (fun _ _ _ _ => noL_ok) (Tr.safe_of (t := ints_Full_t ) rfl) (ints_Full_ev ints_Make ) w vs hp
theorem ints_Full_ok : GoodF Try.prog 60 (sumT aNil fun _ => (o1 (cI3)).enc (ints_Full )) :=
  good_sumT (callable_of Try.func60 (by kernel_rfl) (by kernel_rfl)) ints_Full_c
/-! flyball/ints.Has -/
def ints_Has_T (ints_norm : I3 → I3) (s : I3) (n : Int) : Tr (Bool) :=
  Tr.br (!(ints_norm s).e)
    (Tr.br ((ints_norm s).lo == -1099511627776)
      (Tr.br ((ints_norm s).hi == 1099511627776) (Tr.leaf true) (Tr.leaf (decide (n ≤ (ints_norm s).hi))))
      (Tr.br (decide (n ≥ (ints_norm s).lo))
        (Tr.br ((ints_norm s).hi == 1099511627776) (Tr.leaf true) (Tr.leaf (decide (n ≤ (ints_norm s).hi))))
        (Tr.leaf false)))
    (Tr.leaf false)
def ints_Has_t (s : I3) (n : Int) : Tr (Bool) := ints_Has_T ints_norm s n
def ints_Has (s : I3) (n : Int) : Bool := (ints_Has_t s n).val
theorem ints_Has_ev (ints_norm : I3 → I3) (s : I3) (n : Int) (Q : AV → Prop) : evF Try.prog (mkC [(68, (sumT (aOne (cI3)) fun x => (o1 (cI3)).enc (ints_norm x)))]) noL 60 Try.f36 ((aCons (cI3) (aOne (cInt .i64))).enc (s, n)) Q = (ints_Has_T ints_norm s n).prop (fun x => Q ((o1 (cBool)).enc x)) := by kernel_rfl
theorem ints_Has_c (x : I3 × Int) (w : World) (vs : Array Value) (hp : ArgsR ((aCons (cI3) (aOne (cInt .i64))).enc x) w vs) : Calls Try.prog 36 vs w (Ans ((o1 (cBool)).enc (ints_Has x.1 x.2)) w) :=
  contractT mixed (AllGood.cons ints_norm_ok AllGood.nil) Try.func36 (fun _ _ _ _ => noL_ok) (Tr.safe_of (t := ints_Has_t x.1 x.2) rfl) (ints_Has_ev ints_norm x.1 x.2) w vs hp
theorem ints_Has_ok : GoodF Try.prog 36 (sumT (aCons (cI3) (aOne (cInt .i64))) fun x => (o1 (cBool)).enc (ints_Has x.1 x.2)) :=
  good_sumT (callable_of Try.func36 (by kernel_rfl) (by kernel_rfl)) ints_Has_c
/-! flyball/ints.Inside -/
def ints_Inside_T (ints_norm : I3 → I3) (a : I3) (b : I3) : Tr (Bool) :=
  Tr.br (ints_norm a).e (Tr.leaf true)
    (Tr.br (!(ints_norm b).e)
      (Tr.br (decide ((ints_norm b).lo ≤ (ints_norm a).lo)) (Tr.leaf (decide ((ints_norm a).hi ≤ (ints_norm b).hi)))
        (Tr.leaf false))
      (Tr.leaf false))
def ints_Inside_t (a : I3) (b : I3) : Tr (Bool) := ints_Inside_T ints_norm a b
def ints_Inside (a : I3) (b : I3) : Bool := (ints_Inside_t a b).val
theorem ints_Inside_ev (ints_norm : I3 → I3) (a : I3) (b : I3) (Q : AV → Prop) : evF Try.prog (mkC [(68, (sumT (aOne (cI3)) fun x => (o1 (cI3)).enc (ints_norm x)))]) noL 60 Try.f41 ((aCons (cI3) (aOne (cI3))).enc (a, b)) Q = (ints_Inside_T ints_norm a b).prop (fun x => Q ((o1 (cBool)).enc x)) := by kernel_rfl
theorem ints_Inside_c (x : I3 × I3) (w : World) (vs : Array Value) (hp : ArgsR ((aCons (cI3) (aOne (cI3))).enc x) w vs) : Calls Try.prog 41 vs w (Ans ((o1 (cBool)).enc (ints_Inside x.1 x.2)) w) :=
  contractT mixed (AllGood.cons ints_norm_ok AllGood.nil) Try.func41 (fun _ _ _ _ => noL_ok) (Tr.safe_of (t := ints_Inside_t x.1 x.2) rfl) (ints_Inside_ev ints_norm x.1 x.2) w vs hp
theorem ints_Inside_ok : GoodF Try.prog 41 (sumT (aCons (cI3) (aOne (cI3))) fun x => (o1 (cBool)).enc (ints_Inside x.1 x.2)) :=
  good_sumT (callable_of Try.func41 (by kernel_rfl) (by kernel_rfl)) ints_Inside_c
/-! flyball/ints.Join -/
def ints_Join0_T (ints_none : I3) (_l : Unit) : Tr (I3) :=
  Tr.leaf ints_none
def ints_Join0_t (l : Unit) : Tr (I3) := ints_Join0_T ints_none l
def ints_Join0 (l : Unit) : I3 := (ints_Join0_t l).val
theorem ints_Join0_ev (ints_none : I3) (ints_norm : I3 → I3) (l : Unit) (Q : AV → Prop) : evF Try.prog (mkC [(70, (sumT aNil fun _ => (o1 (cI3)).enc (ints_none ))), (68, (sumT (aOne (cI3)) fun x => (o1 (cI3)).enc (ints_norm x)))]) noL 60 Try.f43 ((aOne (cLit ecI3 to0 of0 l0)).enc l) Q = (ints_Join0_T ints_none l).prop (fun x => Q ((o1 (cI3)).enc x)) := by kernel_rfl
theorem ints_Join0_c (x : Unit) (w : World) (vs : Array Value) (hp : ArgsR ((aOne (cLit ecI3 to0 of0 l0)).enc x) w vs) : Calls Try.prog 43 vs w (Ans ((o1 (cI3)).enc (ints_Join0 x)) w) :=
  contractT mixed (AllGood.cons ints_none_ok (AllGood.cons ints_norm_ok AllGood.nil)) Try.func43 (fun _ _ _ _ => noL_ok) (Tr.safe_of (t := ints_Join0_t x) rfl) (ints_Join0_ev ints_none ints_norm x) w vs hp
theorem ints_Join0_ok : GoodF Try.prog 43 (sumT (aOne (cLit ecI3 to0 of0 l0)) fun x => (o1 (cI3)).enc (ints_Join0 x)) :=
  good_sumT (callable_of Try.func43 (by kernel_rfl) (by kernel_rfl)) ints_Join0_c
/-! flyball/ints.Join -/
def ints_Join1_T (ints_none : I3) (ints_norm : I3 → I3) (l : I3) : Tr (I3) :=
  Tr.br (ints_norm l).e (Tr.leaf ints_none)
    (Tr.br ints_none.e (Tr.leaf (ints_norm l))
      (Tr.leaf (I3.mk false (imin ints_none.lo (ints_norm l).lo) (imax ints_none.hi (ints_norm l).hi))))
def ints_Join1_t (l : I3) : Tr (I3) := ints_Join1_T ints_none ints_norm l
def ints_Join1 (l : I3) : I3 := (ints_Join1_t l).val
theorem ints_Join1_ev (ints_none : I3) (ints_norm : I3 → I3) (l : I3) (Q : AV → Prop) : evF Try.prog (mkC [(70, (sumT aNil fun _ => (o1 (cI3)).enc (ints_none ))), (68, (sumT (aOne (cI3)) fun x => (o1 (cI3)).enc (ints_norm x)))]) noL 60 Try.f43 ((aOne (cLit ecI3 to1 of1 l1)).enc l) Q = (ints_Join1_T ints_none ints_norm l).prop (fun x => Q ((o1 (cI3)).enc x)) := by kernel_rfl
theorem ints_Join1_c (x : I3) (w : World) (vs : Array Value) (hp : ArgsR ((aOne (cLit ecI3 to1 of1 l1)).enc x) w vs) : Calls Try.prog 43 vs w (Ans ((o1 (cI3)).enc (ints_Join1 x)) w) :=
  contractT mixed (AllGood.cons ints_none_ok (AllGood.cons ints_norm_ok AllGood.nil)) Try.func43 (fun _ _ _ _ => noL_ok) (Tr.safe_of (t := ints_Join1_t x) rfl) (ints_Join1_ev ints_none ints_norm x) w vs hp
theorem ints_Join1_ok : GoodF Try.prog 43 (sumT (aOne (cLit ecI3 to1 of1 l1)) fun x => (o1 (cI3)).enc (ints_Join1 x)) :=
  good_sumT (callable_of Try.func43 (by kernel_rfl) (by kernel_rfl)) ints_Join1_c
/-! flyball/ints.Join -/
def ints_Join2_T (ints_none : I3) (ints_norm : I3 → I3) (l : I3 × I3) : Tr (I3) :=
  Tr.br (ints_norm l.fst).e
    (Tr.br (ints_norm l.snd).e (Tr.leaf ints_none)
      (Tr.br ints_none.e (Tr.leaf (ints_norm l.snd))
        (Tr.leaf (I3.mk false (imin ints_none.lo (ints_norm l.snd).lo) (imax ints_none.hi (ints_norm l.snd).hi)))))
    (Tr.br ints_none.e
      (Tr.br (ints_norm l.snd).e (Tr.leaf (ints_norm l.fst))
        (Tr.br (ints_norm l.fst).e (Tr.leaf (ints_norm l.snd))
          (Tr.leaf
            (I3.mk false (imin (ints_norm l.fst).lo (ints_norm l.snd).lo)
              (imax (ints_norm l.fst).hi (ints_norm l.snd).hi)))))
      (Tr.br (ints_norm l.snd).e
        (Tr.leaf (I3.mk false (imin ints_none.lo (ints_norm l.fst).lo) (imax ints_none.hi (ints_norm l.fst).hi)))
        (Tr.leaf
          (I3.mk false (imin (imin ints_none.lo (ints_norm l.fst).lo) (ints_norm l.snd).lo)
            (imax (imax ints_none.hi (ints_norm l.fst).hi) (ints_norm l.snd).hi)))))
def ints_Join2_t (l : I3 × I3) : Tr (I3) := ints_Join2_T ints_none ints_norm l
def ints_Join2 (l : I3 × I3) : I3 := (ints_Join2_t l).val
theorem ints_Join2_ev (ints_none : I3) (ints_norm : I3 → I3) (l : I3 × I3) (Q : AV → Prop) : evF Try.prog (mkC [(70, (sumT aNil fun _ => (o1 (cI3)).enc (ints_none ))), (68, (sumT (aOne (cI3)) fun x => (o1 (cI3)).enc (ints_norm x)))]) noL 60 Try.f43 ((aOne (cLit ecI3 to2 of2 l2)).enc l) Q = (ints_Join2_T ints_none ints_norm l).prop (fun x => Q ((o1 (cI3)).enc x)) := by kernel_rfl
theorem ints_Join2_c (x : (I3 × I3)) (w : World) (vs : Array Value) (hp : ArgsR ((aOne (cLit ecI3 to2 of2 l2)).enc x) w vs) : Calls Try.prog 43 vs w (Ans ((o1 (cI3)).enc (ints_Join2 x)) w) :=
  contractT mixed (AllGood.cons ints_none_ok (AllGood.cons ints_norm_ok AllGood.nil)) Try.func43 (fun _ _ _ _ => noL_ok) (Tr.safe_of (t := ints_Join2_t x) rfl) (ints_Join2_ev ints_none ints_norm x) w vs hp
theorem ints_Join2_ok : GoodF Try.prog 43 (sumT (aOne (cLit ecI3 to2 of2 l2)) fun x => (o1 (cI3)).enc (ints_Join2 x)) :=
  good_sumT (callable_of Try.func43 (by kernel_rfl) (by kernel_rfl)) ints_Join2_c
/-! flyball/ints.Meet -/
def ints_Meet_T (ints_norm : I3 → I3) (ints_none : I3) (ints_Make : Int → Int → I3) (a : I3) (b : I3) : Tr (I3) :=
  Tr.br (ints_norm a).e (Tr.leaf ints_none)
    (Tr.br (ints_norm b).e (Tr.leaf ints_none)
      (Tr.leaf (ints_Make (imax (ints_norm a).lo (ints_norm b).lo) (imin (ints_norm a).hi (ints_norm b).hi))))
def ints_Meet_t (a : I3) (b : I3) : Tr (I3) := ints_Meet_T ints_norm ints_none ints_Make a b
def ints_Meet (a : I3) (b : I3) : I3 := (ints_Meet_t a b).val
theorem ints_Meet_ev (ints_norm : I3 → I3) (ints_none : I3) (ints_Make : Int → Int → I3) (a : I3) (b : I3) (Q : AV → Prop) : evF Try.prog (mkC [(68, (sumT (aOne (cI3)) fun x => (o1 (cI3)).enc (ints_norm x))), (70, (sumT aNil fun _ => (o1 (cI3)).enc (ints_none ))), (37, (sumT (aCons (cInt .i64) (aOne (cInt .i64))) fun x => (o1 (cI3)).enc (ints_Make x.1 x.2)))]) noL 60 Try.f45 ((aCons (cI3) (aOne (cI3))).enc (a, b)) Q = (ints_Meet_T ints_norm ints_none ints_Make a b).prop (fun x => Q ((o1 (cI3)).enc x)) := by kernel_rfl
theorem ints_Meet_c (x : I3 × I3) (w : World) (vs : Array Value) (hp : ArgsR ((aCons (cI3) (aOne (cI3))).enc x) w vs) : Calls Try.prog 45 vs w (Ans ((o1 (cI3)).enc (ints_Meet x.1 x.2)) w) :=
  contractT mixed (AllGood.cons ints_norm_ok (AllGood.cons ints_none_ok (AllGood.cons ints_Make_ok AllGood.nil))) Try.func45 (fun _ _ _ _ => noL_ok) (Tr.safe_of (t := ints_Meet_t x.1 x.2) rfl) (ints_Meet_ev ints_norm ints_none ints_Make x.1 x.2) w vs hp
theorem ints_Meet_ok : GoodF Try.prog 45 (sumT (aCons (cI3) (aOne (cI3))) fun x => (o1 (cI3)).enc (ints_Meet x.1 x.2)) :=
  good_sumT (callable_of Try.func45 (by kernel_rfl) (by kernel_rfl)) ints_Meet_c
/-! flyball/ints.far -/
def ints_far_T  (n : Int) : Tr (Bool) :=
  Tr.br (decide (n ≥ 1099511627776)) (Tr.leaf true) (Tr.leaf (decide (n ≤ -1099511627776)))
def ints_far_t (n : Int) : Tr (Bool) := ints_far_T  n
def ints_far (n : Int) : Bool := (ints_far_t n).val
theorem ints_far_ev  (n : Int) (Q : AV → Prop) : evF Try.prog (mkC []) noL 60 Try.f81 ((aOne (cInt .i64)).enc n) Q = (ints_far_T  n).prop (fun x => Q ((o1 (cBool)).enc x)) := by kernel_rfl
theorem ints_far_c (x : Int) (w : World) (vs : Array Value) (hp : ArgsR ((aOne (cInt .i64)).enc x) w vs) : Calls Try.prog 81 vs w (Ans ((o1 (cBool)).enc (ints_far x)) w) :=
  contractT mixed AllGood.nil Try.func81 (fun _ _ _ _ => noL_ok) (Tr.safe_of (t := ints_far_t x) rfl) (ints_far_ev  x) w vs hp
theorem ints_far_ok : GoodF Try.prog 81 (sumT (aOne (cInt .i64)) fun x => (o1 (cBool)).enc (ints_far x)) :=
  good_sumT (callable_of Try.func81 (by kernel_rfl) (by kernel_rfl)) ints_far_c
/-! flyball/ints.clip -/
def ints_clip_T  (n : Int) : Tr (Int) :=
  Tr.leaf (imax (imin n 1099511627776) (-1099511627776))
def ints_clip_t (n : Int) : Tr (Int) := ints_clip_T  n
def ints_clip (n : Int) : Int := (ints_clip_t n).val
theorem ints_clip_ev  (n : Int) (Q : AV → Prop) : evF Try.prog (mkC []) noL 60 Try.f80 ((aOne (cInt .i64)).enc n) Q = (ints_clip_T  n).prop (fun x => Q ((o1 (cInt .i64)).enc x)) := by kernel_rfl
theorem ints_clip_c (x : Int) (w : World) (vs : Array Value) (hp : ArgsR ((aOne (cInt .i64)).enc x) w vs) : Calls Try.prog 80 vs w (Ans ((o1 (cInt .i64)).enc (ints_clip x)) w) :=
  contractT mixed AllGood.nil Try.func80 (fun _ _ _ _ => noL_ok) (Tr.safe_of (t := ints_clip_t x) rfl) (ints_clip_ev  x) w vs hp
theorem ints_clip_ok : GoodF Try.prog 80 (sumT (aOne (cInt .i64)) fun x => (o1 (cInt .i64)).enc (ints_clip x)) :=
  good_sumT (callable_of Try.func80 (by kernel_rfl) (by kernel_rfl)) ints_clip_c
/-! flyball/ints.Neg -/
def ints_Neg_T (ints_norm : I3 → I3) (ints_Make : Int → Int → I3) (a : I3) : Tr (I3) :=
  Tr.br (ints_norm a).e (Tr.leaf (ints_norm a))
    (Tr.leaf (ints_Make (IntKind.i64.wrap (0 - (ints_norm a).hi)) (IntKind.i64.wrap (0 - (ints_norm a).lo))))
def ints_Neg_t (a : I3) : Tr (I3) := ints_Neg_T ints_norm ints_Make a
def ints_Neg (a : I3) : I3 := (ints_Neg_t a).val
theorem ints_Neg_ev (ints_norm : I3 → I3) (ints_Make : Int → Int → I3) (a : I3) (Q : AV → Prop) : evF Try.prog (mkC [(68, (sumT (aOne (cI3)) fun x => (o1 (cI3)).enc (ints_norm x))), (37, (sumT (aCons (cInt .i64) (aOne (cInt .i64))) fun x => (o1 (cI3)).enc (ints_Make x.1 x.2)))]) noL 60 Try.f48 ((aOne (cI3)).enc a) Q = (ints_Neg_T ints_norm ints_Make a).prop (fun x => Q ((o1 (cI3)).enc x)) := by kernel_rfl
theorem ints_Neg_c (x : I3) (w : World) (vs : Array Value) (hp : ArgsR ((aOne (cI3)).enc x) w vs) : Calls Try.prog 48 vs w (Ans ((o1 (cI3)).enc (ints_Neg x)) w) :=
  contractT mixed (AllGood.cons ints_norm_ok (AllGood.cons ints_Make_ok AllGood.nil)) Try.func48 (fun _ _ _ _ => noL_ok) (Tr.safe_of (t := ints_Neg_t x) rfl) (ints_Neg_ev ints_norm ints_Make x) w vs hp
theorem ints_Neg_ok : GoodF Try.prog 48 (sumT (aOne (cI3)) fun x => (o1 (cI3)).enc (ints_Neg x)) :=
  good_sumT (callable_of Try.func48 (by kernel_rfl) (by kernel_rfl)) ints_Neg_c
/-! flyball/ints.Abs -/
def ints_Abs_T (ints_Make : Int → Int → I3) (ints_Meet : I3 → I3 → I3) (ints_Neg : I3 → I3) (ints_Join2 : (I3 × I3) → I3) (a : I3) : Tr (I3) :=
  Tr.leaf (ints_Join2 (ints_Meet a (ints_Make 0 1099511627776), ints_Meet (ints_Neg a) (ints_Make 0 1099511627776)))
def ints_Abs_t (a : I3) : Tr (I3) := ints_Abs_T ints_Make ints_Meet ints_Neg ints_Join2 a
def ints_Abs (a : I3) : I3 := (ints_Abs_t a).val
theorem ints_Abs_ev (ints_Make : Int → Int → I3) (ints_Meet : I3 → I3 → I3) (ints_Neg : I3 → I3) (ints_Join2 : (I3 × I3) → I3) (ints_Join1 : I3 → I3) (ints_Join0 : Unit → I3) (a : I3) (Q : AV → Prop) : evF Try.prog (mkC [(37, (sumT (aCons (cInt .i64) (aOne (cInt .i64))) fun x => (o1 (cI3)).enc (ints_Make x.1 x.2))), (45, (sumT (aCons (cI3) (aOne (cI3))) fun x => (o1 (cI3)).enc (ints_Meet x.1 x.2))), (48, (sumT (aOne (cI3)) fun x => (o1 (cI3)).enc (ints_Neg x))), (43, (orS (sumT (aOne (cLit ecI3 to2 of2 l2)) fun x => (o1 (cI3)).enc (ints_Join2 x)) (orS (sumT (aOne (cLit ecI3 to1 of1 l1)) fun x => (o1 (cI3)).enc (ints_Join1 x)) (sumT (aOne (cLit ecI3 to0 of0 l0)) fun x => (o1 (cI3)).enc (ints_Join0 x)))))]) noL 60 Try.f50 ((aOne (cI3)).enc a) Q = (ints_Abs_T ints_Make ints_Meet ints_Neg ints_Join2 a).prop (fun x => Q ((o1 (cI3)).enc x)) := by kernel_rfl
theorem ints_Abs_c (x : I3) (w : World) (vs : Array Value) (hp : ArgsR ((aOne (cI3)).enc x) w vs) : Calls Try.prog 50 vs w (Ans ((o1 (cI3)).enc (ints_Abs x)) w) :=
  contractT mixed (AllGood.cons ints_Make_ok (AllGood.cons ints_Meet_ok (AllGood.cons ints_Neg_ok (AllGood.cons (good_or ints_Join2_ok (good_or ints_Join1_ok ints_Join0_ok)) AllGood.nil)))) Try.func50 (fun _ _ _ _ => noL_ok) (Tr.safe_of (t := ints_Abs_t x) rfl) (ints_Abs_ev ints_Make ints_Meet ints_Neg ints_Join2 ints_Join1 ints_Join0 x) w vs hp
theorem ints_Abs_ok : GoodF Try.prog 50 (sumT (aOne (cI3)) fun x => (o1 (cI3)).enc (ints_Abs x)) :=
  good_sumT (callable_of Try.func50 (by kernel_rfl) (by kernel_rfl)) ints_Abs_c
/-! flyball/ints.sum -/
def ints_sum_T (ints_far : Int → Bool) (ints_clip : Int → Int) (x : Int) (y : Int) : Tr (Int) :=
  Tr.br (ints_far x) (Tr.leaf x) (Tr.br (ints_far y) (Tr.leaf y) (Tr.leaf (ints_clip (IntKind.i64.wrap (x + y)))))
def ints_sum_t (x : Int) (y : Int) : Tr (Int) := ints_sum_T ints_far ints_clip x y
def ints_sum (x : Int) (y : Int) : Int := (ints_sum_t x y).val
theorem ints_sum_ev (ints_far : Int → Bool) (ints_clip : Int → Int) (x : Int) (y : Int) (Q : AV → Prop) : evF Try.prog (mkC [(81, (sumT (aOne (cInt .i64)) fun x => (o1 (cBool)).enc (ints_far x))), (80, (sumT (aOne (cInt .i64)) fun x => (o1 (cInt .i64)).enc (ints_clip x)))]) noL 60 Try.f73 ((aCons (cInt .i64) (aOne (cInt .i64))).enc (x, y)) Q = (ints_sum_T ints_far ints_clip x y).prop (fun x => Q ((o1 (cInt .i64)).enc x)) := by kernel_rfl
theorem ints_sum_c (x : Int × Int) (w : World) (vs : Array Value) (hp : ArgsR ((aCons (cInt .i64) (aOne (cInt .i64))).enc x) w vs) : Calls Try.prog 73 vs w (Ans ((o1 (cInt .i64)).enc (ints_sum x.1 x.2)) w) :=
  contractT mixed (AllGood.cons ints_far_ok (AllGood.cons ints_clip_ok AllGood.nil)) Try.func73 (fun _ _ _ _ => noL_ok) (Tr.safe_of (t := ints_sum_t x.1 x.2) rfl) (ints_sum_ev ints_far ints_clip x.1 x.2) w vs hp
theorem ints_sum_ok : GoodF Try.prog 73 (sumT (aCons (cInt .i64) (aOne (cInt .i64))) fun x => (o1 (cInt .i64)).enc (ints_sum x.1 x.2)) :=
  good_sumT (callable_of Try.func73 (by kernel_rfl) (by kernel_rfl)) ints_sum_c
/-! flyball/ints.hull -/
def ints_hull_T (ints_clip : Int → Int) (lo : Int) (hi : Int) : Tr (I3) :=
  Tr.leaf (I3.mk false (imin (ints_clip lo) 1099511627775) (imax (ints_clip hi) (-1099511627775)))
def ints_hull_t (lo : Int) (hi : Int) : Tr (I3) := ints_hull_T ints_clip lo hi
def ints_hull (lo : Int) (hi : Int) : I3 := (ints_hull_t lo hi).val
theorem ints_hull_ev (ints_clip : Int → Int) (lo : Int) (hi : Int) (Q : AV → Prop) : evF Try.prog (mkC [(80, (sumT (aOne (cInt .i64)) fun x => (o1 (cInt .i64)).enc (ints_clip x)))]) noL 60 Try.f72 ((aCons (cInt .i64) (aOne (cInt .i64))).enc (lo, hi)) Q = (ints_hull_T ints_clip lo hi).prop (fun x => Q ((o1 (cI3)).enc x)) := by kernel_rfl
theorem ints_hull_c (x : Int × Int) (w : World) (vs : Array Value) (hp : ArgsR ((aCons (cInt .i64) (aOne (cInt .i64))).enc x) w vs) : Calls Try.prog 72 vs w (Ans ((o1 (cI3)).enc (ints_hull x.1 x.2)) w) :=
  contractT mixed (AllGood.cons ints_clip_ok AllGood.nil) Try.func72 (fun _ _ _ _ => noL_ok) (Tr.safe_of (t := ints_hull_t x.1 x.2) rfl) (ints_hull_ev ints_clip x.1 x.2) w vs hp
theorem ints_hull_ok : GoodF Try.prog 72 (sumT (aCons (cInt .i64) (aOne (cInt .i64))) fun x => (o1 (cI3)).enc (ints_hull x.1 x.2)) :=
  good_sumT (callable_of Try.func72 (by kernel_rfl) (by kernel_rfl)) ints_hull_c
/-! flyball/ints.Add -/
def ints_Add_T (ints_norm : I3 → I3) (ints_none : I3) (ints_sum : Int → Int → Int) (ints_hull : Int → Int → I3) (a : I3) (b : I3) : Tr (I3) :=
  Tr.br (ints_norm a).e (Tr.leaf ints_none)
    (Tr.br (ints_norm b).e (Tr.leaf ints_none)
      (Tr.leaf (ints_hull (ints_sum (ints_norm a).lo (ints_norm b).lo) (ints_sum (ints_norm a).hi (ints_norm b).hi))))
def ints_Add_t (a : I3) (b : I3) : Tr (I3) := ints_Add_T ints_norm ints_none ints_sum ints_hull a b
def ints_Add (a : I3) (b : I3) : I3 := (ints_Add_t a b).val
theorem ints_Add_ev (ints_norm : I3 → I3) (ints_none : I3) (ints_sum : Int → Int → Int) (ints_hull : Int → Int → I3) (a : I3) (b : I3) (Q : AV → Prop) : evF Try.prog (mkC [(68, (sumT (aOne (cI3)) fun x => (o1 (cI3)).enc (ints_norm x))), (70, (sumT aNil fun _ => (o1 (cI3)).enc (ints_none ))), (73, (sumT (aCons (cInt .i64) (aOne (cInt .i64))) fun x => (o1 (cInt .i64)).enc (ints_sum x.1 x.2))), (72, (sumT (aCons (cInt .i64) (aOne (cInt .i64))) fun x => (o1 (cI3)).enc (ints_hull x.1 x.2)))]) noL 60 Try.f51 ((aCons (cI3) (aOne (cI3))).enc (a, b)) Q = (ints_Add_T ints_norm ints_none ints_sum ints_hull a b).prop (fun x => Q ((o1 (cI3)).enc x)) := by kernel_rfl
theorem ints_Add_c (x : I3 × I3) (w : World) (vs : Array Value) (hp : ArgsR ((aCons (cI3) (aOne (cI3))).enc x) w vs) : Calls Try.prog 51 vs w (Ans ((o1 (cI3)).enc (ints_Add x.1 x.2)) w) :=
  contractT mixed (AllGood.cons ints_norm_ok (AllGood.cons ints_none_ok (AllGood.cons ints_sum_ok (AllGood.cons ints_hull_ok AllGood.nil)))) Try.func51 (fun _ _ _ _ => noL_ok) (Tr.safe_of (t := ints_Add_t x.1 x.2) rfl) (ints_Add_ev ints_norm ints_none ints_sum ints_hull x.1 x.2) w vs hp
theorem ints_Add_ok : GoodF Try.prog 51 (sumT (aCons (cI3) (aOne (cI3))) fun x => (o1 (cI3)).enc (ints_Add x.1 x.2)) :=
  good_sumT (callable_of Try.func51 (by kernel_rfl) (by kernel_rfl)) ints_Add_c
/-! flyball/ints.Sub -/
def ints_Sub_T (ints_Neg : I3 → I3) (ints_Add : I3 → I3 → I3) (a : I3) (b : I3) : Tr (I3) :=
  Tr.leaf (ints_Add a (ints_Neg b))
def ints_Sub_t (a : I3) (b : I3) : Tr (I3) := ints_Sub_T ints_Neg ints_Add a b
def ints_Sub (a : I3) (b : I3) : I3 := (ints_Sub_t a b).val
theorem ints_Sub_ev (ints_Neg : I3 → I3) (ints_Add : I3 → I3 → I3) (a : I3) (b : I3) (Q : AV → Prop) : evF Try.prog (mkC [(48, (sumT (aOne (cI3)) fun x => (o1 (cI3)).enc (ints_Neg x))), (51, (sumT (aCons (cI3) (aOne (cI3))) fun x => (o1 (cI3)).enc (ints_Add x.1 x.2)))]) noL 60 Try.f52 ((aCons (cI3) (aOne (cI3))).enc (a, b)) Q = (ints_Sub_T ints_Neg ints_Add a b).prop (fun x => Q ((o1 (cI3)).enc x)) := by kernel_rfl
theorem ints_Sub_c (x : I3 × I3) (w : World) (vs : Array Value) (hp : ArgsR ((aCons (cI3) (aOne (cI3))).enc x) w vs) : Calls Try.prog 52 vs w (Ans ((o1 (cI3)).enc (ints_Sub x.1 x.2)) w) :=
  contractT mixed (AllGood.cons ints_Neg_ok (AllGood.cons ints_Add_ok AllGood.nil)) Try.func52 (fun _ _ _ _ => noL_ok) (Tr.safe_of (t := ints_Sub_t x.1 x.2) rfl) (ints_Sub_ev ints_Neg ints_Add x.1 x.2) w vs hp
theorem ints_Sub_ok : GoodF Try.prog 52 (sumT (aCons (cI3) (aOne (cI3))) fun x => (o1 (cI3)).enc (ints_Sub x.1 x.2)) :=
  good_sumT (callable_of Try.func52 (by kernel_rfl) (by kernel_rfl)) ints_Sub_c
/-! flyball/ints.abs -/
def ints_abs_T  (n : Int) : Tr (Int) :=
  Tr.leaf (imax n (IntKind.i64.wrap (0 - n)))
def ints_abs_t (n : Int) : Tr (Int) := ints_abs_T  n
def ints_abs (n : Int) : Int := (ints_abs_t n).val
theorem ints_abs_ev  (n : Int) (Q : AV → Prop) : evF Try.prog (mkC []) noL 60 Try.f82 ((aOne (cInt .i64)).enc n) Q = (ints_abs_T  n).prop (fun x => Q ((o1 (cInt .i64)).enc x)) := by kernel_rfl
theorem ints_abs_c (x : Int) (w : World) (vs : Array Value) (hp : ArgsR ((aOne (cInt .i64)).enc x) w vs) : Calls Try.prog 82 vs w (Ans ((o1 (cInt .i64)).enc (ints_abs x)) w) :=
  contractT mixed AllGood.nil Try.func82 (fun _ _ _ _ => noL_ok) (Tr.safe_of (t := ints_abs_t x) rfl) (ints_abs_ev  x) w vs hp
theorem ints_abs_ok : GoodF Try.prog 82 (sumT (aOne (cInt .i64)) fun x => (o1 (cInt .i64)).enc (ints_abs x)) :=
  good_sumT (callable_of Try.func82 (by kernel_rfl) (by kernel_rfl)) ints_abs_c
/-! flyball/ints.times -/
def ints_times_T (ints_abs : Int → Int) (x : Int) (y : Int) : Tr (Int) :=
  Tr.br (x == 0) (Tr.leaf 0)
    (Tr.br (y == 0) (Tr.leaf 0)
      (Tr.ast (!ints_abs y == 0)
        (Tr.br (decide (ints_abs x ≤ IntKind.i64.wrap (Int.tdiv 1099511627776 (ints_abs y))))
          (Tr.leaf (IntKind.i64.wrap (x * y)))
          (Tr.br (!decide (x < 0) == decide (y < 0)) (Tr.leaf (-1099511627776)) (Tr.leaf 1099511627776)))))
def ints_times_t (x : Int) (y : Int) : Tr (Int) := ints_times_T ints_abs x y
def ints_times (x : Int) (y : Int) : Int := (ints_times_t x y).val
theorem ints_times_ev (ints_abs : Int → Int) (x : Int) (y : Int) (Q : AV → Prop) : evF Try.prog (mkC [(82, (sumT (aOne (cInt .i64)) fun x => (o1 (cInt .i64)).enc (ints_abs x)))]) noL 60 Try.f75 ((aCons (cInt .i64) (aOne (cInt .i64))).enc (x, y)) Q = (ints_times_T ints_abs x y).prop (fun x => Q ((o1 (cInt .i64)).enc x)) := by kernel_rfl
def ints_times_s (x : Int) (y : Int) : Bool := (ints_times_t x y).safe
theorem ints_times_c (x : Int × Int) (hs : ints_times_s x.1 x.2 = true) (w : World) (vs : Array Value) (hp : ArgsR ((aCons (cInt .i64) (aOne (cInt .i64))).enc x) w vs) : Calls Try.prog 75 vs w (Ans ((o1 (cInt .i64)).enc (ints_times x.1 x.2)) w) :=
  contractT mixed (AllGood.cons ints_abs_ok AllGood.nil) Try.func75 (fun _ _ _ _ => noL_ok) hs (ints_times_ev ints_abs x.1 x.2) w vs hp
theorem ints_times_ok : GoodF Try.prog 75 (sumOf (aCons (cInt .i64) (aOne (cInt .i64))) (fun x => ints_times_s x.1 x.2) fun x => (o1 (cInt .i64)).enc (ints_times x.1 x.2)) :=
  good_sum (callable_of Try.func75 (by kernel_rfl) (by kernel_rfl)) ints_times_c
/-! flyball/ints.corners -/
def ints_corT_T (ints_hull : Int → Int → I3) (ints_times : Int → Int → Int) (ints_times_s : Int → Int → Bool) (a : I3) (l : Int × Int) (_g : Unit) : Tr (I3) :=
  Tr.ast (ints_times_s a.lo ((to2 l).getD (Int.toNat 0) 0))
    (Tr.ast (ints_times_s a.lo ((to2 l).getD (IntKind.i64.wrap (0 + 1)).toNat 0))
      (Tr.ast (ints_times_s a.hi ((to2 l).getD (Int.toNat 0) 0))
        (Tr.ast (ints_times_s a.hi ((to2 l).getD (IntKind.i64.wrap (0 + 1)).toNat 0))
          (Tr.leaf
            (ints_hull
              (imin
                (imin
                  (imin (imin 1099511627776 (ints_times a.lo ((to2 l).getD (Int.toNat 0) 0)))
                    (ints_times a.lo ((to2 l).getD (IntKind.i64.wrap (0 + 1)).toNat 0)))
                  (ints_times a.hi ((to2 l).getD (Int.toNat 0) 0)))
                (ints_times a.hi ((to2 l).getD (IntKind.i64.wrap (0 + 1)).toNat 0)))
              (imax
                (imax
                  (imax (imax (-1099511627776) (ints_times a.lo ((to2 l).getD (Int.toNat 0) 0)))
                    (ints_times a.lo ((to2 l).getD (IntKind.i64.wrap (0 + 1)).toNat 0)))
                  (ints_times a.hi ((to2 l).getD (Int.toNat 0) 0)))
                (ints_times a.hi ((to2 l).getD (IntKind.i64.wrap (0 + 1)).toNat 0))))))))
def ints_corT_t (a : I3) (l : Int × Int) (g : Unit) : Tr (I3) := ints_corT_T ints_hull ints_times ints_times_s a l g
def ints_corT (a : I3) (l : Int × Int) (g : Unit) : I3 := (ints_corT_t a l g).val
theorem ints_corT_ev (ints_hull : Int → Int → I3) (ints_times : Int → Int → Int) (ints_times_s : Int → Int → Bool) (a : I3) (l : Int × Int) (g : Unit) (Q : AV → Prop) : evF Try.prog (mkC [(72, (sumT (aCons (cInt .i64) (aOne (cInt .i64))) fun x => (o1 (cI3)).enc (ints_hull x.1 x.2))), (75, (sumOf (aCons (cInt .i64) (aOne (cInt .i64))) (fun x => ints_times_s x.1 x.2) fun x => (o1 (cInt .i64)).enc (ints_times x.1 x.2)))]) noL 60 Try.f74 ((aCons (cI3) (aCons (cIntsN .i64 to2 of2 l2) (aOne (cFn 75)))).enc (a, l, g)) Q = (ints_corT_T ints_hull ints_times ints_times_s a l g).prop (fun x => Q ((o1 (cI3)).enc x)) := by kernel_rfl
def ints_corT_s (a : I3) (l : Int × Int) (g : Unit) : Bool := (ints_corT_t a l g).safe
theorem ints_corT_c (x : I3 × (Int × Int) × Unit) (hs : ints_corT_s x.1 x.2.1 x.2.2 = true) (w : World) (vs : Array Value) (hp : ArgsR ((aCons (cI3) (aCons (cIntsN .i64 to2 of2 l2) (aOne (cFn 75)))).enc x) w vs) : Calls Try.prog 74 vs w (Ans ((o1 (cI3)).enc (ints_corT x.1 x.2.1 x.2.2)) w) :=
  contractT mixed (AllGood.cons ints_hull_ok (AllGood.cons ints_times_ok AllGood.nil)) Try.func74 (fun _ _ _ _ => noL_ok) hs (ints_corT_ev ints_hull ints_times ints_times_s x.1 x.2.1 x.2.2) w vs hp
theorem ints_corT_ok : GoodF Try.prog 74 (sumOf (aCons (cI3) (aCons (cIntsN .i64 to2 of2 l2) (aOne (cFn 75)))) (fun x => ints_corT_s x.1 x.2.1 x.2.2) fun x => (o1 (cI3)).enc (ints_corT x.1 x.2.1 x.2.2)) :=
  good_sum (callable_of Try.func74 (by kernel_rfl) (by kernel_rfl)) ints_corT_c
/-! flyball/ints.over -/
def ints_over_T (ints_far : Int → Bool) (x : Int) (y : Int) : Tr (Int) :=
  Tr.br (ints_far x)
    (Tr.br (ints_far y) (Tr.br (!decide (x < 0) == decide (y < 0)) (Tr.leaf (-1099511627776)) (Tr.leaf 1099511627776))
      (Tr.br (ints_far x) (Tr.br (!decide (x < 0) == decide (y < 0)) (Tr.leaf (-1099511627776)) (Tr.leaf 1099511627776))
        (Tr.br (ints_far y) (Tr.leaf 0) (Tr.ast (!y == 0) (Tr.leaf (IntKind.i64.wrap (x.tdiv y)))))))
    (Tr.br (ints_far x) (Tr.br (!decide (x < 0) == decide (y < 0)) (Tr.leaf (-1099511627776)) (Tr.leaf 1099511627776))
      (Tr.br (ints_far y) (Tr.leaf 0) (Tr.ast (!y == 0) (Tr.leaf (IntKind.i64.wrap (x.tdiv y))))))
def ints_over_t (x : Int) (y : Int) : Tr (Int) := ints_over_T ints_far x y
def ints_over (x : Int) (y : Int) : Int := (ints_over_t x y).val
theorem ints_over_ev (ints_far : Int → Bool) (x : Int) (y : Int) (Q : AV → Prop) : evF Try.prog (mkC [(81, (sumT (aOne (cInt .i64)) fun x => (o1 (cBool)).enc (ints_far x)))]) noL 60 Try.f76 ((aCons (cInt .i64) (aOne (cInt .i64))).enc (x, y)) Q = (ints_over_T ints_far x y).prop (fun x => Q ((o1 (cInt .i64)).enc x)) := by kernel_rfl
def ints_over_s (x : Int) (y : Int) : Bool := (ints_over_t x y).safe
theorem ints_over_c (x : Int × Int) (hs : ints_over_s x.1 x.2 = true) (w : World) (vs : Array Value) (hp : ArgsR ((aCons (cInt .i64) (aOne (cInt .i64))).enc x) w vs) : Calls Try.prog 76 vs w (Ans ((o1 (cInt .i64)).enc (ints_over x.1 x.2)) w) :=
  contractT mixed (AllGood.cons ints_far_ok AllGood.nil) Try.func76 (fun _ _ _ _ => noL_ok) hs (ints_over_ev ints_far x.1 x.2) w vs hp
theorem ints_over_ok : GoodF Try.prog 76 (sumOf (aCons (cInt .i64) (aOne (cInt .i64))) (fun x => ints_over_s x.1 x.2) fun x => (o1 (cInt .i64)).enc (ints_over x.1 x.2)) :=
  good_sum (callable_of Try.func76 (by kernel_rfl) (by kernel_rfl)) ints_over_c
/-! flyball/ints.corners -/
def ints_cor1_T (ints_hull : Int → Int → I3) (ints_over : Int → Int → Int) (ints_over_s : Int → Int → Bool) (a : I3) (l : Int) (_g : Unit) : Tr (I3) :=
  Tr.ast (ints_over_s a.lo ((to1 l).getD (Int.toNat 0) 0))
    (Tr.ast (ints_over_s a.hi ((to1 l).getD (Int.toNat 0) 0))
      (Tr.leaf
        (ints_hull
          (imin (imin 1099511627776 (ints_over a.lo ((to1 l).getD (Int.toNat 0) 0)))
            (ints_over a.hi ((to1 l).getD (Int.toNat 0) 0)))
          (imax (imax (-1099511627776) (ints_over a.lo ((to1 l).getD (Int.toNat 0) 0)))
            (ints_over a.hi ((to1 l).getD (Int.toNat 0) 0))))))
def ints_cor1_t (a : I3) (l : Int) (g : Unit) : Tr (I3) := ints_cor1_T ints_hull ints_over ints_over_s a l g
def ints_cor1 (a : I3) (l : Int) (g : Unit) : I3 := (ints_cor1_t a l g).val
theorem ints_cor1_ev (ints_hull : Int → Int → I3) (ints_over : Int → Int → Int) (ints_over_s : Int → Int → Bool) (a : I3) (l : Int) (g : Unit) (Q : AV → Prop) : evF Try.prog (mkC [(72, (sumT (aCons (cInt .i64) (aOne (cInt .i64))) fun x => (o1 (cI3)).enc (ints_hull x.1 x.2))), (76, (sumOf (aCons (cInt .i64) (aOne (cInt .i64))) (fun x => ints_over_s x.1 x.2) fun x => (o1 (cInt .i64)).enc (ints_over x.1 x.2)))]) noL 60 Try.f74 ((aCons (cI3) (aCons (cIntsN .i64 to1 of1 l1) (aOne (cFn 76)))).enc (a, l, g)) Q = (ints_cor1_T ints_hull ints_over ints_over_s a l g).prop (fun x => Q ((o1 (cI3)).enc x)) := by kernel_rfl
def ints_cor1_s (a : I3) (l : Int) (g : Unit) : Bool := (ints_cor1_t a l g).safe
theorem ints_cor1_c (x : I3 × Int × Unit) (hs : ints_cor1_s x.1 x.2.1 x.2.2 = true) (w : World) (vs : Array Value) (hp : ArgsR ((aCons (cI3) (aCons (cIntsN .i64 to1 of1 l1) (aOne (cFn 76)))).enc x) w vs) : Calls Try.prog 74 vs w (Ans ((o1 (cI3)).enc (ints_cor1 x.1 x.2.1 x.2.2)) w) :=
  contractT mixed (AllGood.cons ints_hull_ok (AllGood.cons ints_over_ok AllGood.nil)) Try.func74 (fun _ _ _ _ => noL_ok) hs (ints_cor1_ev ints_hull ints_over ints_over_s x.1 x.2.1 x.2.2) w vs hp
theorem ints_cor1_ok : GoodF Try.prog 74 (sumOf (aCons (cI3) (aCons (cIntsN .i64 to1 of1 l1) (aOne (cFn 76)))) (fun x => ints_cor1_s x.1 x.2.1 x.2.2) fun x => (o1 (cI3)).enc (ints_cor1 x.1 x.2.1 x.2.2)) :=
  good_sum (callable_of Try.func74 (by kernel_rfl) (by kernel_rfl)) ints_cor1_c
/-! flyball/ints.corners -/
def ints_cor2_T (ints_hull : Int → Int → I3) (ints_over : Int → Int → Int) (ints_over_s : Int → Int → Bool) (a : I3) (l : Int × Int) (_g : Unit) : Tr (I3) :=
  Tr.ast (ints_over_s a.lo ((to2 l).getD (Int.toNat 0) 0))
    (Tr.ast (ints_over_s a.lo ((to2 l).getD (IntKind.i64.wrap (0 + 1)).toNat 0))
      (Tr.ast (ints_over_s a.hi ((to2 l).getD (Int.toNat 0) 0))
        (Tr.ast (ints_over_s a.hi ((to2 l).getD (IntKind.i64.wrap (0 + 1)).toNat 0))
          (Tr.leaf
            (ints_hull
              (imin
                (imin
                  (imin (imin 1099511627776 (ints_over a.lo ((to2 l).getD (Int.toNat 0) 0)))
                    (ints_over a.lo ((to2 l).getD (IntKind.i64.wrap (0 + 1)).toNat 0)))
                  (ints_over a.hi ((to2 l).getD (Int.toNat 0) 0)))
                (ints_over a.hi ((to2 l).getD (IntKind.i64.wrap (0 + 1)).toNat 0)))
              (imax
                (imax
                  (imax (imax (-1099511627776) (ints_over a.lo ((to2 l).getD (Int.toNat 0) 0)))
                    (ints_over a.lo ((to2 l).getD (IntKind.i64.wrap (0 + 1)).toNat 0)))
                  (ints_over a.hi ((to2 l).getD (Int.toNat 0) 0)))
                (ints_over a.hi ((to2 l).getD (IntKind.i64.wrap (0 + 1)).toNat 0))))))))
def ints_cor2_t (a : I3) (l : Int × Int) (g : Unit) : Tr (I3) := ints_cor2_T ints_hull ints_over ints_over_s a l g
def ints_cor2 (a : I3) (l : Int × Int) (g : Unit) : I3 := (ints_cor2_t a l g).val
theorem ints_cor2_ev (ints_hull : Int → Int → I3) (ints_over : Int → Int → Int) (ints_over_s : Int → Int → Bool) (a : I3) (l : Int × Int) (g : Unit) (Q : AV → Prop) : evF Try.prog (mkC [(72, (sumT (aCons (cInt .i64) (aOne (cInt .i64))) fun x => (o1 (cI3)).enc (ints_hull x.1 x.2))), (76, (sumOf (aCons (cInt .i64) (aOne (cInt .i64))) (fun x => ints_over_s x.1 x.2) fun x => (o1 (cInt .i64)).enc (ints_over x.1 x.2)))]) noL 60 Try.f74 ((aCons (cI3) (aCons (cIntsN .i64 to2 of2 l2) (aOne (cFn 76)))).enc (a, l, g)) Q = (ints_cor2_T ints_hull ints_over ints_over_s a l g).prop (fun x => Q ((o1 (cI3)).enc x)) := by kernel_rfl
def ints_cor2_s (a : I3) (l : Int × Int) (g : Unit) : Bool := (ints_cor2_t a l g).safe
theorem ints_cor2_c (x : I3 × (Int × Int) × Unit) (hs : ints_cor2_s x.1 x.2.1 x.2.2 = true) (w : World) (vs : Array Value) (hp : ArgsR ((aCons (cI3) (aCons (cIntsN .i64 to2 of2 l2) (aOne (cFn 76)))).enc x) w vs) : Calls Try.prog 74 vs w (Ans ((o1 (cI3)).enc (ints_cor2 x.1 x.2.1 x.2.2)) w) :=
  contractT mixed (AllGood.cons ints_hull_ok (AllGood.cons ints_over_ok AllGood.nil)) Try.func74 (fun _ _ _ _ => noL_ok) hs (ints_cor2_ev ints_hull ints_over ints_over_s x.1 x.2.1 x.2.2) w vs hp
theorem ints_cor2_ok : GoodF Try.prog 74 (sumOf (aCons (cI3) (aCons (cIntsN .i64 to2 of2 l2) (aOne (cFn 76)))) (fun x => ints_cor2_s x.1 x.2.1 x.2.2) fun x => (o1 (cI3)).enc (ints_cor2 x.1 x.2.1 x.2.2)) :=
  good_sum (callable_of Try.func74 (by kernel_rfl) (by kernel_rfl)) ints_cor2_c
/-! flyball/ints.corners -/
def ints_cor3_T (ints_hull : Int → Int → I3) (ints_over : Int → Int → Int) (ints_over_s : Int → Int → Bool) (a : I3) (l : Int × Int × Int) (_g : Unit) : Tr (I3) :=
  Tr.ast (ints_over_s a.lo ((to3 l).getD (Int.toNat 0) 0))
    (Tr.ast (ints_over_s a.lo ((to3 l).getD (IntKind.i64.wrap (0 + 1)).toNat 0))
      (Tr.ast (ints_over_s a.lo ((to3 l).getD (IntKind.i64.wrap (IntKind.i64.wrap (0 + 1) + 1)).toNat 0))
        (Tr.ast (ints_over_s a.hi ((to3 l).getD (Int.toNat 0) 0))
          (Tr.ast (ints_over_s a.hi ((to3 l).getD (IntKind.i64.wrap (0 + 1)).toNat 0))
            (Tr.ast (ints_over_s a.hi ((to3 l).getD (IntKind.i64.wrap (IntKind.i64.wrap (0 + 1) + 1)).toNat 0))
              (Tr.leaf
                (ints_hull
                  (imin
                    (imin
                      (imin
                        (imin
                          (imin (imin 1099511627776 (ints_over a.lo ((to3 l).getD (Int.toNat 0) 0)))
                            (ints_over a.lo ((to3 l).getD (IntKind.i64.wrap (0 + 1)).toNat 0)))
                          (ints_over a.lo ((to3 l).getD (IntKind.i64.wrap (IntKind.i64.wrap (0 + 1) + 1)).toNat 0)))
                        (ints_over a.hi ((to3 l).getD (Int.toNat 0) 0)))
                      (ints_over a.hi ((to3 l).getD (IntKind.i64.wrap (0 + 1)).toNat 0)))
                    (ints_over a.hi ((to3 l).getD (IntKind.i64.wrap (IntKind.i64.wrap (0 + 1) + 1)).toNat 0)))
                  (imax
                    (imax
                      (imax
                        (imax
                          (imax (imax (-1099511627776) (ints_over a.lo ((to3 l).getD (Int.toNat 0) 0)))
                            (ints_over a.lo ((to3 l).getD (IntKind.i64.wrap (0 + 1)).toNat 0)))
                          (ints_over a.lo ((to3 l).getD (IntKind.i64.wrap (IntKind.i64.wrap (0 + 1) + 1)).toNat 0)))
                        (ints_over a.hi ((to3 l).getD (Int.toNat 0) 0)))
                      (ints_over a.hi ((to3 l).getD (IntKind.i64.wrap (0 + 1)).toNat 0)))
                    (ints_over a.hi ((to3 l).getD (IntKind.i64.wrap (IntKind.i64.wrap (0 + 1) + 1)).toNat 0))))))))))
def ints_cor3_t (a : I3) (l : Int × Int × Int) (g : Unit) : Tr (I3) := ints_cor3_T ints_hull ints_over ints_over_s a l g
def ints_cor3 (a : I3) (l : Int × Int × Int) (g : Unit) : I3 := (ints_cor3_t a l g).val
theorem ints_cor3_ev (ints_hull : Int → Int → I3) (ints_over : Int → Int → Int) (ints_over_s : Int → Int → Bool) (a : I3) (l : Int × Int × Int) (g : Unit) (Q : AV → Prop) : evF Try.prog (mkC [(72, (sumT (aCons (cInt .i64) (aOne (cInt .i64))) fun x => (o1 (cI3)).enc (ints_hull x.1 x.2))), (76, (sumOf (aCons (cInt .i64) (aOne (cInt .i64))) (fun x => ints_over_s x.1 x.2) fun x => (o1 (cInt .i64)).enc (ints_over x.1 x.2)))]) noL 60 Try.f74 ((aCons (cI3) (aCons (cIntsN .i64 to3 of3 l3) (aOne (cFn 76)))).enc (a, l, g)) Q = (ints_cor3_T ints_hull ints_over ints_over_s a l g).prop (fun x => Q ((o1 (cI3)).enc x)) := by kernel_rfl
def ints_cor3_s (a : I3) (l : Int × Int × Int) (g : Unit) : Bool := (ints_cor3_t a l g).safe
theorem ints_cor3_c (x : I3 × (Int × Int × Int) × Unit) (hs : ints_cor3_s x.1 x.2.1 x.2.2 = true) (w : World) (vs : Array Value) (hp : ArgsR ((aCons (cI3) (aCons (cIntsN .i64 to3 of3 l3) (aOne (cFn 76)))).enc x) w vs) : Calls Try.prog 74 vs w (Ans ((o1 (cI3)).enc (ints_cor3 x.1 x.2.1 x.2.2)) w) :=
  contractT mixed (AllGood.cons ints_hull_ok (AllGood.cons ints_over_ok AllGood.nil)) Try.func74 (fun _ _ _ _ => noL_ok) hs (ints_cor3_ev ints_hull ints_over ints_over_s x.1 x.2.1 x.2.2) w vs hp
theorem ints_cor3_ok : GoodF Try.prog 74 (sumOf (aCons (cI3) (aCons (cIntsN .i64 to3 of3 l3) (aOne (cFn 76)))) (fun x => ints_cor3_s x.1 x.2.1 x.2.2) fun x => (o1 (cI3)).enc (ints_cor3 x.1 x.2.1 x.2.2)) :=
  good_sum (callable_of Try.func74 (by kernel_rfl) (by kernel_rfl)) ints_cor3_c
/-! flyball/ints.corners -/
def ints_cor4_T (ints_hull : Int → Int → I3) (ints_over : Int → Int → Int) (ints_over_s : Int → Int → Bool) (a : I3) (l : Int × Int × Int × Int) (_g : Unit) : Tr (I3) :=
  Tr.ast (ints_over_s a.lo ((to4 l).getD (Int.toNat 0) 0))
    (Tr.ast (ints_over_s a.lo ((to4 l).getD (IntKind.i64.wrap (0 + 1)).toNat 0))
      (Tr.ast (ints_over_s a.lo ((to4 l).getD (IntKind.i64.wrap (IntKind.i64.wrap (0 + 1) + 1)).toNat 0))
        (Tr.ast
          (ints_over_s a.lo
            ((to4 l).getD (IntKind.i64.wrap (IntKind.i64.wrap (IntKind.i64.wrap (0 + 1) + 1) + 1)).toNat 0))
          (Tr.ast (ints_over_s a.hi ((to4 l).getD (Int.toNat 0) 0))
            (Tr.ast (ints_over_s a.hi ((to4 l).getD (IntKind.i64.wrap (0 + 1)).toNat 0))
              (Tr.ast (ints_over_s a.hi ((to4 l).getD (IntKind.i64.wrap (IntKind.i64.wrap (0 + 1) + 1)).toNat 0))
                (Tr.ast
                  (ints_over_s a.hi
                    ((to4 l).getD (IntKind.i64.wrap (IntKind.i64.wrap (IntKind.i64.wrap (0 + 1) + 1) + 1)).toNat 0))
                  (Tr.leaf
                    (ints_hull
                      (imin
                        (imin
                          (imin
                            (imin
                              (imin
                                (imin
                                  (imin (imin 1099511627776 (ints_over a.lo ((to4 l).getD (Int.toNat 0) 0)))
                                    (ints_over a.lo ((to4 l).getD (IntKind.i64.wrap (0 + 1)).toNat 0)))
                                  (ints_over a.lo
                                    ((to4 l).getD (IntKind.i64.wrap (IntKind.i64.wrap (0 + 1) + 1)).toNat 0)))
                                (ints_over a.lo
                                  ((to4 l).getD
                                    (IntKind.i64.wrap (IntKind.i64.wrap (IntKind.i64.wrap (0 + 1) + 1) + 1)).toNat 0)))
                              (ints_over a.hi ((to4 l).getD (Int.toNat 0) 0)))
                            (ints_over a.hi ((to4 l).getD (IntKind.i64.wrap (0 + 1)).toNat 0)))
                          (ints_over a.hi ((to4 l).getD (IntKind.i64.wrap (IntKind.i64.wrap (0 + 1) + 1)).toNat 0)))
                        (ints_over a.hi
                          ((to4 l).getD (IntKind.i64.wrap (IntKind.i64.wrap (IntKind.i64.wrap (0 + 1) + 1) + 1)).toNat
                            0)))
                      (imax
                        (imax
                          (imax
                            (imax
                              (imax
                                (imax
                                  (imax (imax (-1099511627776) (ints_over a.lo ((to4 l).getD (Int.toNat 0) 0)))
                                    (ints_over a.lo ((to4 l).getD (IntKind.i64.wrap (0 + 1)).toNat 0)))
                                  (ints_over a.lo
                                    ((to4 l).getD (IntKind.i64.wrap (IntKind.i64.wrap (0 + 1) + 1)).toNat 0)))
                                (ints_over a.lo
                                  ((to4 l).getD
                                    (IntKind.i64.wrap (IntKind.i64.wrap (IntKind.i64.wrap (0 + 1) + 1) + 1)).toNat 0)))
                              (ints_over a.hi ((to4 l).getD (Int.toNat 0) 0)))
                            (ints_over a.hi ((to4 l).getD (IntKind.i64.wrap (0 + 1)).toNat 0)))
                          (ints_over a.hi ((to4 l).getD (IntKind.i64.wrap (IntKind.i64.wrap (0 + 1) + 1)).toNat 0)))
                        (ints_over a.hi
                          ((to4 l).getD (IntKind.i64.wrap (IntKind.i64.wrap (IntKind.i64.wrap (0 + 1) + 1) + 1)).toNat
                            0))))))))))))
def ints_cor4_t (a : I3) (l : Int × Int × Int × Int) (g : Unit) : Tr (I3) := ints_cor4_T ints_hull ints_over ints_over_s a l g
def ints_cor4 (a : I3) (l : Int × Int × Int × Int) (g : Unit) : I3 := (ints_cor4_t a l g).val
theorem ints_cor4_ev (ints_hull : Int → Int → I3) (ints_over : Int → Int → Int) (ints_over_s : Int → Int → Bool) (a : I3) (l : Int × Int × Int × Int) (g : Unit) (Q : AV → Prop) : evF Try.prog (mkC [(72, (sumT (aCons (cInt .i64) (aOne (cInt .i64))) fun x => (o1 (cI3)).enc (ints_hull x.1 x.2))), (76, (sumOf (aCons (cInt .i64) (aOne (cInt .i64))) (fun x => ints_over_s x.1 x.2) fun x => (o1 (cInt .i64)).enc (ints_over x.1 x.2)))]) noL 60 Try.f74 ((aCons (cI3) (aCons (cIntsN .i64 to4 of4 l4) (aOne (cFn 76)))).enc (a, l, g)) Q = (ints_cor4_T ints_hull ints_over ints_over_s a l g).prop (fun x => Q ((o1 (cI3)).enc x)) := by kernel_rfl
def ints_cor4_s (a : I3) (l : Int × Int × Int × Int) (g : Unit) : Bool := (ints_cor4_t a l g).safe
theorem ints_cor4_c (x : I3 × (Int × Int × Int × Int) × Unit) (hs : ints_cor4_s x.1 x.2.1 x.2.2 = true) (w : World) (vs : Array Value) (hp : ArgsR ((aCons (cI3) (aCons (cIntsN .i64 to4 of4 l4) (aOne (cFn 76)))).enc x) w vs) : Calls Try.prog 74 vs w (Ans ((o1 (cI3)).enc (ints_cor4 x.1 x.2.1 x.2.2)) w) :=
  contractT mixed (AllGood.cons ints_hull_ok (AllGood.cons ints_over_ok AllGood.nil)) Try.func74 (fun _ _ _ _ => noL_ok) hs (ints_cor4_ev ints_hull ints_over ints_over_s x.1 x.2.1 x.2.2) w vs hp
theorem ints_cor4_ok : GoodF Try.prog 74 (sumOf (aCons (cI3) (aCons (cIntsN .i64 to4 of4 l4) (aOne (cFn 76)))) (fun x => ints_cor4_s x.1 x.2.1 x.2.2) fun x => (o1 (cI3)).enc (ints_cor4 x.1 x.2.1 x.2.2)) :=
  good_sum (callable_of Try.func74 (by kernel_rfl) (by kernel_rfl)) ints_cor4_c
end Go.Proofs.Ytfbpklopnnnniaa
