/- Contracts and laws of functions of the program, on the way to the claim. Conditions: as each theorem states. -/
import Derived.Test.YtfbpklopnnnniaaS1l
namespace Go.Proofs.Ytfbpklopnnnniaa
open Go.Ev Go.Fb


/-! flyball/clock.norm -/
def clock_norm_T (ints_Join1 : I3 → I3) (c : CK) : Tr (CK) :=
  Tr.br (ints_Join1 c.d).e (Tr.leaf (CK.mk (I3.mk true 0 0) (I3.mk true 0 0)))
    (Tr.br (ints_Join1 c.p).e (Tr.leaf (CK.mk (I3.mk true 0 0) (I3.mk true 0 0)))
      (Tr.leaf (CK.mk (ints_Join1 c.d) (ints_Join1 c.p))))
def clock_norm_t (c : CK) : Tr (CK) := clock_norm_T ints_Join1 c
def clock_norm (c : CK) : CK := (clock_norm_t c).val
theorem clock_norm_ev (ints_Join2 : (I3 × I3) → I3) (ints_Join1 : I3 → I3) (ints_Join0 : Unit → I3) (c : CK) (Q : AV → Prop) : evF Try.prog (mkC [(43, (orS (sumT (aOne (cLit ecI3 to2 of2 l2)) fun x => (o1 (cI3)).enc (ints_Join2 x)) (orS (sumT (aOne (cLit ecI3 to1 of1 l1)) fun x => (o1 (cI3)).enc (ints_Join1 x)) (sumT (aOne (cLit ecI3 to0 of0 l0)) fun x => (o1 (cI3)).enc (ints_Join0 x)))))]) noL 60 Try.f61 ((aOne (cCK)).enc c) Q = (clock_norm_T ints_Join1 c).prop (fun x => Q ((o1 (cCK)).enc x)) := by kernel_rfl
theorem clock_norm_c (x : CK) (w : World) (vs : Array Value) (hp : ArgsR ((aOne (cCK)).enc x) w vs) : Calls Try.prog 61 vs w (Ans ((o1 (cCK)).enc (clock_norm x)) w) :=
  contractT mixed (AllGood.cons (good_or ints_Join2_ok (good_or ints_Join1_ok ints_Join0_ok)) AllGood.nil) Try.func61 (fun _ _ _ _ => noL_ok) (Tr.safe_of (t := clock_norm_t x) rfl) (clock_norm_ev ints_Join2 ints_Join1 ints_Join0 x) w vs hp
theorem clock_norm_ok : GoodF Try.prog 61 (sumT (aOne (cCK)) fun x => (o1 (cCK)).enc (clock_norm x)) :=
  good_sumT (callable_of Try.func61 (by kernel_rfl) (by kernel_rfl)) clock_norm_c
/-! flyball/clock.All -/
def clock_All_T (ints_Make : Int → Int → I3)  : Tr (CK) :=
  Tr.leaf (CK.mk (ints_Make (-1099511627776) 1099511627776) (ints_Make (-1099511627776) 1099511627776))
def clock_All_t  : Tr (CK) := clock_All_T ints_Make 
def clock_All  : CK := (clock_All_t ).val
theorem clock_All_ev (ints_Make : Int → Int → I3)  (Q : AV → Prop) : evF Try.prog (mkC [(37, (sumT (aCons (cInt .i64) (aOne (cInt .i64))) fun x => (o1 (cI3)).enc (ints_Make x.1 x.2)))]) noL 60 Try.f59 (aNil.enc ()) Q = (clock_All_T ints_Make ).prop (fun x => Q ((o1 (cCK)).enc x)) := by kernel_rfl
theorem clock_All_c (x : Unit) (w : World) (vs : Array Value) (hp : ArgsR (aNil.enc x) w vs) : Calls Try.prog 59 vs w (Ans ((o1 (cCK)).enc (clock_All )) w) :=
  contractT mixed (AllGood.cons ints_Make_ok AllGood.nil) Try.func59 (fun _ _ _ _ => noL_ok) (Tr.safe_of (t := clock_All_t ) rfl) (clock_All_ev ints_Make ) w vs hp
theorem clock_All_ok : GoodF Try.prog 59 (sumT aNil fun _ => (o1 (cCK)).enc (clock_All )) :=
  good_sumT (callable_of Try.func59 (by kernel_rfl) (by kernel_rfl)) clock_All_c
/-! flyball/clock.Of -/
def clock_Of_T (ints_Sub : I3 → I3 → I3) (ints_Add : I3 → I3 → I3) (clock_norm : CK → CK) (v : I3) (k : I3) : Tr (CK) :=
  Tr.leaf (clock_norm (CK.mk (ints_Sub v k) (ints_Add v k)))
def clock_Of_t (v : I3) (k : I3) : Tr (CK) := clock_Of_T ints_Sub ints_Add clock_norm v k
def clock_Of (v : I3) (k : I3) : CK := (clock_Of_t v k).val
theorem clock_Of_ev (ints_Sub : I3 → I3 → I3) (ints_Add : I3 → I3 → I3) (clock_norm : CK → CK) (v : I3) (k : I3) (Q : AV → Prop) : evF Try.prog (mkC [(52, (sumT (aCons (cI3) (aOne (cI3))) fun x => (o1 (cI3)).enc (ints_Sub x.1 x.2))), (51, (sumT (aCons (cI3) (aOne (cI3))) fun x => (o1 (cI3)).enc (ints_Add x.1 x.2))), (61, (sumT (aOne (cCK)) fun x => (o1 (cCK)).enc (clock_norm x)))]) noL 60 Try.f15 ((aCons (cI3) (aOne (cI3))).enc (v, k)) Q = (clock_Of_T ints_Sub ints_Add clock_norm v k).prop (fun x => Q ((o1 (cCK)).enc x)) := by kernel_rfl
theorem clock_Of_c (x : I3 × I3) (w : World) (vs : Array Value) (hp : ArgsR ((aCons (cI3) (aOne (cI3))).enc x) w vs) : Calls Try.prog 15 vs w (Ans ((o1 (cCK)).enc (clock_Of x.1 x.2)) w) :=
  contractT mixed (AllGood.cons ints_Sub_ok (AllGood.cons ints_Add_ok (AllGood.cons clock_norm_ok AllGood.nil))) Try.func15 (fun _ _ _ _ => noL_ok) (Tr.safe_of (t := clock_Of_t x.1 x.2) rfl) (clock_Of_ev ints_Sub ints_Add clock_norm x.1 x.2) w vs hp
theorem clock_Of_ok : GoodF Try.prog 15 (sumT (aCons (cI3) (aOne (cI3))) fun x => (o1 (cCK)).enc (clock_Of x.1 x.2)) :=
  good_sumT (callable_of Try.func15 (by kernel_rfl) (by kernel_rfl)) clock_Of_c
/-! flyball/clock.Join$1 -/
def clock_JoinF_T (ints_Join2 : (I3 × I3) → I3) (a : I3) (b : I3) : Tr (I3) :=
  Tr.leaf (ints_Join2 (a, b))
def clock_JoinF_t (a : I3) (b : I3) : Tr (I3) := clock_JoinF_T ints_Join2 a b
def clock_JoinF (a : I3) (b : I3) : I3 := (clock_JoinF_t a b).val
theorem clock_JoinF_ev (ints_Join2 : (I3 × I3) → I3) (ints_Join1 : I3 → I3) (ints_Join0 : Unit → I3) (a : I3) (b : I3) (Q : AV → Prop) : evF Try.prog (mkC [(43, (orS (sumT (aOne (cLit ecI3 to2 of2 l2)) fun x => (o1 (cI3)).enc (ints_Join2 x)) (orS (sumT (aOne (cLit ecI3 to1 of1 l1)) fun x => (o1 (cI3)).enc (ints_Join1 x)) (sumT (aOne (cLit ecI3 to0 of0 l0)) fun x => (o1 (cI3)).enc (ints_Join0 x)))))]) noL 60 Try.f66 ((aCons (cI3) (aOne (cI3))).enc (a, b)) Q = (clock_JoinF_T ints_Join2 a b).prop (fun x => Q ((o1 (cI3)).enc x)) := by kernel_rfl
theorem clock_JoinF_c (x : I3 × I3) (w : World) (vs : Array Value) (hp : ArgsR ((aCons (cI3) (aOne (cI3))).enc x) w vs) : Calls Try.prog 66 vs w (Ans ((o1 (cI3)).enc (clock_JoinF x.1 x.2)) w) :=
  contractT mixed (AllGood.cons (good_or ints_Join2_ok (good_or ints_Join1_ok ints_Join0_ok)) AllGood.nil) Try.func66 (fun _ _ _ _ => noL_ok) (Tr.safe_of (t := clock_JoinF_t x.1 x.2) rfl) (clock_JoinF_ev ints_Join2 ints_Join1 ints_Join0 x.1 x.2) w vs hp
theorem clock_JoinF_ok : GoodF Try.prog 66 (sumT (aCons (cI3) (aOne (cI3))) fun x => (o1 (cI3)).enc (clock_JoinF x.1 x.2)) :=
  good_sumT (callable_of Try.func66 (by kernel_rfl) (by kernel_rfl)) clock_JoinF_c
/-! flyball/clock.Widen$1 -/
def clock_WidenF_T (ints_Widen : I3 → I3 → (List Int) → I3) (ints_Widen_s : I3 → I3 → (List Int) → Bool) (a : I3) (b : I3) (steps : List Int) : Tr (I3) :=
  Tr.ast (ints_Widen_s a b steps) (Tr.leaf (ints_Widen a b steps))
def clock_WidenF_t (a : I3) (b : I3) (steps : List Int) : Tr (I3) := clock_WidenF_T ints_Widen ints_Widen_s a b steps
def clock_WidenF (a : I3) (b : I3) (steps : List Int) : I3 := (clock_WidenF_t a b steps).val
theorem clock_WidenF_ev (ints_Widen : I3 → I3 → (List Int) → I3) (ints_Widen_s : I3 → I3 → (List Int) → Bool) (a : I3) (b : I3) (steps : List Int) (Q : AV → Prop) : evF Try.prog (mkC [(57, (sumOf (aCons (cI3) (aCons (cI3) (aOne (cInts .i64)))) (fun x => ints_Widen_s x.1 x.2.1 x.2.2) fun x => (o1 (cI3)).enc (ints_Widen x.1 x.2.1 x.2.2)))]) noL 60 Try.f67 ((aCons (cI3) (aCons (cI3) (aOne (cPv .i64)))).enc (a, b, steps)) Q = (clock_WidenF_T ints_Widen ints_Widen_s a b steps).prop (fun x => Q ((o1 (cI3)).enc x)) := by kernel_rfl
def clock_WidenF_s (a : I3) (b : I3) (steps : List Int) : Bool := (clock_WidenF_t a b steps).safe
theorem clock_WidenF_c (x : I3 × I3 × (List Int)) (hs : clock_WidenF_s x.1 x.2.1 x.2.2 = true) (w : World) (vs : Array Value) (hp : ArgsR ((aCons (cI3) (aCons (cI3) (aOne (cPv .i64)))).enc x) w vs) : Calls Try.prog 67 vs w (Ans ((o1 (cI3)).enc (clock_WidenF x.1 x.2.1 x.2.2)) w) :=
  contractT mixed (AllGood.cons ints_Widen_ok AllGood.nil) Try.func67 (fun _ _ _ _ => noL_ok) hs (clock_WidenF_ev ints_Widen ints_Widen_s x.1 x.2.1 x.2.2) w vs hp
theorem clock_WidenF_ok : GoodF Try.prog 67 (sumOf (aCons (cI3) (aCons (cI3) (aOne (cPv .i64)))) (fun x => clock_WidenF_s x.1 x.2.1 x.2.2) fun x => (o1 (cI3)).enc (clock_WidenF x.1 x.2.1 x.2.2)) :=
  good_sum (callable_of Try.func67 (by kernel_rfl) (by kernel_rfl)) clock_WidenF_c
/-! flyball/clock.both -/
def clock_bothA_T (clock_norm : CK → CK) (ints_Add : I3 → I3 → I3) (a : CK) (b : CK) (_g : Unit) : Tr (CK) :=
  Tr.leaf (clock_norm (CK.mk (ints_Add (clock_norm a).d (clock_norm b).d) (ints_Add (clock_norm a).p (clock_norm b).p)))
def clock_bothA_t (a : CK) (b : CK) (g : Unit) : Tr (CK) := clock_bothA_T clock_norm ints_Add a b g
def clock_bothA (a : CK) (b : CK) (g : Unit) : CK := (clock_bothA_t a b g).val
theorem clock_bothA_ev (clock_norm : CK → CK) (ints_Add : I3 → I3 → I3) (a : CK) (b : CK) (g : Unit) (Q : AV → Prop) : evF Try.prog (mkC [(61, (sumT (aOne (cCK)) fun x => (o1 (cCK)).enc (clock_norm x))), (51, (sumT (aCons (cI3) (aOne (cI3))) fun x => (o1 (cI3)).enc (ints_Add x.1 x.2)))]) noL 60 Try.f65 ((aCons (cCK) (aCons (cCK) (aOne (cFn 51)))).enc (a, b, g)) Q = (clock_bothA_T clock_norm ints_Add a b g).prop (fun x => Q ((o1 (cCK)).enc x)) := by kernel_rfl
theorem clock_bothA_c (x : CK × CK × Unit) (w : World) (vs : Array Value) (hp : ArgsR ((aCons (cCK) (aCons (cCK) (aOne (cFn 51)))).enc x) w vs) : Calls Try.prog 65 vs w (Ans ((o1 (cCK)).enc (clock_bothA x.1 x.2.1 x.2.2)) w) :=
  contractT mixed (AllGood.cons clock_norm_ok (AllGood.cons ints_Add_ok AllGood.nil)) Try.func65 (fun _ _ _ _ => noL_ok) (Tr.safe_of (t := clock_bothA_t x.1 x.2.1 x.2.2) rfl) (clock_bothA_ev clock_norm ints_Add x.1 x.2.1 x.2.2) w vs hp
theorem clock_bothA_ok : GoodF Try.prog 65 (sumT (aCons (cCK) (aCons (cCK) (aOne (cFn 51)))) fun x => (o1 (cCK)).enc (clock_bothA x.1 x.2.1 x.2.2)) :=
  good_sumT (callable_of Try.func65 (by kernel_rfl) (by kernel_rfl)) clock_bothA_c
/-! flyball/clock.both -/
def clock_bothM_T (clock_norm : CK → CK) (ints_Meet : I3 → I3 → I3) (a : CK) (b : CK) (_g : Unit) : Tr (CK) :=
  Tr.leaf (clock_norm (CK.mk (ints_Meet (clock_norm a).d (clock_norm b).d) (ints_Meet (clock_norm a).p (clock_norm b).p)))
def clock_bothM_t (a : CK) (b : CK) (g : Unit) : Tr (CK) := clock_bothM_T clock_norm ints_Meet a b g
def clock_bothM (a : CK) (b : CK) (g : Unit) : CK := (clock_bothM_t a b g).val
theorem clock_bothM_ev (clock_norm : CK → CK) (ints_Meet : I3 → I3 → I3) (a : CK) (b : CK) (g : Unit) (Q : AV → Prop) : evF Try.prog (mkC [(61, (sumT (aOne (cCK)) fun x => (o1 (cCK)).enc (clock_norm x))), (45, (sumT (aCons (cI3) (aOne (cI3))) fun x => (o1 (cI3)).enc (ints_Meet x.1 x.2)))]) noL 60 Try.f65 ((aCons (cCK) (aCons (cCK) (aOne (cFn 45)))).enc (a, b, g)) Q = (clock_bothM_T clock_norm ints_Meet a b g).prop (fun x => Q ((o1 (cCK)).enc x)) := by kernel_rfl
theorem clock_bothM_c (x : CK × CK × Unit) (w : World) (vs : Array Value) (hp : ArgsR ((aCons (cCK) (aCons (cCK) (aOne (cFn 45)))).enc x) w vs) : Calls Try.prog 65 vs w (Ans ((o1 (cCK)).enc (clock_bothM x.1 x.2.1 x.2.2)) w) :=
  contractT mixed (AllGood.cons clock_norm_ok (AllGood.cons ints_Meet_ok AllGood.nil)) Try.func65 (fun _ _ _ _ => noL_ok) (Tr.safe_of (t := clock_bothM_t x.1 x.2.1 x.2.2) rfl) (clock_bothM_ev clock_norm ints_Meet x.1 x.2.1 x.2.2) w vs hp
theorem clock_bothM_ok : GoodF Try.prog 65 (sumT (aCons (cCK) (aCons (cCK) (aOne (cFn 45)))) fun x => (o1 (cCK)).enc (clock_bothM x.1 x.2.1 x.2.2)) :=
  good_sumT (callable_of Try.func65 (by kernel_rfl) (by kernel_rfl)) clock_bothM_c
/-! flyball/clock.both -/
def clock_bothJ_T (clock_norm : CK → CK) (clock_JoinF : I3 → I3 → I3) (a : CK) (b : CK) (_g : Unit) : Tr (CK) :=
  Tr.leaf
    (clock_norm (CK.mk (clock_JoinF (clock_norm a).d (clock_norm b).d) (clock_JoinF (clock_norm a).p (clock_norm b).p)))
def clock_bothJ_t (a : CK) (b : CK) (g : Unit) : Tr (CK) := clock_bothJ_T clock_norm clock_JoinF a b g
def clock_bothJ (a : CK) (b : CK) (g : Unit) : CK := (clock_bothJ_t a b g).val
theorem clock_bothJ_ev (clock_norm : CK → CK) (clock_JoinF : I3 → I3 → I3) (a : CK) (b : CK) (g : Unit) (Q : AV → Prop) : evF Try.prog (mkC [(61, (sumT (aOne (cCK)) fun x => (o1 (cCK)).enc (clock_norm x))), (66, (sumT (aCons (cI3) (aOne (cI3))) fun x => (o1 (cI3)).enc (clock_JoinF x.1 x.2)))]) noL 60 Try.f65 ((aCons (cCK) (aCons (cCK) (aOne (cFn 66)))).enc (a, b, g)) Q = (clock_bothJ_T clock_norm clock_JoinF a b g).prop (fun x => Q ((o1 (cCK)).enc x)) := by kernel_rfl
theorem clock_bothJ_c (x : CK × CK × Unit) (w : World) (vs : Array Value) (hp : ArgsR ((aCons (cCK) (aCons (cCK) (aOne (cFn 66)))).enc x) w vs) : Calls Try.prog 65 vs w (Ans ((o1 (cCK)).enc (clock_bothJ x.1 x.2.1 x.2.2)) w) :=
  contractT mixed (AllGood.cons clock_norm_ok (AllGood.cons clock_JoinF_ok AllGood.nil)) Try.func65 (fun _ _ _ _ => noL_ok) (Tr.safe_of (t := clock_bothJ_t x.1 x.2.1 x.2.2) rfl) (clock_bothJ_ev clock_norm clock_JoinF x.1 x.2.1 x.2.2) w vs hp
theorem clock_bothJ_ok : GoodF Try.prog 65 (sumT (aCons (cCK) (aCons (cCK) (aOne (cFn 66)))) fun x => (o1 (cCK)).enc (clock_bothJ x.1 x.2.1 x.2.2)) :=
  good_sumT (callable_of Try.func65 (by kernel_rfl) (by kernel_rfl)) clock_bothJ_c
/-! flyball/clock.both -/
def clock_bothW_T (clock_norm : CK → CK) (clock_WidenF : I3 → I3 → (List Int) → I3) (clock_WidenF_s : I3 → I3 → (List Int) → Bool) (a : CK) (b : CK) (g : List Int) : Tr (CK) :=
  Tr.ast (clock_WidenF_s (clock_norm a).d (clock_norm b).d g)
    (Tr.ast (clock_WidenF_s (clock_norm a).p (clock_norm b).p g)
      (Tr.leaf
        (clock_norm
          (CK.mk (clock_WidenF (clock_norm a).d (clock_norm b).d g) (clock_WidenF (clock_norm a).p (clock_norm b).p g)))))
def clock_bothW_t (a : CK) (b : CK) (g : List Int) : Tr (CK) := clock_bothW_T clock_norm clock_WidenF clock_WidenF_s a b g
def clock_bothW (a : CK) (b : CK) (g : List Int) : CK := (clock_bothW_t a b g).val
theorem clock_bothW_ev (clock_norm : CK → CK) (clock_WidenF : I3 → I3 → (List Int) → I3) (clock_WidenF_s : I3 → I3 → (List Int) → Bool) (a : CK) (b : CK) (g : List Int) (Q : AV → Prop) : evF Try.prog (mkC [(61, (sumT (aOne (cCK)) fun x => (o1 (cCK)).enc (clock_norm x))), (67, (sumOf (aCons (cI3) (aCons (cI3) (aOne (cPv .i64)))) (fun x => clock_WidenF_s x.1 x.2.1 x.2.2) fun x => (o1 (cI3)).enc (clock_WidenF x.1 x.2.1 x.2.2)))]) noL 60 Try.f65 ((aCons (cCK) (aCons (cCK) (aOne (cClo .i64 67)))).enc (a, b, g)) Q = (clock_bothW_T clock_norm clock_WidenF clock_WidenF_s a b g).prop (fun x => Q ((o1 (cCK)).enc x)) := by kernel_rfl
def clock_bothW_s (a : CK) (b : CK) (g : List Int) : Bool := (clock_bothW_t a b g).safe
theorem clock_bothW_c (x : CK × CK × (List Int)) (hs : clock_bothW_s x.1 x.2.1 x.2.2 = true) (w : World) (vs : Array Value) (hp : ArgsR ((aCons (cCK) (aCons (cCK) (aOne (cClo .i64 67)))).enc x) w vs) : Calls Try.prog 65 vs w (Ans ((o1 (cCK)).enc (clock_bothW x.1 x.2.1 x.2.2)) w) :=
  contractT mixed (AllGood.cons clock_norm_ok (AllGood.cons clock_WidenF_ok AllGood.nil)) Try.func65 (fun _ _ _ _ => noL_ok) hs (clock_bothW_ev clock_norm clock_WidenF clock_WidenF_s x.1 x.2.1 x.2.2) w vs hp
theorem clock_bothW_ok : GoodF Try.prog 65 (sumOf (aCons (cCK) (aCons (cCK) (aOne (cClo .i64 67)))) (fun x => clock_bothW_s x.1 x.2.1 x.2.2) fun x => (o1 (cCK)).enc (clock_bothW x.1 x.2.1 x.2.2)) :=
  good_sum (callable_of Try.func65 (by kernel_rfl) (by kernel_rfl)) clock_bothW_c
/-! flyball/clock.Move -/
def clock_Move_T (clock_bothA : CK → CK → Unit → CK) (c : CK) (v : I3) : Tr (CK) :=
  Tr.leaf (clock_bothA c (CK.mk v v) ())
def clock_Move_t (c : CK) (v : I3) : Tr (CK) := clock_Move_T clock_bothA c v
def clock_Move (c : CK) (v : I3) : CK := (clock_Move_t c v).val
theorem clock_Move_ev (clock_bothW : CK → CK → (List Int) → CK) (clock_bothW_s : CK → CK → (List Int) → Bool) (clock_bothJ : CK → CK → Unit → CK) (clock_bothM : CK → CK → Unit → CK) (clock_bothA : CK → CK → Unit → CK) (ints_Add : I3 → I3 → I3) (c : CK) (v : I3) (Q : AV → Prop) : evF Try.prog (mkC [(65, (orS (sumOf (aCons (cCK) (aCons (cCK) (aOne (cClo .i64 67)))) (fun x => clock_bothW_s x.1 x.2.1 x.2.2) fun x => (o1 (cCK)).enc (clock_bothW x.1 x.2.1 x.2.2)) (orS (sumT (aCons (cCK) (aCons (cCK) (aOne (cFn 66)))) fun x => (o1 (cCK)).enc (clock_bothJ x.1 x.2.1 x.2.2)) (orS (sumT (aCons (cCK) (aCons (cCK) (aOne (cFn 45)))) fun x => (o1 (cCK)).enc (clock_bothM x.1 x.2.1 x.2.2)) (sumT (aCons (cCK) (aCons (cCK) (aOne (cFn 51)))) fun x => (o1 (cCK)).enc (clock_bothA x.1 x.2.1 x.2.2)))))), (51, (sumT (aCons (cI3) (aOne (cI3))) fun x => (o1 (cI3)).enc (ints_Add x.1 x.2)))]) noL 60 Try.f17 ((aCons (cCK) (aOne (cI3))).enc (c, v)) Q = (clock_Move_T clock_bothA c v).prop (fun x => Q ((o1 (cCK)).enc x)) := by kernel_rfl
theorem clock_Move_c (x : CK × I3) (w : World) (vs : Array Value) (hp : ArgsR ((aCons (cCK) (aOne (cI3))).enc x) w vs) : Calls Try.prog 17 vs w (Ans ((o1 (cCK)).enc (clock_Move x.1 x.2)) w) :=
  contractT mixed (AllGood.cons (good_or clock_bothW_ok (good_or clock_bothJ_ok (good_or clock_bothM_ok clock_bothA_ok))) (AllGood.cons ints_Add_ok AllGood.nil)) Try.func17 (fun _ _ _ _ => noL_ok) (Tr.safe_of (t := clock_Move_t x.1 x.2) rfl) (clock_Move_ev clock_bothW clock_bothW_s clock_bothJ clock_bothM clock_bothA ints_Add x.1 x.2) w vs hp
theorem clock_Move_ok : GoodF Try.prog 17 (sumT (aCons (cCK) (aOne (cI3))) fun x => (o1 (cCK)).enc (clock_Move x.1 x.2)) :=
  good_sumT (callable_of Try.func17 (by kernel_rfl) (by kernel_rfl)) clock_Move_c
/-! flyball/clock.Tick -/
def clock_Tick_T (ints_Point : Int → I3) (clock_bothA : CK → CK → Unit → CK) (c : CK) : Tr (CK) :=
  Tr.leaf (clock_bothA c (CK.mk (ints_Point (-1)) (ints_Point 1)) ())
def clock_Tick_t (c : CK) : Tr (CK) := clock_Tick_T ints_Point clock_bothA c
def clock_Tick (c : CK) : CK := (clock_Tick_t c).val
theorem clock_Tick_ev (ints_Point : Int → I3) (clock_bothW : CK → CK → (List Int) → CK) (clock_bothW_s : CK → CK → (List Int) → Bool) (clock_bothJ : CK → CK → Unit → CK) (clock_bothM : CK → CK → Unit → CK) (clock_bothA : CK → CK → Unit → CK) (ints_Add : I3 → I3 → I3) (c : CK) (Q : AV → Prop) : evF Try.prog (mkC [(35, (sumT (aOne (cInt .i64)) fun x => (o1 (cI3)).enc (ints_Point x))), (65, (orS (sumOf (aCons (cCK) (aCons (cCK) (aOne (cClo .i64 67)))) (fun x => clock_bothW_s x.1 x.2.1 x.2.2) fun x => (o1 (cCK)).enc (clock_bothW x.1 x.2.1 x.2.2)) (orS (sumT (aCons (cCK) (aCons (cCK) (aOne (cFn 66)))) fun x => (o1 (cCK)).enc (clock_bothJ x.1 x.2.1 x.2.2)) (orS (sumT (aCons (cCK) (aCons (cCK) (aOne (cFn 45)))) fun x => (o1 (cCK)).enc (clock_bothM x.1 x.2.1 x.2.2)) (sumT (aCons (cCK) (aCons (cCK) (aOne (cFn 51)))) fun x => (o1 (cCK)).enc (clock_bothA x.1 x.2.1 x.2.2)))))), (51, (sumT (aCons (cI3) (aOne (cI3))) fun x => (o1 (cI3)).enc (ints_Add x.1 x.2)))]) noL 60 Try.f20 ((aOne (cCK)).enc c) Q = (clock_Tick_T ints_Point clock_bothA c).prop (fun x => Q ((o1 (cCK)).enc x)) := by kernel_rfl
theorem clock_Tick_c (x : CK) (w : World) (vs : Array Value) (hp : ArgsR ((aOne (cCK)).enc x) w vs) : Calls Try.prog 20 vs w (Ans ((o1 (cCK)).enc (clock_Tick x)) w) :=
  contractT mixed (AllGood.cons ints_Point_ok (AllGood.cons (good_or clock_bothW_ok (good_or clock_bothJ_ok (good_or clock_bothM_ok clock_bothA_ok))) (AllGood.cons ints_Add_ok AllGood.nil))) Try.func20 (fun _ _ _ _ => noL_ok) (Tr.safe_of (t := clock_Tick_t x) rfl) (clock_Tick_ev ints_Point clock_bothW clock_bothW_s clock_bothJ clock_bothM clock_bothA ints_Add x) w vs hp
theorem clock_Tick_ok : GoodF Try.prog 20 (sumT (aOne (cCK)) fun x => (o1 (cCK)).enc (clock_Tick x)) :=
  good_sumT (callable_of Try.func20 (by kernel_rfl) (by kernel_rfl)) clock_Tick_c
/-! flyball/clock.Reduce -/
def clock_Reduce_T (clock_norm : CK → CK) (ints_Add : I3 → I3 → I3) (ints_Meet : I3 → I3 → I3) (ints_Sub : I3 → I3 → I3) (v : I3) (c : CK) (k : I3) : Tr (I3) :=
  Tr.leaf (ints_Meet (ints_Meet v (ints_Add (clock_norm c).d k)) (ints_Sub (clock_norm c).p k))
def clock_Reduce_t (v : I3) (c : CK) (k : I3) : Tr (I3) := clock_Reduce_T clock_norm ints_Add ints_Meet ints_Sub v c k
def clock_Reduce (v : I3) (c : CK) (k : I3) : I3 := (clock_Reduce_t v c k).val
theorem clock_Reduce_ev (clock_norm : CK → CK) (ints_Add : I3 → I3 → I3) (ints_Meet : I3 → I3 → I3) (ints_Sub : I3 → I3 → I3) (v : I3) (c : CK) (k : I3) (Q : AV → Prop) : evF Try.prog (mkC [(61, (sumT (aOne (cCK)) fun x => (o1 (cCK)).enc (clock_norm x))), (51, (sumT (aCons (cI3) (aOne (cI3))) fun x => (o1 (cI3)).enc (ints_Add x.1 x.2))), (45, (sumT (aCons (cI3) (aOne (cI3))) fun x => (o1 (cI3)).enc (ints_Meet x.1 x.2))), (52, (sumT (aCons (cI3) (aOne (cI3))) fun x => (o1 (cI3)).enc (ints_Sub x.1 x.2)))]) noL 60 Try.f24 ((aCons (cI3) (aCons (cCK) (aOne (cI3)))).enc (v, c, k)) Q = (clock_Reduce_T clock_norm ints_Add ints_Meet ints_Sub v c k).prop (fun x => Q ((o1 (cI3)).enc x)) := by kernel_rfl
theorem clock_Reduce_c (x : I3 × CK × I3) (w : World) (vs : Array Value) (hp : ArgsR ((aCons (cI3) (aCons (cCK) (aOne (cI3)))).enc x) w vs) : Calls Try.prog 24 vs w (Ans ((o1 (cI3)).enc (clock_Reduce x.1 x.2.1 x.2.2)) w) :=
  contractT mixed (AllGood.cons clock_norm_ok (AllGood.cons ints_Add_ok (AllGood.cons ints_Meet_ok (AllGood.cons ints_Sub_ok AllGood.nil)))) Try.func24 (fun _ _ _ _ => noL_ok) (Tr.safe_of (t := clock_Reduce_t x.1 x.2.1 x.2.2) rfl) (clock_Reduce_ev clock_norm ints_Add ints_Meet ints_Sub x.1 x.2.1 x.2.2) w vs hp
theorem clock_Reduce_ok : GoodF Try.prog 24 (sumT (aCons (cI3) (aCons (cCK) (aOne (cI3)))) fun x => (o1 (cI3)).enc (clock_Reduce x.1 x.2.1 x.2.2)) :=
  good_sumT (callable_of Try.func24 (by kernel_rfl) (by kernel_rfl)) clock_Reduce_c
/-! flyball/clock.Meet -/
def clock_Meet_T (clock_bothM : CK → CK → Unit → CK) (a : CK) (b : CK) : Tr (CK) :=
  Tr.leaf (clock_bothM a b ())
def clock_Meet_t (a : CK) (b : CK) : Tr (CK) := clock_Meet_T clock_bothM a b
def clock_Meet (a : CK) (b : CK) : CK := (clock_Meet_t a b).val
theorem clock_Meet_ev (clock_bothW : CK → CK → (List Int) → CK) (clock_bothW_s : CK → CK → (List Int) → Bool) (clock_bothJ : CK → CK → Unit → CK) (clock_bothM : CK → CK → Unit → CK) (clock_bothA : CK → CK → Unit → CK) (ints_Meet : I3 → I3 → I3) (a : CK) (b : CK) (Q : AV → Prop) : evF Try.prog (mkC [(65, (orS (sumOf (aCons (cCK) (aCons (cCK) (aOne (cClo .i64 67)))) (fun x => clock_bothW_s x.1 x.2.1 x.2.2) fun x => (o1 (cCK)).enc (clock_bothW x.1 x.2.1 x.2.2)) (orS (sumT (aCons (cCK) (aCons (cCK) (aOne (cFn 66)))) fun x => (o1 (cCK)).enc (clock_bothJ x.1 x.2.1 x.2.2)) (orS (sumT (aCons (cCK) (aCons (cCK) (aOne (cFn 45)))) fun x => (o1 (cCK)).enc (clock_bothM x.1 x.2.1 x.2.2)) (sumT (aCons (cCK) (aCons (cCK) (aOne (cFn 51)))) fun x => (o1 (cCK)).enc (clock_bothA x.1 x.2.1 x.2.2)))))), (45, (sumT (aCons (cI3) (aOne (cI3))) fun x => (o1 (cI3)).enc (ints_Meet x.1 x.2)))]) noL 60 Try.f28 ((aCons (cCK) (aOne (cCK))).enc (a, b)) Q = (clock_Meet_T clock_bothM a b).prop (fun x => Q ((o1 (cCK)).enc x)) := by kernel_rfl
theorem clock_Meet_c (x : CK × CK) (w : World) (vs : Array Value) (hp : ArgsR ((aCons (cCK) (aOne (cCK))).enc x) w vs) : Calls Try.prog 28 vs w (Ans ((o1 (cCK)).enc (clock_Meet x.1 x.2)) w) :=
  contractT mixed (AllGood.cons (good_or clock_bothW_ok (good_or clock_bothJ_ok (good_or clock_bothM_ok clock_bothA_ok))) (AllGood.cons ints_Meet_ok AllGood.nil)) Try.func28 (fun _ _ _ _ => noL_ok) (Tr.safe_of (t := clock_Meet_t x.1 x.2) rfl) (clock_Meet_ev clock_bothW clock_bothW_s clock_bothJ clock_bothM clock_bothA ints_Meet x.1 x.2) w vs hp
theorem clock_Meet_ok : GoodF Try.prog 28 (sumT (aCons (cCK) (aOne (cCK))) fun x => (o1 (cCK)).enc (clock_Meet x.1 x.2)) :=
  good_sumT (callable_of Try.func28 (by kernel_rfl) (by kernel_rfl)) clock_Meet_c
/-! flyball/clock.Tight -/
def clock_Tight_T (clock_Of : I3 → I3 → CK) (clock_Meet : CK → CK → CK) (c : CK) (v : I3) (k : I3) : Tr (CK) :=
  Tr.leaf (clock_Meet c (clock_Of v k))
def clock_Tight_t (c : CK) (v : I3) (k : I3) : Tr (CK) := clock_Tight_T clock_Of clock_Meet c v k
def clock_Tight (c : CK) (v : I3) (k : I3) : CK := (clock_Tight_t c v k).val
theorem clock_Tight_ev (clock_Of : I3 → I3 → CK) (clock_Meet : CK → CK → CK) (c : CK) (v : I3) (k : I3) (Q : AV → Prop) : evF Try.prog (mkC [(15, (sumT (aCons (cI3) (aOne (cI3))) fun x => (o1 (cCK)).enc (clock_Of x.1 x.2))), (28, (sumT (aCons (cCK) (aOne (cCK))) fun x => (o1 (cCK)).enc (clock_Meet x.1 x.2)))]) noL 60 Try.f22 ((aCons (cCK) (aCons (cI3) (aOne (cI3)))).enc (c, v, k)) Q = (clock_Tight_T clock_Of clock_Meet c v k).prop (fun x => Q ((o1 (cCK)).enc x)) := by kernel_rfl
theorem clock_Tight_c (x : CK × I3 × I3) (w : World) (vs : Array Value) (hp : ArgsR ((aCons (cCK) (aCons (cI3) (aOne (cI3)))).enc x) w vs) : Calls Try.prog 22 vs w (Ans ((o1 (cCK)).enc (clock_Tight x.1 x.2.1 x.2.2)) w) :=
  contractT mixed (AllGood.cons clock_Of_ok (AllGood.cons clock_Meet_ok AllGood.nil)) Try.func22 (fun _ _ _ _ => noL_ok) (Tr.safe_of (t := clock_Tight_t x.1 x.2.1 x.2.2) rfl) (clock_Tight_ev clock_Of clock_Meet x.1 x.2.1 x.2.2) w vs hp
theorem clock_Tight_ok : GoodF Try.prog 22 (sumT (aCons (cCK) (aCons (cI3) (aOne (cI3)))) fun x => (o1 (cCK)).enc (clock_Tight x.1 x.2.1 x.2.2)) :=
  good_sumT (callable_of Try.func22 (by kernel_rfl) (by kernel_rfl)) clock_Tight_c
/-! flyball/clock.Join -/
def clock_Join_T (clock_bothJ : CK → CK → Unit → CK) (a : CK) (b : CK) : Tr (CK) :=
  Tr.leaf (clock_bothJ a b ())
def clock_Join_t (a : CK) (b : CK) : Tr (CK) := clock_Join_T clock_bothJ a b
def clock_Join (a : CK) (b : CK) : CK := (clock_Join_t a b).val
theorem clock_Join_ev (clock_bothW : CK → CK → (List Int) → CK) (clock_bothW_s : CK → CK → (List Int) → Bool) (clock_bothJ : CK → CK → Unit → CK) (clock_bothM : CK → CK → Unit → CK) (clock_bothA : CK → CK → Unit → CK) (clock_JoinF : I3 → I3 → I3) (a : CK) (b : CK) (Q : AV → Prop) : evF Try.prog (mkC [(65, (orS (sumOf (aCons (cCK) (aCons (cCK) (aOne (cClo .i64 67)))) (fun x => clock_bothW_s x.1 x.2.1 x.2.2) fun x => (o1 (cCK)).enc (clock_bothW x.1 x.2.1 x.2.2)) (orS (sumT (aCons (cCK) (aCons (cCK) (aOne (cFn 66)))) fun x => (o1 (cCK)).enc (clock_bothJ x.1 x.2.1 x.2.2)) (orS (sumT (aCons (cCK) (aCons (cCK) (aOne (cFn 45)))) fun x => (o1 (cCK)).enc (clock_bothM x.1 x.2.1 x.2.2)) (sumT (aCons (cCK) (aCons (cCK) (aOne (cFn 51)))) fun x => (o1 (cCK)).enc (clock_bothA x.1 x.2.1 x.2.2)))))), (66, (sumT (aCons (cI3) (aOne (cI3))) fun x => (o1 (cI3)).enc (clock_JoinF x.1 x.2)))]) noL 60 Try.f26 ((aCons (cCK) (aOne (cCK))).enc (a, b)) Q = (clock_Join_T clock_bothJ a b).prop (fun x => Q ((o1 (cCK)).enc x)) := by kernel_rfl
theorem clock_Join_c (x : CK × CK) (w : World) (vs : Array Value) (hp : ArgsR ((aCons (cCK) (aOne (cCK))).enc x) w vs) : Calls Try.prog 26 vs w (Ans ((o1 (cCK)).enc (clock_Join x.1 x.2)) w) :=
  contractT mixed (AllGood.cons (good_or clock_bothW_ok (good_or clock_bothJ_ok (good_or clock_bothM_ok clock_bothA_ok))) (AllGood.cons clock_JoinF_ok AllGood.nil)) Try.func26 (fun _ _ _ _ => noL_ok) (Tr.safe_of (t := clock_Join_t x.1 x.2) rfl) (clock_Join_ev clock_bothW clock_bothW_s clock_bothJ clock_bothM clock_bothA clock_JoinF x.1 x.2) w vs hp
theorem clock_Join_ok : GoodF Try.prog 26 (sumT (aCons (cCK) (aOne (cCK))) fun x => (o1 (cCK)).enc (clock_Join x.1 x.2)) :=
  good_sumT (callable_of Try.func26 (by kernel_rfl) (by kernel_rfl)) clock_Join_c
/-! flyball/clock.Widen -/
def clock_Widen_T (clock_bothW : CK → CK → (List Int) → CK) (clock_bothW_s : CK → CK → (List Int) → Bool) (a : CK) (b : CK) (steps : List Int) : Tr (CK) :=
  Tr.ast (clock_bothW_s a b steps) (Tr.leaf (clock_bothW a b steps))
def clock_Widen_t (a : CK) (b : CK) (steps : List Int) : Tr (CK) := clock_Widen_T clock_bothW clock_bothW_s a b steps
def clock_Widen (a : CK) (b : CK) (steps : List Int) : CK := (clock_Widen_t a b steps).val
theorem clock_Widen_ev (clock_WidenF : I3 → I3 → (List Int) → I3) (clock_WidenF_s : I3 → I3 → (List Int) → Bool) (clock_bothW : CK → CK → (List Int) → CK) (clock_bothW_s : CK → CK → (List Int) → Bool) (clock_bothJ : CK → CK → Unit → CK) (clock_bothM : CK → CK → Unit → CK) (clock_bothA : CK → CK → Unit → CK) (a : CK) (b : CK) (steps : List Int) (Q : AV → Prop) : evF Try.prog (mkC [(67, (sumOf (aCons (cI3) (aCons (cI3) (aOne (cPv .i64)))) (fun x => clock_WidenF_s x.1 x.2.1 x.2.2) fun x => (o1 (cI3)).enc (clock_WidenF x.1 x.2.1 x.2.2))), (65, (orS (sumOf (aCons (cCK) (aCons (cCK) (aOne (cClo .i64 67)))) (fun x => clock_bothW_s x.1 x.2.1 x.2.2) fun x => (o1 (cCK)).enc (clock_bothW x.1 x.2.1 x.2.2)) (orS (sumT (aCons (cCK) (aCons (cCK) (aOne (cFn 66)))) fun x => (o1 (cCK)).enc (clock_bothJ x.1 x.2.1 x.2.2)) (orS (sumT (aCons (cCK) (aCons (cCK) (aOne (cFn 45)))) fun x => (o1 (cCK)).enc (clock_bothM x.1 x.2.1 x.2.2)) (sumT (aCons (cCK) (aCons (cCK) (aOne (cFn 51)))) fun x => (o1 (cCK)).enc (clock_bothA x.1 x.2.1 x.2.2))))))]) noL 60 Try.f29 ((aCons (cCK) (aCons (cCK) (aOne (cInts .i64)))).enc (a, b, steps)) Q = (clock_Widen_T clock_bothW clock_bothW_s a b steps).prop (fun x => Q ((o1 (cCK)).enc x)) := by kernel_rfl
def clock_Widen_s (a : CK) (b : CK) (steps : List Int) : Bool := (clock_Widen_t a b steps).safe
theorem clock_Widen_c (x : CK × CK × (List Int)) (hs : clock_Widen_s x.1 x.2.1 x.2.2 = true) (w : World) (vs : Array Value) (hp : ArgsR ((aCons (cCK) (aCons (cCK) (aOne (cInts .i64)))).enc x) w vs) : Calls Try.prog 29 vs w (Ans ((o1 (cCK)).enc (clock_Widen x.1 x.2.1 x.2.2)) w) :=
  contractT mixed (AllGood.cons clock_WidenF_ok (AllGood.cons (good_or clock_bothW_ok (good_or clock_bothJ_ok (good_or clock_bothM_ok clock_bothA_ok))) AllGood.nil)) Try.func29 (fun _ _ _ _ => noL_ok) hs (clock_Widen_ev clock_WidenF clock_WidenF_s clock_bothW clock_bothW_s clock_bothJ clock_bothM clock_bothA x.1 x.2.1 x.2.2) w vs hp
theorem clock_Widen_ok : GoodF Try.prog 29 (sumOf (aCons (cCK) (aCons (cCK) (aOne (cInts .i64)))) (fun x => clock_Widen_s x.1 x.2.1 x.2.2) fun x => (o1 (cCK)).enc (clock_Widen x.1 x.2.1 x.2.2)) :=
  good_sum (callable_of Try.func29 (by kernel_rfl) (by kernel_rfl)) clock_Widen_c
/-! flyball/clock.Inside -/
def clock_Inside_T (clock_norm : CK → CK) (ints_Inside : I3 → I3 → Bool) (a : CK) (b : CK) : Tr (Bool) :=
  Tr.br (ints_Inside (clock_norm a).d (clock_norm b).d) (Tr.leaf (ints_Inside (clock_norm a).p (clock_norm b).p))
    (Tr.leaf false)
def clock_Inside_t (a : CK) (b : CK) : Tr (Bool) := clock_Inside_T clock_norm ints_Inside a b
def clock_Inside (a : CK) (b : CK) : Bool := (clock_Inside_t a b).val
theorem clock_Inside_ev (clock_norm : CK → CK) (ints_Inside : I3 → I3 → Bool) (a : CK) (b : CK) (Q : AV → Prop) : evF Try.prog (mkC [(61, (sumT (aOne (cCK)) fun x => (o1 (cCK)).enc (clock_norm x))), (41, (sumT (aCons (cI3) (aOne (cI3))) fun x => (o1 (cBool)).enc (ints_Inside x.1 x.2)))]) noL 60 Try.f31 ((aCons (cCK) (aOne (cCK))).enc (a, b)) Q = (clock_Inside_T clock_norm ints_Inside a b).prop (fun x => Q ((o1 (cBool)).enc x)) := by kernel_rfl
theorem clock_Inside_c (x : CK × CK) (w : World) (vs : Array Value) (hp : ArgsR ((aCons (cCK) (aOne (cCK))).enc x) w vs) : Calls Try.prog 31 vs w (Ans ((o1 (cBool)).enc (clock_Inside x.1 x.2)) w) :=
  contractT mixed (AllGood.cons clock_norm_ok (AllGood.cons ints_Inside_ok AllGood.nil)) Try.func31 (fun _ _ _ _ => noL_ok) (Tr.safe_of (t := clock_Inside_t x.1 x.2) rfl) (clock_Inside_ev clock_norm ints_Inside x.1 x.2) w vs hp
theorem clock_Inside_ok : GoodF Try.prog 31 (sumT (aCons (cCK) (aOne (cCK))) fun x => (o1 (cBool)).enc (clock_Inside x.1 x.2)) :=
  good_sumT (callable_of Try.func31 (by kernel_rfl) (by kernel_rfl)) clock_Inside_c
/-! flyball/clock.Has -/
def clock_Has_T (clock_norm : CK → CK) (ints_Has : I3 → Int → Bool) (c : CK) (v : Int) (k : Int) : Tr (Bool) :=
  Tr.br (decide (imin v k < -2199023255552)) (Tr.leaf false)
    (Tr.br (decide (imax v k > 2199023255552)) (Tr.leaf false)
      (Tr.br (ints_Has (clock_norm c).d (IntKind.i64.wrap (v - k)))
        (Tr.leaf (ints_Has (clock_norm c).p (IntKind.i64.wrap (v + k)))) (Tr.leaf false)))
def clock_Has_t (c : CK) (v : Int) (k : Int) : Tr (Bool) := clock_Has_T clock_norm ints_Has c v k
def clock_Has (c : CK) (v : Int) (k : Int) : Bool := (clock_Has_t c v k).val
theorem clock_Has_ev (clock_norm : CK → CK) (ints_Has : I3 → Int → Bool) (c : CK) (v : Int) (k : Int) (Q : AV → Prop) : evF Try.prog (mkC [(61, (sumT (aOne (cCK)) fun x => (o1 (cCK)).enc (clock_norm x))), (36, (sumT (aCons (cI3) (aOne (cInt .i64))) fun x => (o1 (cBool)).enc (ints_Has x.1 x.2)))]) noL 60 Try.f33 ((aCons (cCK) (aCons (cInt .i64) (aOne (cInt .i64)))).enc (c, v, k)) Q = (clock_Has_T clock_norm ints_Has c v k).prop (fun x => Q ((o1 (cBool)).enc x)) := by kernel_rfl
theorem clock_Has_c (x : CK × Int × Int) (w : World) (vs : Array Value) (hp : ArgsR ((aCons (cCK) (aCons (cInt .i64) (aOne (cInt .i64)))).enc x) w vs) : Calls Try.prog 33 vs w (Ans ((o1 (cBool)).enc (clock_Has x.1 x.2.1 x.2.2)) w) :=
  contractT mixed (AllGood.cons clock_norm_ok (AllGood.cons ints_Has_ok AllGood.nil)) Try.func33 (fun _ _ _ _ => noL_ok) (Tr.safe_of (t := clock_Has_t x.1 x.2.1 x.2.2) rfl) (clock_Has_ev clock_norm ints_Has x.1 x.2.1 x.2.2) w vs hp
theorem clock_Has_ok : GoodF Try.prog 33 (sumT (aCons (cCK) (aCons (cInt .i64) (aOne (cInt .i64)))) fun x => (o1 (cBool)).enc (clock_Has x.1 x.2.1 x.2.2)) :=
  good_sumT (callable_of Try.func33 (by kernel_rfl) (by kernel_rfl)) clock_Has_c
/-! flyball/flyballref21.Norm -/
def ref21_Norm_T (ref_Norm : I3 → I3) (c : CK) : Tr (CK) :=
  Tr.br (ref_Norm c.d).e (Tr.leaf (CK.mk (I3.mk true 0 0) (I3.mk true 0 0)))
    (Tr.br (ref_Norm c.p).e (Tr.leaf (CK.mk (I3.mk true 0 0) (I3.mk true 0 0)))
      (Tr.leaf (CK.mk (ref_Norm c.d) (ref_Norm c.p))))
def ref21_Norm_t (c : CK) : Tr (CK) := ref21_Norm_T ref_Norm c
def ref21_Norm (c : CK) : CK := (ref21_Norm_t c).val
theorem ref21_Norm_ev (ref_Norm : I3 → I3) (c : CK) (Q : AV → Prop) : evF Try.prog (mkC [(39, (sumT (aOne (cI3)) fun x => (o1 (cI3)).enc (ref_Norm x)))]) noL 60 Try.f62 ((aOne (cCK)).enc c) Q = (ref21_Norm_T ref_Norm c).prop (fun x => Q ((o1 (cCK)).enc x)) := by kernel_rfl
theorem ref21_Norm_c (x : CK) (w : World) (vs : Array Value) (hp : ArgsR ((aOne (cCK)).enc x) w vs) : Calls Try.prog 62 vs w (Ans ((o1 (cCK)).enc (ref21_Norm x)) w) :=
  contractT mixed (AllGood.cons ref_Norm_ok AllGood.nil) Try.func62 (fun _ _ _ _ => noL_ok) (Tr.safe_of (t := ref21_Norm_t x) rfl) (ref21_Norm_ev ref_Norm x) w vs hp
theorem ref21_Norm_ok : GoodF Try.prog 62 (sumT (aOne (cCK)) fun x => (o1 (cCK)).enc (ref21_Norm x)) :=
  good_sumT (callable_of Try.func62 (by kernel_rfl) (by kernel_rfl)) ref21_Norm_c
/-! flyball/flyballref21.end -/
def ref21_end_T  (x : Int) (y : Int) : Tr (Int) :=
  Tr.br (decide (x ≤ -1099511627776)) (Tr.leaf x)
    (Tr.br (decide (x ≥ 1099511627776)) (Tr.leaf x)
      (Tr.br (decide (y ≤ -1099511627776)) (Tr.leaf y)
        (Tr.br (decide (y ≥ 1099511627776)) (Tr.leaf y)
          (Tr.leaf (imax (imin (IntKind.i64.wrap (x + y)) 1099511627776) (-1099511627776))))))
def ref21_end_t (x : Int) (y : Int) : Tr (Int) := ref21_end_T  x y
def ref21_end (x : Int) (y : Int) : Int := (ref21_end_t x y).val
theorem ref21_end_ev  (x : Int) (y : Int) (Q : AV → Prop) : evF Try.prog (mkC []) noL 60 Try.f77 ((aCons (cInt .i64) (aOne (cInt .i64))).enc (x, y)) Q = (ref21_end_T  x y).prop (fun x => Q ((o1 (cInt .i64)).enc x)) := by kernel_rfl
theorem ref21_end_c (x : Int × Int) (w : World) (vs : Array Value) (hp : ArgsR ((aCons (cInt .i64) (aOne (cInt .i64))).enc x) w vs) : Calls Try.prog 77 vs w (Ans ((o1 (cInt .i64)).enc (ref21_end x.1 x.2)) w) :=
  contractT mixed AllGood.nil Try.func77 (fun _ _ _ _ => noL_ok) (Tr.safe_of (t := ref21_end_t x.1 x.2) rfl) (ref21_end_ev  x.1 x.2) w vs hp
theorem ref21_end_ok : GoodF Try.prog 77 (sumT (aCons (cInt .i64) (aOne (cInt .i64))) fun x => (o1 (cInt .i64)).enc (ref21_end x.1 x.2)) :=
  good_sumT (callable_of Try.func77 (by kernel_rfl) (by kernel_rfl)) ref21_end_c
/-! flyball/flyballref21.Add -/
def ref21_Add_T (ref_Norm : I3 → I3) (ref21_end : Int → Int → Int) (a : I3) (b : I3) : Tr (I3) :=
  Tr.br (ref_Norm a).e (Tr.leaf (I3.mk true 0 0))
    (Tr.br (ref_Norm b).e (Tr.leaf (I3.mk true 0 0))
      (Tr.leaf
        (I3.mk false (imin (ref21_end (ref_Norm a).lo (ref_Norm b).lo) 1099511627775)
          (imax (ref21_end (ref_Norm a).hi (ref_Norm b).hi) (-1099511627775)))))
def ref21_Add_t (a : I3) (b : I3) : Tr (I3) := ref21_Add_T ref_Norm ref21_end a b
def ref21_Add (a : I3) (b : I3) : I3 := (ref21_Add_t a b).val
theorem ref21_Add_ev (ref_Norm : I3 → I3) (ref21_end : Int → Int → Int) (a : I3) (b : I3) (Q : AV → Prop) : evF Try.prog (mkC [(39, (sumT (aOne (cI3)) fun x => (o1 (cI3)).enc (ref_Norm x))), (77, (sumT (aCons (cInt .i64) (aOne (cInt .i64))) fun x => (o1 (cInt .i64)).enc (ref21_end x.1 x.2)))]) noL 60 Try.f63 ((aCons (cI3) (aOne (cI3))).enc (a, b)) Q = (ref21_Add_T ref_Norm ref21_end a b).prop (fun x => Q ((o1 (cI3)).enc x)) := by kernel_rfl
theorem ref21_Add_c (x : I3 × I3) (w : World) (vs : Array Value) (hp : ArgsR ((aCons (cI3) (aOne (cI3))).enc x) w vs) : Calls Try.prog 63 vs w (Ans ((o1 (cI3)).enc (ref21_Add x.1 x.2)) w) :=
  contractT mixed (AllGood.cons ref_Norm_ok (AllGood.cons ref21_end_ok AllGood.nil)) Try.func63 (fun _ _ _ _ => noL_ok) (Tr.safe_of (t := ref21_Add_t x.1 x.2) rfl) (ref21_Add_ev ref_Norm ref21_end x.1 x.2) w vs hp
theorem ref21_Add_ok : GoodF Try.prog 63 (sumT (aCons (cI3) (aOne (cI3))) fun x => (o1 (cI3)).enc (ref21_Add x.1 x.2)) :=
  good_sumT (callable_of Try.func63 (by kernel_rfl) (by kernel_rfl)) ref21_Add_c
/-! flyball/flyballref21.Neg -/
def ref21_Neg_T (ref_Norm : I3 → I3) (a : I3) : Tr (I3) :=
  Tr.br (ref_Norm a).e (Tr.leaf (ref_Norm a))
    (Tr.leaf (I3.mk false (IntKind.i64.wrap (0 - (ref_Norm a).hi)) (IntKind.i64.wrap (0 - (ref_Norm a).lo))))
def ref21_Neg_t (a : I3) : Tr (I3) := ref21_Neg_T ref_Norm a
def ref21_Neg (a : I3) : I3 := (ref21_Neg_t a).val
theorem ref21_Neg_ev (ref_Norm : I3 → I3) (a : I3) (Q : AV → Prop) : evF Try.prog (mkC [(39, (sumT (aOne (cI3)) fun x => (o1 (cI3)).enc (ref_Norm x)))]) noL 60 Try.f64 ((aOne (cI3)).enc a) Q = (ref21_Neg_T ref_Norm a).prop (fun x => Q ((o1 (cI3)).enc x)) := by kernel_rfl
theorem ref21_Neg_c (x : I3) (w : World) (vs : Array Value) (hp : ArgsR ((aOne (cI3)).enc x) w vs) : Calls Try.prog 64 vs w (Ans ((o1 (cI3)).enc (ref21_Neg x)) w) :=
  contractT mixed (AllGood.cons ref_Norm_ok AllGood.nil) Try.func64 (fun _ _ _ _ => noL_ok) (Tr.safe_of (t := ref21_Neg_t x) rfl) (ref21_Neg_ev ref_Norm x) w vs hp
theorem ref21_Neg_ok : GoodF Try.prog 64 (sumT (aOne (cI3)) fun x => (o1 (cI3)).enc (ref21_Neg x)) :=
  good_sumT (callable_of Try.func64 (by kernel_rfl) (by kernel_rfl)) ref21_Neg_c
/-! flyball/flyballref21.Of -/
def ref21_Of_T (ref21_Neg : I3 → I3) (ref21_Add : I3 → I3 → I3) (ref21_Norm : CK → CK) (v : I3) (k : I3) : Tr (CK) :=
  Tr.leaf (ref21_Norm (CK.mk (ref21_Add v (ref21_Neg k)) (ref21_Add v k)))
def ref21_Of_t (v : I3) (k : I3) : Tr (CK) := ref21_Of_T ref21_Neg ref21_Add ref21_Norm v k
def ref21_Of (v : I3) (k : I3) : CK := (ref21_Of_t v k).val
theorem ref21_Of_ev (ref21_Neg : I3 → I3) (ref21_Add : I3 → I3 → I3) (ref21_Norm : CK → CK) (v : I3) (k : I3) (Q : AV → Prop) : evF Try.prog (mkC [(64, (sumT (aOne (cI3)) fun x => (o1 (cI3)).enc (ref21_Neg x))), (63, (sumT (aCons (cI3) (aOne (cI3))) fun x => (o1 (cI3)).enc (ref21_Add x.1 x.2))), (62, (sumT (aOne (cCK)) fun x => (o1 (cCK)).enc (ref21_Norm x)))]) noL 60 Try.f16 ((aCons (cI3) (aOne (cI3))).enc (v, k)) Q = (ref21_Of_T ref21_Neg ref21_Add ref21_Norm v k).prop (fun x => Q ((o1 (cCK)).enc x)) := by kernel_rfl
theorem ref21_Of_c (x : I3 × I3) (w : World) (vs : Array Value) (hp : ArgsR ((aCons (cI3) (aOne (cI3))).enc x) w vs) : Calls Try.prog 16 vs w (Ans ((o1 (cCK)).enc (ref21_Of x.1 x.2)) w) :=
  contractT mixed (AllGood.cons ref21_Neg_ok (AllGood.cons ref21_Add_ok (AllGood.cons ref21_Norm_ok AllGood.nil))) Try.func16 (fun _ _ _ _ => noL_ok) (Tr.safe_of (t := ref21_Of_t x.1 x.2) rfl) (ref21_Of_ev ref21_Neg ref21_Add ref21_Norm x.1 x.2) w vs hp
theorem ref21_Of_ok : GoodF Try.prog 16 (sumT (aCons (cI3) (aOne (cI3))) fun x => (o1 (cCK)).enc (ref21_Of x.1 x.2)) :=
  good_sumT (callable_of Try.func16 (by kernel_rfl) (by kernel_rfl)) ref21_Of_c
/-! flyball/flyballref21.Move -/
def ref21_Move_T (ref21_Norm : CK → CK) (ref21_Add : I3 → I3 → I3) (c : CK) (v : I3) : Tr (CK) :=
  Tr.leaf (ref21_Norm (CK.mk (ref21_Add (ref21_Norm c).d v) (ref21_Add (ref21_Norm c).p v)))
def ref21_Move_t (c : CK) (v : I3) : Tr (CK) := ref21_Move_T ref21_Norm ref21_Add c v
def ref21_Move (c : CK) (v : I3) : CK := (ref21_Move_t c v).val
theorem ref21_Move_ev (ref21_Norm : CK → CK) (ref21_Add : I3 → I3 → I3) (c : CK) (v : I3) (Q : AV → Prop) : evF Try.prog (mkC [(62, (sumT (aOne (cCK)) fun x => (o1 (cCK)).enc (ref21_Norm x))), (63, (sumT (aCons (cI3) (aOne (cI3))) fun x => (o1 (cI3)).enc (ref21_Add x.1 x.2)))]) noL 60 Try.f18 ((aCons (cCK) (aOne (cI3))).enc (c, v)) Q = (ref21_Move_T ref21_Norm ref21_Add c v).prop (fun x => Q ((o1 (cCK)).enc x)) := by kernel_rfl
theorem ref21_Move_c (x : CK × I3) (w : World) (vs : Array Value) (hp : ArgsR ((aCons (cCK) (aOne (cI3))).enc x) w vs) : Calls Try.prog 18 vs w (Ans ((o1 (cCK)).enc (ref21_Move x.1 x.2)) w) :=
  contractT mixed (AllGood.cons ref21_Norm_ok (AllGood.cons ref21_Add_ok AllGood.nil)) Try.func18 (fun _ _ _ _ => noL_ok) (Tr.safe_of (t := ref21_Move_t x.1 x.2) rfl) (ref21_Move_ev ref21_Norm ref21_Add x.1 x.2) w vs hp
theorem ref21_Move_ok : GoodF Try.prog 18 (sumT (aCons (cCK) (aOne (cI3))) fun x => (o1 (cCK)).enc (ref21_Move x.1 x.2)) :=
  good_sumT (callable_of Try.func18 (by kernel_rfl) (by kernel_rfl)) ref21_Move_c
/-! flyball/flyballref21.Tick -/
def ref21_Tick_T (ref21_Norm : CK → CK) (ref21_Add : I3 → I3 → I3) (c : CK) : Tr (CK) :=
  Tr.leaf
    (ref21_Norm
      (CK.mk (ref21_Add (ref21_Norm c).d (I3.mk false (-1) (-1))) (ref21_Add (ref21_Norm c).p (I3.mk false 1 1))))
def ref21_Tick_t (c : CK) : Tr (CK) := ref21_Tick_T ref21_Norm ref21_Add c
def ref21_Tick (c : CK) : CK := (ref21_Tick_t c).val
theorem ref21_Tick_ev (ref21_Norm : CK → CK) (ref21_Add : I3 → I3 → I3) (c : CK) (Q : AV → Prop) : evF Try.prog (mkC [(62, (sumT (aOne (cCK)) fun x => (o1 (cCK)).enc (ref21_Norm x))), (63, (sumT (aCons (cI3) (aOne (cI3))) fun x => (o1 (cI3)).enc (ref21_Add x.1 x.2)))]) noL 60 Try.f21 ((aOne (cCK)).enc c) Q = (ref21_Tick_T ref21_Norm ref21_Add c).prop (fun x => Q ((o1 (cCK)).enc x)) := by kernel_rfl
theorem ref21_Tick_c (x : CK) (w : World) (vs : Array Value) (hp : ArgsR ((aOne (cCK)).enc x) w vs) : Calls Try.prog 21 vs w (Ans ((o1 (cCK)).enc (ref21_Tick x)) w) :=
  contractT mixed (AllGood.cons ref21_Norm_ok (AllGood.cons ref21_Add_ok AllGood.nil)) Try.func21 (fun _ _ _ _ => noL_ok) (Tr.safe_of (t := ref21_Tick_t x) rfl) (ref21_Tick_ev ref21_Norm ref21_Add x) w vs hp
theorem ref21_Tick_ok : GoodF Try.prog 21 (sumT (aOne (cCK)) fun x => (o1 (cCK)).enc (ref21_Tick x)) :=
  good_sumT (callable_of Try.func21 (by kernel_rfl) (by kernel_rfl)) ref21_Tick_c
/-! flyball/flyballref21.Reduce -/
def ref21_Reduce_T (ref21_Norm : CK → CK) (ref21_Add : I3 → I3 → I3) (ref_Meet : I3 → I3 → I3) (ref21_Neg : I3 → I3) (v : I3) (c : CK) (k : I3) : Tr (I3) :=
  Tr.leaf (ref_Meet (ref_Meet v (ref21_Add (ref21_Norm c).d k)) (ref21_Add (ref21_Norm c).p (ref21_Neg k)))
def ref21_Reduce_t (v : I3) (c : CK) (k : I3) : Tr (I3) := ref21_Reduce_T ref21_Norm ref21_Add ref_Meet ref21_Neg v c k
def ref21_Reduce (v : I3) (c : CK) (k : I3) : I3 := (ref21_Reduce_t v c k).val
theorem ref21_Reduce_ev (ref21_Norm : CK → CK) (ref21_Add : I3 → I3 → I3) (ref_Meet : I3 → I3 → I3) (ref21_Neg : I3 → I3) (v : I3) (c : CK) (k : I3) (Q : AV → Prop) : evF Try.prog (mkC [(62, (sumT (aOne (cCK)) fun x => (o1 (cCK)).enc (ref21_Norm x))), (63, (sumT (aCons (cI3) (aOne (cI3))) fun x => (o1 (cI3)).enc (ref21_Add x.1 x.2))), (46, (sumT (aCons (cI3) (aOne (cI3))) fun x => (o1 (cI3)).enc (ref_Meet x.1 x.2))), (64, (sumT (aOne (cI3)) fun x => (o1 (cI3)).enc (ref21_Neg x)))]) noL 60 Try.f25 ((aCons (cI3) (aCons (cCK) (aOne (cI3)))).enc (v, c, k)) Q = (ref21_Reduce_T ref21_Norm ref21_Add ref_Meet ref21_Neg v c k).prop (fun x => Q ((o1 (cI3)).enc x)) := by kernel_rfl
theorem ref21_Reduce_c (x : I3 × CK × I3) (w : World) (vs : Array Value) (hp : ArgsR ((aCons (cI3) (aCons (cCK) (aOne (cI3)))).enc x) w vs) : Calls Try.prog 25 vs w (Ans ((o1 (cI3)).enc (ref21_Reduce x.1 x.2.1 x.2.2)) w) :=
  contractT mixed (AllGood.cons ref21_Norm_ok (AllGood.cons ref21_Add_ok (AllGood.cons ref_Meet_ok (AllGood.cons ref21_Neg_ok AllGood.nil)))) Try.func25 (fun _ _ _ _ => noL_ok) (Tr.safe_of (t := ref21_Reduce_t x.1 x.2.1 x.2.2) rfl) (ref21_Reduce_ev ref21_Norm ref21_Add ref_Meet ref21_Neg x.1 x.2.1 x.2.2) w vs hp
theorem ref21_Reduce_ok : GoodF Try.prog 25 (sumT (aCons (cI3) (aCons (cCK) (aOne (cI3)))) fun x => (o1 (cI3)).enc (ref21_Reduce x.1 x.2.1 x.2.2)) :=
  good_sumT (callable_of Try.func25 (by kernel_rfl) (by kernel_rfl)) ref21_Reduce_c
/-! flyball/flyballref21.Meet -/
def ref21_Meet_T (ref21_Norm : CK → CK) (ref_Meet : I3 → I3 → I3) (a : CK) (b : CK) : Tr (CK) :=
  Tr.leaf (ref21_Norm (CK.mk (ref_Meet (ref21_Norm a).d (ref21_Norm b).d) (ref_Meet (ref21_Norm a).p (ref21_Norm b).p)))
def ref21_Meet_t (a : CK) (b : CK) : Tr (CK) := ref21_Meet_T ref21_Norm ref_Meet a b
def ref21_Meet (a : CK) (b : CK) : CK := (ref21_Meet_t a b).val
theorem ref21_Meet_ev (ref21_Norm : CK → CK) (ref_Meet : I3 → I3 → I3) (a : CK) (b : CK) (Q : AV → Prop) : evF Try.prog (mkC [(62, (sumT (aOne (cCK)) fun x => (o1 (cCK)).enc (ref21_Norm x))), (46, (sumT (aCons (cI3) (aOne (cI3))) fun x => (o1 (cI3)).enc (ref_Meet x.1 x.2)))]) noL 60 Try.f23 ((aCons (cCK) (aOne (cCK))).enc (a, b)) Q = (ref21_Meet_T ref21_Norm ref_Meet a b).prop (fun x => Q ((o1 (cCK)).enc x)) := by kernel_rfl
theorem ref21_Meet_c (x : CK × CK) (w : World) (vs : Array Value) (hp : ArgsR ((aCons (cCK) (aOne (cCK))).enc x) w vs) : Calls Try.prog 23 vs w (Ans ((o1 (cCK)).enc (ref21_Meet x.1 x.2)) w) :=
  contractT mixed (AllGood.cons ref21_Norm_ok (AllGood.cons ref_Meet_ok AllGood.nil)) Try.func23 (fun _ _ _ _ => noL_ok) (Tr.safe_of (t := ref21_Meet_t x.1 x.2) rfl) (ref21_Meet_ev ref21_Norm ref_Meet x.1 x.2) w vs hp
theorem ref21_Meet_ok : GoodF Try.prog 23 (sumT (aCons (cCK) (aOne (cCK))) fun x => (o1 (cCK)).enc (ref21_Meet x.1 x.2)) :=
  good_sumT (callable_of Try.func23 (by kernel_rfl) (by kernel_rfl)) ref21_Meet_c
/-! flyball/flyballref21.Join -/
def ref21_Join_T (ref21_Norm : CK → CK) (ref_Join : I3 → I3 → I3) (a : CK) (b : CK) : Tr (CK) :=
  Tr.leaf (ref21_Norm (CK.mk (ref_Join (ref21_Norm a).d (ref21_Norm b).d) (ref_Join (ref21_Norm a).p (ref21_Norm b).p)))
def ref21_Join_t (a : CK) (b : CK) : Tr (CK) := ref21_Join_T ref21_Norm ref_Join a b
def ref21_Join (a : CK) (b : CK) : CK := (ref21_Join_t a b).val
theorem ref21_Join_ev (ref21_Norm : CK → CK) (ref_Join : I3 → I3 → I3) (a : CK) (b : CK) (Q : AV → Prop) : evF Try.prog (mkC [(62, (sumT (aOne (cCK)) fun x => (o1 (cCK)).enc (ref21_Norm x))), (44, (sumT (aCons (cI3) (aOne (cI3))) fun x => (o1 (cI3)).enc (ref_Join x.1 x.2)))]) noL 60 Try.f27 ((aCons (cCK) (aOne (cCK))).enc (a, b)) Q = (ref21_Join_T ref21_Norm ref_Join a b).prop (fun x => Q ((o1 (cCK)).enc x)) := by kernel_rfl
theorem ref21_Join_c (x : CK × CK) (w : World) (vs : Array Value) (hp : ArgsR ((aCons (cCK) (aOne (cCK))).enc x) w vs) : Calls Try.prog 27 vs w (Ans ((o1 (cCK)).enc (ref21_Join x.1 x.2)) w) :=
  contractT mixed (AllGood.cons ref21_Norm_ok (AllGood.cons ref_Join_ok AllGood.nil)) Try.func27 (fun _ _ _ _ => noL_ok) (Tr.safe_of (t := ref21_Join_t x.1 x.2) rfl) (ref21_Join_ev ref21_Norm ref_Join x.1 x.2) w vs hp
theorem ref21_Join_ok : GoodF Try.prog 27 (sumT (aCons (cCK) (aOne (cCK))) fun x => (o1 (cCK)).enc (ref21_Join x.1 x.2)) :=
  good_sumT (callable_of Try.func27 (by kernel_rfl) (by kernel_rfl)) ref21_Join_c
/-! flyball/flyballref21.Widen -/
def ref21_Widen_T (ref21_Norm : CK → CK) (ref_Widen : I3 → I3 → (List Int) → I3) (ref_Widen_s : I3 → I3 → (List Int) → Bool) (a : CK) (b : CK) (steps : List Int) : Tr (CK) :=
  Tr.ast (ref_Widen_s (ref21_Norm a).d (ref21_Norm b).d steps)
    (Tr.ast (ref_Widen_s (ref21_Norm a).p (ref21_Norm b).p steps)
      (Tr.leaf
        (ref21_Norm
          (CK.mk (ref_Widen (ref21_Norm a).d (ref21_Norm b).d steps)
            (ref_Widen (ref21_Norm a).p (ref21_Norm b).p steps)))))
def ref21_Widen_t (a : CK) (b : CK) (steps : List Int) : Tr (CK) := ref21_Widen_T ref21_Norm ref_Widen ref_Widen_s a b steps
def ref21_Widen (a : CK) (b : CK) (steps : List Int) : CK := (ref21_Widen_t a b steps).val
theorem ref21_Widen_ev (ref21_Norm : CK → CK) (ref_Widen : I3 → I3 → (List Int) → I3) (ref_Widen_s : I3 → I3 → (List Int) → Bool) (a : CK) (b : CK) (steps : List Int) (Q : AV → Prop) : evF Try.prog (mkC [(62, (sumT (aOne (cCK)) fun x => (o1 (cCK)).enc (ref21_Norm x))), (58, (sumOf (aCons (cI3) (aCons (cI3) (aOne (cInts .i64)))) (fun x => ref_Widen_s x.1 x.2.1 x.2.2) fun x => (o1 (cI3)).enc (ref_Widen x.1 x.2.1 x.2.2)))]) noL 60 Try.f30 ((aCons (cCK) (aCons (cCK) (aOne (cInts .i64)))).enc (a, b, steps)) Q = (ref21_Widen_T ref21_Norm ref_Widen ref_Widen_s a b steps).prop (fun x => Q ((o1 (cCK)).enc x)) := by kernel_rfl
def ref21_Widen_s (a : CK) (b : CK) (steps : List Int) : Bool := (ref21_Widen_t a b steps).safe
theorem ref21_Widen_c (x : CK × CK × (List Int)) (hs : ref21_Widen_s x.1 x.2.1 x.2.2 = true) (w : World) (vs : Array Value) (hp : ArgsR ((aCons (cCK) (aCons (cCK) (aOne (cInts .i64)))).enc x) w vs) : Calls Try.prog 30 vs w (Ans ((o1 (cCK)).enc (ref21_Widen x.1 x.2.1 x.2.2)) w) :=
  contractT mixed (AllGood.cons ref21_Norm_ok (AllGood.cons ref_Widen_ok AllGood.nil)) Try.func30 (fun _ _ _ _ => noL_ok) hs (ref21_Widen_ev ref21_Norm ref_Widen ref_Widen_s x.1 x.2.1 x.2.2) w vs hp
theorem ref21_Widen_ok : GoodF Try.prog 30 (sumOf (aCons (cCK) (aCons (cCK) (aOne (cInts .i64)))) (fun x => ref21_Widen_s x.1 x.2.1 x.2.2) fun x => (o1 (cCK)).enc (ref21_Widen x.1 x.2.1 x.2.2)) :=
  good_sum (callable_of Try.func30 (by kernel_rfl) (by kernel_rfl)) ref21_Widen_c
/-! flyball/flyballref21.Inside -/
def ref21_Inside_T (ref21_Norm : CK → CK) (ref_Inside : I3 → I3 → Bool) (a : CK) (b : CK) : Tr (Bool) :=
  Tr.br (ref_Inside (ref21_Norm a).d (ref21_Norm b).d) (Tr.leaf (ref_Inside (ref21_Norm a).p (ref21_Norm b).p))
    (Tr.leaf false)
def ref21_Inside_t (a : CK) (b : CK) : Tr (Bool) := ref21_Inside_T ref21_Norm ref_Inside a b
def ref21_Inside (a : CK) (b : CK) : Bool := (ref21_Inside_t a b).val
theorem ref21_Inside_ev (ref21_Norm : CK → CK) (ref_Inside : I3 → I3 → Bool) (a : CK) (b : CK) (Q : AV → Prop) : evF Try.prog (mkC [(62, (sumT (aOne (cCK)) fun x => (o1 (cCK)).enc (ref21_Norm x))), (42, (sumT (aCons (cI3) (aOne (cI3))) fun x => (o1 (cBool)).enc (ref_Inside x.1 x.2)))]) noL 60 Try.f32 ((aCons (cCK) (aOne (cCK))).enc (a, b)) Q = (ref21_Inside_T ref21_Norm ref_Inside a b).prop (fun x => Q ((o1 (cBool)).enc x)) := by kernel_rfl
theorem ref21_Inside_c (x : CK × CK) (w : World) (vs : Array Value) (hp : ArgsR ((aCons (cCK) (aOne (cCK))).enc x) w vs) : Calls Try.prog 32 vs w (Ans ((o1 (cBool)).enc (ref21_Inside x.1 x.2)) w) :=
  contractT mixed (AllGood.cons ref21_Norm_ok (AllGood.cons ref_Inside_ok AllGood.nil)) Try.func32 (fun _ _ _ _ => noL_ok) (Tr.safe_of (t := ref21_Inside_t x.1 x.2) rfl) (ref21_Inside_ev ref21_Norm ref_Inside x.1 x.2) w vs hp
theorem ref21_Inside_ok : GoodF Try.prog 32 (sumT (aCons (cCK) (aOne (cCK))) fun x => (o1 (cBool)).enc (ref21_Inside x.1 x.2)) :=
  good_sumT (callable_of Try.func32 (by kernel_rfl) (by kernel_rfl)) ref21_Inside_c
/-! flyball/flyballref21.Has -/
def ref21_Has_T (ref21_Norm : CK → CK) (ref_Has : I3 → Int → Bool) (c : CK) (v : Int) (k : Int) : Tr (Bool) :=
  Tr.br (decide (v < -2199023255552)) (Tr.leaf false)
    (Tr.br (decide (v > 2199023255552)) (Tr.leaf false)
      (Tr.br (decide (k < -2199023255552)) (Tr.leaf false)
        (Tr.br (decide (k > 2199023255552)) (Tr.leaf false)
          (Tr.br (ref_Has (ref21_Norm c).d (IntKind.i64.wrap (v - k)))
            (Tr.leaf (ref_Has (ref21_Norm c).p (IntKind.i64.wrap (v + k)))) (Tr.leaf false)))))
def ref21_Has_t (c : CK) (v : Int) (k : Int) : Tr (Bool) := ref21_Has_T ref21_Norm ref_Has c v k
def ref21_Has (c : CK) (v : Int) (k : Int) : Bool := (ref21_Has_t c v k).val
theorem ref21_Has_ev (ref21_Norm : CK → CK) (ref_Has : I3 → Int → Bool) (c : CK) (v : Int) (k : Int) (Q : AV → Prop) : evF Try.prog (mkC [(62, (sumT (aOne (cCK)) fun x => (o1 (cCK)).enc (ref21_Norm x))), (40, (sumT (aCons (cI3) (aOne (cInt .i64))) fun x => (o1 (cBool)).enc (ref_Has x.1 x.2)))]) noL 60 Try.f34 ((aCons (cCK) (aCons (cInt .i64) (aOne (cInt .i64)))).enc (c, v, k)) Q = (ref21_Has_T ref21_Norm ref_Has c v k).prop (fun x => Q ((o1 (cBool)).enc x)) := by kernel_rfl
theorem ref21_Has_c (x : CK × Int × Int) (w : World) (vs : Array Value) (hp : ArgsR ((aCons (cCK) (aCons (cInt .i64) (aOne (cInt .i64)))).enc x) w vs) : Calls Try.prog 34 vs w (Ans ((o1 (cBool)).enc (ref21_Has x.1 x.2.1 x.2.2)) w) :=
  contractT mixed (AllGood.cons ref21_Norm_ok (AllGood.cons ref_Has_ok AllGood.nil)) Try.func34 (fun _ _ _ _ => noL_ok) (Tr.safe_of (t := ref21_Has_t x.1 x.2.1 x.2.2) rfl) (ref21_Has_ev ref21_Norm ref_Has x.1 x.2.1 x.2.2) w vs hp
theorem ref21_Has_ok : GoodF Try.prog 34 (sumT (aCons (cCK) (aCons (cInt .i64) (aOne (cInt .i64)))) fun x => (o1 (cBool)).enc (ref21_Has x.1 x.2.1 x.2.2)) :=
  good_sumT (callable_of Try.func34 (by kernel_rfl) (by kernel_rfl)) ref21_Has_c
end Go.Proofs.Ytfbpklopnnnniaa
