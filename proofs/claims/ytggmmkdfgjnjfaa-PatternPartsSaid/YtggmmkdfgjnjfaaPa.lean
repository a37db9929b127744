/- Layer 4: contracts of the functions. Conditions: as each theorem states. -/
import Derived.Test.YtggmmkdfgjnjfaaRa
import Derived.Test.YtggmmkdfgjnjfaaPd
namespace Go.Proofs.Ytggmmkdfgjnjfaa
open Go.Ev Go.Fb
theorem p_Make_ev (F : Nat → Prop)  (neg : Bool) (exp : Int) (frac : Int) (Q : AV → Prop) : evF Try.prog (mkC ([]) F) noL 60 Try.f105 ((aCons (cBool) (aCons (cInt .i64) (aOne (cInt .u64)))).enc false (neg, exp, frac)) Q = (p_Make_T  neg exp frac).prop (fun x => Q ((o2 (cInt .u64) (cInt .i64)).enc x)) := by kernel_rfl
theorem p_Make_c (x : Bool × Int × Int) (w : World) (vs : Array Value) (hp : ArgsR ((aCons (cBool) (aCons (cInt .i64) (aOne (cInt .u64)))).enc false x) w vs) : Calls Try.prog 105 vs w (Ans ((o2 (cInt .u64) (cInt .i64)).enc (p_Make x.1 x.2.1 x.2.2)) w) :=
  contractT mixed AllGood.nil Try.func105 (fun _ _ _ _ _ => noL_ok) (Tr.safe_of (t := p_Make_t x.1 x.2.1 x.2.2) rfl) (fun F => p_Make_ev F  x.1 x.2.1 x.2.2) w vs hp
theorem p_Make_ok : GoodF Try.prog 105 (sumT (aCons (cBool) (aCons (cInt .i64) (aOne (cInt .u64)))) fun x => (o2 (cInt .u64) (cInt .i64)).enc (p_Make x.1 x.2.1 x.2.2)) :=
  good_sumT (callable_of Try.func105 (by kernel_rfl) (by kernel_rfl)) p_Make_c
theorem p_Parts_ev (F : Nat → Prop)  (f : Int) (Q : AV → Prop) : evF Try.prog (mkC ([]) F) noL 60 Try.f101 ((aOne (cInt .u64)).enc false f) Q = (p_Parts_T  f).prop (fun x => Q ((o3 (cBool) (cInt .i64) (cInt .u64)).enc x)) := by kernel_rfl
theorem p_Parts_c (x : Int) (w : World) (vs : Array Value) (hp : ArgsR ((aOne (cInt .u64)).enc false x) w vs) : Calls Try.prog 101 vs w (Ans ((o3 (cBool) (cInt .i64) (cInt .u64)).enc (p_Parts x)) w) :=
  contractT mixed AllGood.nil Try.func101 (fun _ _ _ _ _ => noL_ok) (Tr.safe_of (t := p_Parts_t x) rfl) (fun F => p_Parts_ev F  x) w vs hp
theorem p_Parts_ok : GoodF Try.prog 101 (sumT (aOne (cInt .u64)) fun x => (o3 (cBool) (cInt .i64) (cInt .u64)).enc (p_Parts x)) :=
  good_sumT (callable_of Try.func101 (by kernel_rfl) (by kernel_rfl)) p_Parts_c
theorem p_Class_ev (F : Nat → Prop) (p_Parts : Int → Bool × Int × Int) (f : Int) (Q : AV → Prop) : evF Try.prog (mkC ([(101, .s (sumT (aOne (cInt .u64)) fun x => (o3 (cBool) (cInt .i64) (cInt .u64)).enc (p_Parts x)))]) F) noL 60 Try.f107 ((aOne (cInt .u64)).enc false f) Q = (p_Class_T p_Parts f).prop (fun x => Q ((o1 (cInt .u8)).enc x)) := by kernel_rfl
theorem p_Class_c (x : Int) (w : World) (vs : Array Value) (hp : ArgsR ((aOne (cInt .u64)).enc false x) w vs) : Calls Try.prog 107 vs w (Ans ((o1 (cInt .u8)).enc (p_Class x)) w) :=
  contractT mixed (AllGood.cons p_Parts_ok AllGood.nil) Try.func107 (fun _ _ _ _ _ => noL_ok) (Tr.safe_of (t := p_Class_t x) rfl) (fun F => p_Class_ev F p_Parts x) w vs hp
theorem p_Class_ok : GoodF Try.prog 107 (sumT (aOne (cInt .u64)) fun x => (o1 (cInt .u8)).enc (p_Class x)) :=
  good_sumT (callable_of Try.func107 (by kernel_rfl) (by kernel_rfl)) p_Class_c
theorem p_Split_ev (F : Nat → Prop) (p_Parts : Int → Bool × Int × Int) (p_Class : Int → Int) (f : Int) (Q : AV → Prop) : evF Try.prog (mkC ([(101, .s (sumT (aOne (cInt .u64)) fun x => (o3 (cBool) (cInt .i64) (cInt .u64)).enc (p_Parts x))), (107, .s (sumT (aOne (cInt .u64)) fun x => (o1 (cInt .u8)).enc (p_Class x)))]) F) noL 60 Try.f103 ((aOne (cInt .u64)).enc false f) Q = (p_Split_T p_Parts p_Class f).prop (fun x => Q ((o2 (cInt .u64) (cInt .i64)).enc x)) := by kernel_rfl
theorem p_Split_c (x : Int) (w : World) (vs : Array Value) (hp : ArgsR ((aOne (cInt .u64)).enc false x) w vs) : Calls Try.prog 103 vs w (Ans ((o2 (cInt .u64) (cInt .i64)).enc (p_Split x)) w) :=
  contractT mixed (AllGood.cons p_Parts_ok (AllGood.cons p_Class_ok AllGood.nil)) Try.func103 (fun _ _ _ _ _ => noL_ok) (Tr.safe_of (t := p_Split_t x) rfl) (fun F => p_Split_ev F p_Parts p_Class x) w vs hp
theorem p_Split_ok : GoodF Try.prog 103 (sumT (aOne (cInt .u64)) fun x => (o2 (cInt .u64) (cInt .i64)).enc (p_Split x)) :=
  good_sumT (callable_of Try.func103 (by kernel_rfl) (by kernel_rfl)) p_Split_c
theorem p_Value_ev (F : Nat → Prop) (p_Class : Int → Int) (p_Split : Int → Int × Int) (q_Dyad : Bool → Int → Int → RR × Int) (q_Dyad_s : Bool → Int → Int → Bool) (f : Int) (Q : AV → Prop) : evF Try.prog (mkC ([(107, .s (sumT (aOne (cInt .u64)) fun x => (o1 (cInt .u8)).enc (p_Class x))), (103, .s (sumT (aOne (cInt .u64)) fun x => (o2 (cInt .u64) (cInt .i64)).enc (p_Split x))), (98, .s (sumOf (aCons (cBool) (aCons (cInt .u64) (aOne (cInt .i64)))) (fun x => q_Dyad_s x.1 x.2.1 x.2.2) fun x => (o2 (cRR) (cInt .i64)).enc (q_Dyad x.1 x.2.1 x.2.2)))]) F) noL 60 Try.f109 ((aOne (cInt .u64)).enc false f) Q = (p_Value_T p_Class p_Split q_Dyad q_Dyad_s f).prop (fun x => Q ((o2 (cRR) (cBool)).enc x)) := by kernel_rfl
theorem p_Value_c (x : Int) (hs : p_Value_s x = true) (w : World) (vs : Array Value) (hp : ArgsR ((aOne (cInt .u64)).enc false x) w vs) : Calls Try.prog 109 vs w (Ans ((o2 (cRR) (cBool)).enc (p_Value x)) w) :=
  contractT mixed (AllGood.cons p_Class_ok (AllGood.cons p_Split_ok (AllGood.cons q_Dyad_ok AllGood.nil))) Try.func109 (fun _ _ _ _ _ => noL_ok) hs (fun F => p_Value_ev F p_Class p_Split q_Dyad q_Dyad_s x) w vs hp
theorem p_Value_ok : GoodF Try.prog 109 (sumOf (aOne (cInt .u64)) (fun x => p_Value_s x) fun x => (o2 (cRR) (cBool)).enc (p_Value x)) :=
  good_sum (callable_of Try.func109 (by kernel_rfl) (by kernel_rfl)) p_Value_c
theorem p_key_ev (F : Nat → Prop)  (f : Int) (Q : AV → Prop) : evF Try.prog (mkC ([]) F) noL 60 Try.f172 ((aOne (cInt .u64)).enc false f) Q = (p_key_T  f).prop (fun x => Q ((o1 (cInt .i64)).enc x)) := by kernel_rfl
theorem p_key_c (x : Int) (w : World) (vs : Array Value) (hp : ArgsR ((aOne (cInt .u64)).enc false x) w vs) : Calls Try.prog 172 vs w (Ans ((o1 (cInt .i64)).enc (p_key x)) w) :=
  contractT mixed AllGood.nil Try.func172 (fun _ _ _ _ _ => noL_ok) (Tr.safe_of (t := p_key_t x) rfl) (fun F => p_key_ev F  x) w vs hp
theorem p_key_ok : GoodF Try.prog 172 (sumT (aOne (cInt .u64)) fun x => (o1 (cInt .i64)).enc (p_key x)) :=
  good_sumT (callable_of Try.func172 (by kernel_rfl) (by kernel_rfl)) p_key_c
theorem p_nan_ev (F : Nat → Prop) (p_Class : Int → Int) (f : Int) (Q : AV → Prop) : evF Try.prog (mkC ([(107, .s (sumT (aOne (cInt .u64)) fun x => (o1 (cInt .u8)).enc (p_Class x)))]) F) noL 60 Try.f171 ((aOne (cInt .u64)).enc false f) Q = (p_nan_T p_Class f).prop (fun x => Q ((o1 (cBool)).enc x)) := by kernel_rfl
theorem p_nan_c (x : Int) (w : World) (vs : Array Value) (hp : ArgsR ((aOne (cInt .u64)).enc false x) w vs) : Calls Try.prog 171 vs w (Ans ((o1 (cBool)).enc (p_nan x)) w) :=
  contractT mixed (AllGood.cons p_Class_ok AllGood.nil) Try.func171 (fun _ _ _ _ _ => noL_ok) (Tr.safe_of (t := p_nan_t x) rfl) (fun F => p_nan_ev F p_Class x) w vs hp
theorem p_nan_ok : GoodF Try.prog 171 (sumT (aOne (cInt .u64)) fun x => (o1 (cBool)).enc (p_nan x)) :=
  good_sumT (callable_of Try.func171 (by kernel_rfl) (by kernel_rfl)) p_nan_c
theorem p_Cmp_ev (F : Nat → Prop) (p_nan : Int → Bool) (p_key : Int → Int) (a : Int) (b : Int) (Q : AV → Prop) : evF Try.prog (mkC ([(171, .s (sumT (aOne (cInt .u64)) fun x => (o1 (cBool)).enc (p_nan x))), (172, .s (sumT (aOne (cInt .u64)) fun x => (o1 (cInt .i64)).enc (p_key x)))]) F) noL 60 Try.f117 ((aCons (cInt .u64) (aOne (cInt .u64))).enc false (a, b)) Q = (p_Cmp_T p_nan p_key a b).prop (fun x => Q ((o2 (cInt .i64) (cBool)).enc x)) := by kernel_rfl
theorem p_Cmp_c (x : Int × Int) (w : World) (vs : Array Value) (hp : ArgsR ((aCons (cInt .u64) (aOne (cInt .u64))).enc false x) w vs) : Calls Try.prog 117 vs w (Ans ((o2 (cInt .i64) (cBool)).enc (p_Cmp x.1 x.2)) w) :=
  contractT mixed (AllGood.cons p_nan_ok (AllGood.cons p_key_ok AllGood.nil)) Try.func117 (fun _ _ _ _ _ => noL_ok) (Tr.safe_of (t := p_Cmp_t x.1 x.2) rfl) (fun F => p_Cmp_ev F p_nan p_key x.1 x.2) w vs hp
theorem p_Cmp_ok : GoodF Try.prog 117 (sumT (aCons (cInt .u64) (aOne (cInt .u64))) fun x => (o2 (cInt .i64) (cBool)).enc (p_Cmp x.1 x.2)) :=
  good_sumT (callable_of Try.func117 (by kernel_rfl) (by kernel_rfl)) p_Cmp_c
theorem p_Less_ev (F : Nat → Prop) (p_Cmp : Int → Int → Int × Bool) (a : Int) (b : Int) (Q : AV → Prop) : evF Try.prog (mkC ([(117, .s (sumT (aCons (cInt .u64) (aOne (cInt .u64))) fun x => (o2 (cInt .i64) (cBool)).enc (p_Cmp x.1 x.2)))]) F) noL 60 Try.f118 ((aCons (cInt .u64) (aOne (cInt .u64))).enc false (a, b)) Q = (p_Less_T p_Cmp a b).prop (fun x => Q ((o1 (cBool)).enc x)) := by kernel_rfl
theorem p_Less_c (x : Int × Int) (w : World) (vs : Array Value) (hp : ArgsR ((aCons (cInt .u64) (aOne (cInt .u64))).enc false x) w vs) : Calls Try.prog 118 vs w (Ans ((o1 (cBool)).enc (p_Less x.1 x.2)) w) :=
  contractT mixed (AllGood.cons p_Cmp_ok AllGood.nil) Try.func118 (fun _ _ _ _ _ => noL_ok) (Tr.safe_of (t := p_Less_t x.1 x.2) rfl) (fun F => p_Less_ev F p_Cmp x.1 x.2) w vs hp
theorem p_Less_ok : GoodF Try.prog 118 (sumT (aCons (cInt .u64) (aOne (cInt .u64))) fun x => (o1 (cBool)).enc (p_Less x.1 x.2)) :=
  good_sumT (callable_of Try.func118 (by kernel_rfl) (by kernel_rfl)) p_Less_c
theorem p_Inf_ev (F : Nat → Prop) (p_Make : Bool → Int → Int → Int × Int) (neg : Bool) (Q : AV → Prop) : evF Try.prog (mkC ([(105, .s (sumT (aCons (cBool) (aCons (cInt .i64) (aOne (cInt .u64)))) fun x => (o2 (cInt .u64) (cInt .i64)).enc (p_Make x.1 x.2.1 x.2.2)))]) F) noL 60 Try.f116 ((aOne (cBool)).enc false neg) Q = (p_Inf_T p_Make neg).prop (fun x => Q ((o1 (cInt .u64)).enc x)) := by kernel_rfl
theorem p_Inf_c (x : Bool) (w : World) (vs : Array Value) (hp : ArgsR ((aOne (cBool)).enc false x) w vs) : Calls Try.prog 116 vs w (Ans ((o1 (cInt .u64)).enc (p_Inf x)) w) :=
  contractT mixed (AllGood.cons p_Make_ok AllGood.nil) Try.func116 (fun _ _ _ _ _ => noL_ok) (Tr.safe_of (t := p_Inf_t x) rfl) (fun F => p_Inf_ev F p_Make x) w vs hp
theorem p_Inf_ok : GoodF Try.prog 116 (sumT (aOne (cBool)) fun x => (o1 (cInt .u64)).enc (p_Inf x)) :=
  good_sumT (callable_of Try.func116 (by kernel_rfl) (by kernel_rfl)) p_Inf_c
theorem p_Next_ev (F : Nat → Prop) (p_nan : Int → Bool) (p_Inf : Bool → Int) (p_key : Int → Int) (f : Int) (Q : AV → Prop) : evF Try.prog (mkC ([(171, .s (sumT (aOne (cInt .u64)) fun x => (o1 (cBool)).enc (p_nan x))), (116, .s (sumT (aOne (cBool)) fun x => (o1 (cInt .u64)).enc (p_Inf x))), (172, .s (sumT (aOne (cInt .u64)) fun x => (o1 (cInt .i64)).enc (p_key x)))]) F) noL 60 Try.f112 ((aOne (cInt .u64)).enc false f) Q = (p_Next_T p_nan p_Inf p_key f).prop (fun x => Q ((o1 (cInt .u64)).enc x)) := by kernel_rfl
theorem p_Next_c (x : Int) (w : World) (vs : Array Value) (hp : ArgsR ((aOne (cInt .u64)).enc false x) w vs) : Calls Try.prog 112 vs w (Ans ((o1 (cInt .u64)).enc (p_Next x)) w) :=
  contractT mixed (AllGood.cons p_nan_ok (AllGood.cons p_Inf_ok (AllGood.cons p_key_ok AllGood.nil))) Try.func112 (fun _ _ _ _ _ => noL_ok) (Tr.safe_of (t := p_Next_t x) rfl) (fun F => p_Next_ev F p_nan p_Inf p_key x) w vs hp
theorem p_Next_ok : GoodF Try.prog 112 (sumT (aOne (cInt .u64)) fun x => (o1 (cInt .u64)).enc (p_Next x)) :=
  good_sumT (callable_of Try.func112 (by kernel_rfl) (by kernel_rfl)) p_Next_c
theorem p_Neg_ev (F : Nat → Prop) (p_nan : Int → Bool) (f : Int) (Q : AV → Prop) : evF Try.prog (mkC ([(171, .s (sumT (aOne (cInt .u64)) fun x => (o1 (cBool)).enc (p_nan x)))]) F) noL 60 Try.f119 ((aOne (cInt .u64)).enc false f) Q = (p_Neg_T p_nan f).prop (fun x => Q ((o1 (cInt .u64)).enc x)) := by kernel_rfl
theorem p_Neg_c (x : Int) (w : World) (vs : Array Value) (hp : ArgsR ((aOne (cInt .u64)).enc false x) w vs) : Calls Try.prog 119 vs w (Ans ((o1 (cInt .u64)).enc (p_Neg x)) w) :=
  contractT mixed (AllGood.cons p_nan_ok AllGood.nil) Try.func119 (fun _ _ _ _ _ => noL_ok) (Tr.safe_of (t := p_Neg_t x) rfl) (fun F => p_Neg_ev F p_nan x) w vs hp
theorem p_Neg_ok : GoodF Try.prog 119 (sumT (aOne (cInt .u64)) fun x => (o1 (cInt .u64)).enc (p_Neg x)) :=
  good_sumT (callable_of Try.func119 (by kernel_rfl) (by kernel_rfl)) p_Neg_c
theorem p_Prev_ev (F : Nat → Prop) (p_Neg : Int → Int) (p_Next : Int → Int) (f : Int) (Q : AV → Prop) : evF Try.prog (mkC ([(119, .s (sumT (aOne (cInt .u64)) fun x => (o1 (cInt .u64)).enc (p_Neg x))), (112, .s (sumT (aOne (cInt .u64)) fun x => (o1 (cInt .u64)).enc (p_Next x)))]) F) noL 60 Try.f114 ((aOne (cInt .u64)).enc false f) Q = (p_Prev_T p_Neg p_Next f).prop (fun x => Q ((o1 (cInt .u64)).enc x)) := by kernel_rfl
theorem p_Prev_c (x : Int) (w : World) (vs : Array Value) (hp : ArgsR ((aOne (cInt .u64)).enc false x) w vs) : Calls Try.prog 114 vs w (Ans ((o1 (cInt .u64)).enc (p_Prev x)) w) :=
  contractT mixed (AllGood.cons p_Neg_ok (AllGood.cons p_Next_ok AllGood.nil)) Try.func114 (fun _ _ _ _ _ => noL_ok) (Tr.safe_of (t := p_Prev_t x) rfl) (fun F => p_Prev_ev F p_Neg p_Next x) w vs hp
theorem p_Prev_ok : GoodF Try.prog 114 (sumT (aOne (cInt .u64)) fun x => (o1 (cInt .u64)).enc (p_Prev x)) :=
  good_sumT (callable_of Try.func114 (by kernel_rfl) (by kernel_rfl)) p_Prev_c
theorem p_Abs_ev (F : Nat → Prop) (p_nan : Int → Bool) (f : Int) (Q : AV → Prop) : evF Try.prog (mkC ([(171, .s (sumT (aOne (cInt .u64)) fun x => (o1 (cBool)).enc (p_nan x)))]) F) noL 60 Try.f120 ((aOne (cInt .u64)).enc false f) Q = (p_Abs_T p_nan f).prop (fun x => Q ((o1 (cInt .u64)).enc x)) := by kernel_rfl
theorem p_Abs_c (x : Int) (w : World) (vs : Array Value) (hp : ArgsR ((aOne (cInt .u64)).enc false x) w vs) : Calls Try.prog 120 vs w (Ans ((o1 (cInt .u64)).enc (p_Abs x)) w) :=
  contractT mixed (AllGood.cons p_nan_ok AllGood.nil) Try.func120 (fun _ _ _ _ _ => noL_ok) (Tr.safe_of (t := p_Abs_t x) rfl) (fun F => p_Abs_ev F p_nan x) w vs hp
theorem p_Abs_ok : GoodF Try.prog 120 (sumT (aOne (cInt .u64)) fun x => (o1 (cInt .u64)).enc (p_Abs x)) :=
  good_sumT (callable_of Try.func120 (by kernel_rfl) (by kernel_rfl)) p_Abs_c
theorem p_Quiet_ev (F : Nat → Prop)   (Q : AV → Prop) : evF Try.prog (mkC ([]) F) noL 60 Try.f123 (aNil.enc false ()) Q = (p_Quiet_T  ).prop (fun x => Q ((o1 (cInt .u64)).enc x)) := by kernel_rfl
theorem p_Quiet_c (x : Unit) (w : World) (vs : Array Value) (hp : ArgsR (aNil.enc false x) w vs) : Calls Try.prog 123 vs w (Ans ((o1 (cInt .u64)).enc (p_Quiet )) w) :=
  contractT mixed AllGood.nil Try.func123 (fun _ _ _ _ _ => noL_ok) (Tr.safe_of (t := p_Quiet_t ) rfl) (fun F => p_Quiet_ev F  ) w vs hp
theorem p_Quiet_ok : GoodF Try.prog 123 (sumT aNil fun _ => (o1 (cInt .u64)).enc (p_Quiet )) :=
  good_sumT (callable_of Try.func123 (by kernel_rfl) (by kernel_rfl)) p_Quiet_c
theorem p_Max1_ev (F : Nat → Prop) (p_Less : Int → Int → Bool) (a : Int) (b : Int) (Q : AV → Prop) : evF Try.prog (mkC ([(118, .s (sumT (aCons (cInt .u64) (aOne (cInt .u64))) fun x => (o1 (cBool)).enc (p_Less x.1 x.2)))]) F) noL 60 Try.f176 ((aCons (cInt .u64) (aOne (cInt .u64))).enc false (a, b)) Q = (p_Max1_T p_Less a b).prop (fun x => Q ((o1 (cBool)).enc x)) := by kernel_rfl
theorem p_Max1_c (x : Int × Int) (w : World) (vs : Array Value) (hp : ArgsR ((aCons (cInt .u64) (aOne (cInt .u64))).enc false x) w vs) : Calls Try.prog 176 vs w (Ans ((o1 (cBool)).enc (p_Max1 x.1 x.2)) w) :=
  contractT mixed (AllGood.cons p_Less_ok AllGood.nil) Try.func176 (fun _ _ _ _ _ => noL_ok) (Tr.safe_of (t := p_Max1_t x.1 x.2) rfl) (fun F => p_Max1_ev F p_Less x.1 x.2) w vs hp
theorem p_Max1_ok : GoodF Try.prog 176 (sumT (aCons (cInt .u64) (aOne (cInt .u64))) fun x => (o1 (cBool)).enc (p_Max1 x.1 x.2)) :=
  good_sumT (callable_of Try.func176 (by kernel_rfl) (by kernel_rfl)) p_Max1_c
def p_bestM_L0_tm : Tm :=
  Tm.mk
    [none, some (false, [Sh.clo 176 []]), none, none, none, some (false, [Sh.int IntKind.u64]), none, none, none, none,
      none, none, none, none, none, some (false, [Sh.veci false IntKind.u64]), some (false, [Sh.int IntKind.i64]),
      some (false, [Sh.int IntKind.i64]), none, none, none, none, none, none, none, none, none, none, none, none, none]
    [] false
def p_bestM_L0_of : List Pv → Option (((List Int) × Int) × (Int × Int))
  | [.i v5, .il v15, .i v16, .i v17] => some ((v15, v16), (v5, v17))
  | _ => none
def p_bestM_L0_to (p : (List Int) × Int) (x : Int × Int) : List Pv := [.i x.1, .il p.1, .i p.2, .i x.2]
theorem p_bestM_L0_ot (l : List Pv) (p : (List Int) × Int) (x : Int × Int) (h : p_bestM_L0_of l = some (p, x)) : p_bestM_L0_to p x = l := by
  unfold p_bestM_L0_of at h
  split at h
  · cases h; rfl
  · cases h
def p_bestM_L0_dec (s : St) : Option (((List Int) × Int) × (Int × Int)) := (p_bestM_L0_tm.dec s).bind p_bestM_L0_of
def p_bestM_L0_I (p : (List Int) × Int) (x : Int × Int) : St := p_bestM_L0_tm.enc (p_bestM_L0_to p x)
def p_bestM_L0_tmR : Tm :=
  Tm.mk
    [none, none, none, none, some (false, [Sh.int IntKind.u64]), none, none, none, none, none, none, none, none, none,
      none, none, none, none, none, none, none, none, none, none, none, none, none, none, none, none, none]
    [] false
def p_bestM_L0_ofR : List Pv → Option (Int)
  | [.i v4] => some v4
  | _ => none
def p_bestM_L0_toR (r : Int) : List Pv := [.i r]
theorem p_bestM_L0_otR (l : List Pv) (r : Int) (h : p_bestM_L0_ofR l = some r) : p_bestM_L0_toR r = l := by
  unfold p_bestM_L0_ofR at h
  split at h
  · cases h; rfl
  · cases h
def p_bestM_L0_decR (s : St) : Option (Int) := (p_bestM_L0_tmR.dec s).bind p_bestM_L0_ofR
def p_bestM_L0_R (r : Int) : St := p_bestM_L0_tmR.enc (p_bestM_L0_toR r)
theorem p_bestM_L0_ev (F : Nat → Prop) (p_Quiet : Int) (p_nan : Int → Bool) (p_Max1 : Int → Int → Bool) (p_Less : Int → Int → Bool) (v15 : List Int) (v16 : Int) (v5 : Int) (v17 : Int) (Q : (((List Int) × Int) × (Int × Int)) ⊕ ((((List Int) × Int) × (Int × Int)) ⊕ (Int)) → Prop) : evC Try.prog (mkC ([(123, .s (sumT aNil fun _ => (o1 (cInt .u64)).enc (p_Quiet ))), (171, .s (sumT (aOne (cInt .u64)) fun x => (o1 (cBool)).enc (p_nan x))), (176, .s (sumT (aCons (cInt .u64) (aOne (cInt .u64))) fun x => (o1 (cBool)).enc (p_Max1 x.1 x.2))), (118, .s (sumT (aCons (cInt .u64) (aOne (cInt .u64))) fun x => (o1 (cBool)).enc (p_Less x.1 x.2)))]) F) noL 60 (lp Try.f175 0) (p_bestM_L0_I (v15, v16) (v5, v17)) (fun y s => onO Q (bkB 0 p_bestM_L0_dec p_bestM_L0_decR y s)) = (p_bestM_L0_T p_Quiet p_nan p_Max1 v15 v16 v5 v17).prop (onB (v15, v16) Q) := by kernel_rfl
set_option maxRecDepth 100000 in
theorem p_bestM_L0_ls {F : Nat → Prop} {B : Nat} {w0 : World} {s : St} {k : X → St → Prop} (hk : (lsB 0 p_bestM_L0_dec p_bestM_L0_I p_bestM_L0_R p_bestM_L0_ok p_bestM_L0_rt p_bestM_L0_v p_bestM_L0_rv) s k) : EW Try.prog (mkC ([(123, .s (sumT aNil fun _ => (o1 (cInt .u64)).enc (p_Quiet ))), (171, .s (sumT (aOne (cInt .u64)) fun x => (o1 (cBool)).enc (p_nan x))), (176, .s (sumT (aCons (cInt .u64) (aOne (cInt .u64))) fun x => (o1 (cBool)).enc (p_Max1 x.1 x.2))), (118, .s (sumT (aCons (cInt .u64) (aOne (cInt .u64))) fun x => (o1 (cBool)).enc (p_Less x.1 x.2)))]) F) B w0 (.loop (lp Try.f175 0)) s k :=
  lsB_ok (fun _ _ _ h => weak_of p_bestM_L0_ot (.inl rfl) h) (fun _ _ h => weak_ofR p_bestM_L0_otR (.inl rfl) h) (step := p_bestM_L0_step) (fun p x Q h => evC_spec mixed (mkC_ok (AllGood.cons p_Quiet_ok (AllGood.cons p_nan_ok (AllGood.cons p_Max1_ok (AllGood.cons p_Less_ok AllGood.nil)))) F) (L := noL) (u := 60) _ (loops_nil (by kernel_rfl)) _ _ (Eq.mpr (p_bestM_L0_ev F p_Quiet p_nan p_Max1 p_Less p.1 p.2 x.1 x.2 Q) h)) (fun _ _ h => run_okB h) hk
theorem p_bestM_ev (F : Nat → Prop) (p_Quiet : Int) (p_nan : Int → Bool) (p_Max1 : Int → Int → Bool) (p_Less : Int → Int → Bool) (p_bestM_L0_ok : ((List Int) × Int) → (Int × Int) → Bool) (p_bestM_L0_rt : ((List Int) × Int) → (Int × Int) → Bool) (p_bestM_L0_v : ((List Int) × Int) → (Int × Int) → Int × Int) (p_bestM_L0_rv : ((List Int) × Int) → (Int × Int) → Int) (l : List Int) (g : Unit) (Q : AV → Prop) : evF Try.prog (mkC ([(123, .s (sumT aNil fun _ => (o1 (cInt .u64)).enc (p_Quiet ))), (171, .s (sumT (aOne (cInt .u64)) fun x => (o1 (cBool)).enc (p_nan x))), (176, .s (sumT (aCons (cInt .u64) (aOne (cInt .u64))) fun x => (o1 (cBool)).enc (p_Max1 x.1 x.2))), (118, .s (sumT (aCons (cInt .u64) (aOne (cInt .u64))) fun x => (o1 (cBool)).enc (p_Less x.1 x.2)))]) F) (fun id => cond (Nat.beq 5 id) (some (lsB 0 p_bestM_L0_dec p_bestM_L0_I p_bestM_L0_R p_bestM_L0_ok p_bestM_L0_rt p_bestM_L0_v p_bestM_L0_rv)) (none) : Loops) 60 Try.f175 ((aCons (cInts .u64) (aOne (cFn 176))).enc false (l, g)) Q = (p_bestM_T p_Quiet p_bestM_L0_ok p_bestM_L0_rt p_bestM_L0_v p_bestM_L0_rv l g).prop (fun x => Q ((o1 (cInt .u64)).enc x)) := by kernel_rfl
theorem p_bestM_c (x : (List Int) × Unit) (hs : p_bestM_s x.1 x.2 = true) (w : World) (vs : Array Value) (hp : ArgsR ((aCons (cInts .u64) (aOne (cFn 176))).enc false x) w vs) : Calls Try.prog 175 vs w (Ans ((o1 (cInt .u64)).enc (p_bestM x.1 x.2)) w) :=
  contractT mixed (AllGood.cons p_Quiet_ok (AllGood.cons p_nan_ok (AllGood.cons p_Max1_ok (AllGood.cons p_Less_ok AllGood.nil)))) Try.func175 (fun _ _ _ => loops_all (m := 1) (by kernel_rfl) (fun i hi => match i, hi with
    | 0, _ => (fun g hg s k hk => p_bestM_L0_ls (cast (congrFun (congrFun (Option.some.inj (hg.symm.trans (by kernel_rfl))) s) k) hk))
    | (j + 1), hi => absurd hi (by omega))) hs (fun F => p_bestM_ev F p_Quiet p_nan p_Max1 p_Less p_bestM_L0_ok p_bestM_L0_rt p_bestM_L0_v p_bestM_L0_rv x.1 x.2) w vs hp
theorem p_bestM_ok : GoodF Try.prog 175 (sumOf (aCons (cInts .u64) (aOne (cFn 176))) (fun x => p_bestM_s x.1 x.2) fun x => (o1 (cInt .u64)).enc (p_bestM x.1 x.2)) :=
  good_sum (callable_of Try.func175 (by kernel_rfl) (by kernel_rfl)) p_bestM_c
def p_bestL_L0_tm : Tm :=
  Tm.mk
    [none, some (false, [Sh.clo 118 []]), none, none, none, some (false, [Sh.int IntKind.u64]), none, none, none, none,
      none, none, none, none, none, some (false, [Sh.veci false IntKind.u64]), some (false, [Sh.int IntKind.i64]),
      some (false, [Sh.int IntKind.i64]), none, none, none, none, none, none, none, none, none, none, none, none, none]
    [] false
def p_bestL_L0_of : List Pv → Option (((List Int) × Int) × (Int × Int))
  | [.i v5, .il v15, .i v16, .i v17] => some ((v15, v16), (v5, v17))
  | _ => none
def p_bestL_L0_to (p : (List Int) × Int) (x : Int × Int) : List Pv := [.i x.1, .il p.1, .i p.2, .i x.2]
theorem p_bestL_L0_ot (l : List Pv) (p : (List Int) × Int) (x : Int × Int) (h : p_bestL_L0_of l = some (p, x)) : p_bestL_L0_to p x = l := by
  unfold p_bestL_L0_of at h
  split at h
  · cases h; rfl
  · cases h
def p_bestL_L0_dec (s : St) : Option (((List Int) × Int) × (Int × Int)) := (p_bestL_L0_tm.dec s).bind p_bestL_L0_of
def p_bestL_L0_I (p : (List Int) × Int) (x : Int × Int) : St := p_bestL_L0_tm.enc (p_bestL_L0_to p x)
def p_bestL_L0_tmR : Tm :=
  Tm.mk
    [none, none, none, none, some (false, [Sh.int IntKind.u64]), none, none, none, none, none, none, none, none, none,
      none, none, none, none, none, none, none, none, none, none, none, none, none, none, none, none, none]
    [] false
def p_bestL_L0_ofR : List Pv → Option (Int)
  | [.i v4] => some v4
  | _ => none
def p_bestL_L0_toR (r : Int) : List Pv := [.i r]
theorem p_bestL_L0_otR (l : List Pv) (r : Int) (h : p_bestL_L0_ofR l = some r) : p_bestL_L0_toR r = l := by
  unfold p_bestL_L0_ofR at h
  split at h
  · cases h; rfl
  · cases h
def p_bestL_L0_decR (s : St) : Option (Int) := (p_bestL_L0_tmR.dec s).bind p_bestL_L0_ofR
def p_bestL_L0_R (r : Int) : St := p_bestL_L0_tmR.enc (p_bestL_L0_toR r)
theorem p_bestL_L0_ev (F : Nat → Prop) (p_Quiet : Int) (p_nan : Int → Bool) (p_Less : Int → Int → Bool) (v15 : List Int) (v16 : Int) (v5 : Int) (v17 : Int) (Q : (((List Int) × Int) × (Int × Int)) ⊕ ((((List Int) × Int) × (Int × Int)) ⊕ (Int)) → Prop) : evC Try.prog (mkC ([(123, .s (sumT aNil fun _ => (o1 (cInt .u64)).enc (p_Quiet ))), (171, .s (sumT (aOne (cInt .u64)) fun x => (o1 (cBool)).enc (p_nan x))), (118, .s (sumT (aCons (cInt .u64) (aOne (cInt .u64))) fun x => (o1 (cBool)).enc (p_Less x.1 x.2)))]) F) noL 60 (lp Try.f175 0) (p_bestL_L0_I (v15, v16) (v5, v17)) (fun y s => onO Q (bkB 0 p_bestL_L0_dec p_bestL_L0_decR y s)) = (p_bestL_L0_T p_Quiet p_nan p_Less v15 v16 v5 v17).prop (onB (v15, v16) Q) := by kernel_rfl
set_option maxRecDepth 100000 in
theorem p_bestL_L0_ls {F : Nat → Prop} {B : Nat} {w0 : World} {s : St} {k : X → St → Prop} (hk : (lsB 0 p_bestL_L0_dec p_bestL_L0_I p_bestL_L0_R p_bestL_L0_ok p_bestL_L0_rt p_bestL_L0_v p_bestL_L0_rv) s k) : EW Try.prog (mkC ([(123, .s (sumT aNil fun _ => (o1 (cInt .u64)).enc (p_Quiet ))), (171, .s (sumT (aOne (cInt .u64)) fun x => (o1 (cBool)).enc (p_nan x))), (118, .s (sumT (aCons (cInt .u64) (aOne (cInt .u64))) fun x => (o1 (cBool)).enc (p_Less x.1 x.2)))]) F) B w0 (.loop (lp Try.f175 0)) s k :=
  lsB_ok (fun _ _ _ h => weak_of p_bestL_L0_ot (.inl rfl) h) (fun _ _ h => weak_ofR p_bestL_L0_otR (.inl rfl) h) (step := p_bestL_L0_step) (fun p x Q h => evC_spec mixed (mkC_ok (AllGood.cons p_Quiet_ok (AllGood.cons p_nan_ok (AllGood.cons p_Less_ok AllGood.nil))) F) (L := noL) (u := 60) _ (loops_nil (by kernel_rfl)) _ _ (Eq.mpr (p_bestL_L0_ev F p_Quiet p_nan p_Less p.1 p.2 x.1 x.2 Q) h)) (fun _ _ h => run_okB h) hk
theorem p_bestL_ev (F : Nat → Prop) (p_Quiet : Int) (p_nan : Int → Bool) (p_Less : Int → Int → Bool) (p_bestL_L0_ok : ((List Int) × Int) → (Int × Int) → Bool) (p_bestL_L0_rt : ((List Int) × Int) → (Int × Int) → Bool) (p_bestL_L0_v : ((List Int) × Int) → (Int × Int) → Int × Int) (p_bestL_L0_rv : ((List Int) × Int) → (Int × Int) → Int) (l : List Int) (g : Unit) (Q : AV → Prop) : evF Try.prog (mkC ([(123, .s (sumT aNil fun _ => (o1 (cInt .u64)).enc (p_Quiet ))), (171, .s (sumT (aOne (cInt .u64)) fun x => (o1 (cBool)).enc (p_nan x))), (118, .s (sumT (aCons (cInt .u64) (aOne (cInt .u64))) fun x => (o1 (cBool)).enc (p_Less x.1 x.2)))]) F) (fun id => cond (Nat.beq 5 id) (some (lsB 0 p_bestL_L0_dec p_bestL_L0_I p_bestL_L0_R p_bestL_L0_ok p_bestL_L0_rt p_bestL_L0_v p_bestL_L0_rv)) (none) : Loops) 60 Try.f175 ((aCons (cInts .u64) (aOne (cFn 118))).enc false (l, g)) Q = (p_bestL_T p_Quiet p_bestL_L0_ok p_bestL_L0_rt p_bestL_L0_v p_bestL_L0_rv l g).prop (fun x => Q ((o1 (cInt .u64)).enc x)) := by kernel_rfl
theorem p_bestL_c (x : (List Int) × Unit) (hs : p_bestL_s x.1 x.2 = true) (w : World) (vs : Array Value) (hp : ArgsR ((aCons (cInts .u64) (aOne (cFn 118))).enc false x) w vs) : Calls Try.prog 175 vs w (Ans ((o1 (cInt .u64)).enc (p_bestL x.1 x.2)) w) :=
  contractT mixed (AllGood.cons p_Quiet_ok (AllGood.cons p_nan_ok (AllGood.cons p_Less_ok AllGood.nil))) Try.func175 (fun _ _ _ => loops_all (m := 1) (by kernel_rfl) (fun i hi => match i, hi with
    | 0, _ => (fun g hg s k hk => p_bestL_L0_ls (cast (congrFun (congrFun (Option.some.inj (hg.symm.trans (by kernel_rfl))) s) k) hk))
    | (j + 1), hi => absurd hi (by omega))) hs (fun F => p_bestL_ev F p_Quiet p_nan p_Less p_bestL_L0_ok p_bestL_L0_rt p_bestL_L0_v p_bestL_L0_rv x.1 x.2) w vs hp
theorem p_bestL_ok : GoodF Try.prog 175 (sumOf (aCons (cInts .u64) (aOne (cFn 118))) (fun x => p_bestL_s x.1 x.2) fun x => (o1 (cInt .u64)).enc (p_bestL x.1 x.2)) :=
  good_sum (callable_of Try.func175 (by kernel_rfl) (by kernel_rfl)) p_bestL_c
theorem p_Max_ev (F : Nat → Prop) (p_bestL : (List Int) → Unit → Int) (p_bestL_s : (List Int) → Unit → Bool) (p_bestM : (List Int) → Unit → Int) (p_bestM_s : (List Int) → Unit → Bool) (p_Max1 : Int → Int → Bool) (p_Less : Int → Int → Bool) (l : List Int) (Q : AV → Prop) : evF Try.prog (mkC ([(175, .s (orS (sumOf (aCons (cInts .u64) (aOne (cFn 118))) (fun x => p_bestL_s x.1 x.2) fun x => (o1 (cInt .u64)).enc (p_bestL x.1 x.2)) (sumOf (aCons (cInts .u64) (aOne (cFn 176))) (fun x => p_bestM_s x.1 x.2) fun x => (o1 (cInt .u64)).enc (p_bestM x.1 x.2)))), (176, .s (sumT (aCons (cInt .u64) (aOne (cInt .u64))) fun x => (o1 (cBool)).enc (p_Max1 x.1 x.2))), (118, .s (sumT (aCons (cInt .u64) (aOne (cInt .u64))) fun x => (o1 (cBool)).enc (p_Less x.1 x.2)))]) F) noL 60 Try.f121 ((aOne (cInts .u64)).enc false l) Q = (p_Max_T p_bestM p_bestM_s l).prop (fun x => Q ((o1 (cInt .u64)).enc x)) := by kernel_rfl
theorem p_Max_c (x : (List Int)) (hs : p_Max_s x = true) (w : World) (vs : Array Value) (hp : ArgsR ((aOne (cInts .u64)).enc false x) w vs) : Calls Try.prog 121 vs w (Ans ((o1 (cInt .u64)).enc (p_Max x)) w) :=
  contractT mixed (AllGood.cons (good_or p_bestL_ok p_bestM_ok) (AllGood.cons p_Max1_ok (AllGood.cons p_Less_ok AllGood.nil))) Try.func121 (fun _ _ _ _ _ => noL_ok) hs (fun F => p_Max_ev F p_bestL p_bestL_s p_bestM p_bestM_s p_Max1 p_Less x) w vs hp
theorem p_Max_ok : GoodF Try.prog 121 (sumOf (aOne (cInts .u64)) (fun x => p_Max_s x) fun x => (o1 (cInt .u64)).enc (p_Max x)) :=
  good_sum (callable_of Try.func121 (by kernel_rfl) (by kernel_rfl)) p_Max_c
theorem p_Min_ev (F : Nat → Prop) (p_bestL : (List Int) → Unit → Int) (p_bestL_s : (List Int) → Unit → Bool) (p_bestM : (List Int) → Unit → Int) (p_bestM_s : (List Int) → Unit → Bool) (p_Less : Int → Int → Bool) (l : List Int) (Q : AV → Prop) : evF Try.prog (mkC ([(175, .s (orS (sumOf (aCons (cInts .u64) (aOne (cFn 118))) (fun x => p_bestL_s x.1 x.2) fun x => (o1 (cInt .u64)).enc (p_bestL x.1 x.2)) (sumOf (aCons (cInts .u64) (aOne (cFn 176))) (fun x => p_bestM_s x.1 x.2) fun x => (o1 (cInt .u64)).enc (p_bestM x.1 x.2)))), (118, .s (sumT (aCons (cInt .u64) (aOne (cInt .u64))) fun x => (o1 (cBool)).enc (p_Less x.1 x.2)))]) F) noL 60 Try.f122 ((aOne (cInts .u64)).enc false l) Q = (p_Min_T p_bestL p_bestL_s l).prop (fun x => Q ((o1 (cInt .u64)).enc x)) := by kernel_rfl
theorem p_Min_c (x : (List Int)) (hs : p_Min_s x = true) (w : World) (vs : Array Value) (hp : ArgsR ((aOne (cInts .u64)).enc false x) w vs) : Calls Try.prog 122 vs w (Ans ((o1 (cInt .u64)).enc (p_Min x)) w) :=
  contractT mixed (AllGood.cons (good_or p_bestL_ok p_bestM_ok) (AllGood.cons p_Less_ok AllGood.nil)) Try.func122 (fun _ _ _ _ _ => noL_ok) hs (fun F => p_Min_ev F p_bestL p_bestL_s p_bestM p_bestM_s p_Less x) w vs hp
theorem p_Min_ok : GoodF Try.prog 122 (sumOf (aOne (cInts .u64)) (fun x => p_Min_s x) fun x => (o1 (cInt .u64)).enc (p_Min x)) :=
  good_sum (callable_of Try.func122 (by kernel_rfl) (by kernel_rfl)) p_Min_c
theorem r4_Parts_ev (F : Nat → Prop)  (f : Int) (Q : AV → Prop) : evF Try.prog (mkC ([]) F) noL 60 Try.f102 ((aOne (cInt .u64)).enc false f) Q = (r4_Parts_T  f).prop (fun x => Q ((o3 (cBool) (cInt .i64) (cInt .u64)).enc x)) := by kernel_rfl
theorem r4_Parts_c (x : Int) (w : World) (vs : Array Value) (hp : ArgsR ((aOne (cInt .u64)).enc false x) w vs) : Calls Try.prog 102 vs w (Ans ((o3 (cBool) (cInt .i64) (cInt .u64)).enc (r4_Parts x)) w) :=
  contractT mixed AllGood.nil Try.func102 (fun _ _ _ _ _ => noL_ok) (Tr.safe_of (t := r4_Parts_t x) rfl) (fun F => r4_Parts_ev F  x) w vs hp
theorem r4_Parts_ok : GoodF Try.prog 102 (sumT (aOne (cInt .u64)) fun x => (o3 (cBool) (cInt .i64) (cInt .u64)).enc (r4_Parts x)) :=
  good_sumT (callable_of Try.func102 (by kernel_rfl) (by kernel_rfl)) r4_Parts_c
theorem r4_Make_ev (F : Nat → Prop)  (neg : Bool) (exp : Int) (frac : Int) (Q : AV → Prop) : evF Try.prog (mkC ([]) F) noL 60 Try.f106 ((aCons (cBool) (aCons (cInt .i64) (aOne (cInt .u64)))).enc false (neg, exp, frac)) Q = (r4_Make_T  neg exp frac).prop (fun x => Q ((o1 (cInt .u64)).enc x)) := by kernel_rfl
theorem r4_Make_c (x : Bool × Int × Int) (w : World) (vs : Array Value) (hp : ArgsR ((aCons (cBool) (aCons (cInt .i64) (aOne (cInt .u64)))).enc false x) w vs) : Calls Try.prog 106 vs w (Ans ((o1 (cInt .u64)).enc (r4_Make x.1 x.2.1 x.2.2)) w) :=
  contractT mixed AllGood.nil Try.func106 (fun _ _ _ _ _ => noL_ok) (Tr.safe_of (t := r4_Make_t x.1 x.2.1 x.2.2) rfl) (fun F => r4_Make_ev F  x.1 x.2.1 x.2.2) w vs hp
theorem r4_Make_ok : GoodF Try.prog 106 (sumT (aCons (cBool) (aCons (cInt .i64) (aOne (cInt .u64)))) fun x => (o1 (cInt .u64)).enc (r4_Make x.1 x.2.1 x.2.2)) :=
  good_sumT (callable_of Try.func106 (by kernel_rfl) (by kernel_rfl)) r4_Make_c
theorem r4_Class_ev (F : Nat → Prop) (r4_Parts : Int → Bool × Int × Int) (f : Int) (Q : AV → Prop) : evF Try.prog (mkC ([(102, .s (sumT (aOne (cInt .u64)) fun x => (o3 (cBool) (cInt .i64) (cInt .u64)).enc (r4_Parts x)))]) F) noL 60 Try.f108 ((aOne (cInt .u64)).enc false f) Q = (r4_Class_T r4_Parts f).prop (fun x => Q ((o1 (cInt .u8)).enc x)) := by kernel_rfl
theorem r4_Class_c (x : Int) (w : World) (vs : Array Value) (hp : ArgsR ((aOne (cInt .u64)).enc false x) w vs) : Calls Try.prog 108 vs w (Ans ((o1 (cInt .u8)).enc (r4_Class x)) w) :=
  contractT mixed (AllGood.cons r4_Parts_ok AllGood.nil) Try.func108 (fun _ _ _ _ _ => noL_ok) (Tr.safe_of (t := r4_Class_t x) rfl) (fun F => r4_Class_ev F r4_Parts x) w vs hp
theorem r4_Class_ok : GoodF Try.prog 108 (sumT (aOne (cInt .u64)) fun x => (o1 (cInt .u8)).enc (r4_Class x)) :=
  good_sumT (callable_of Try.func108 (by kernel_rfl) (by kernel_rfl)) r4_Class_c
theorem r4_Split_ev (F : Nat → Prop) (r4_Parts : Int → Bool × Int × Int) (r4_Class : Int → Int) (f : Int) (Q : AV → Prop) : evF Try.prog (mkC ([(102, .s (sumT (aOne (cInt .u64)) fun x => (o3 (cBool) (cInt .i64) (cInt .u64)).enc (r4_Parts x))), (108, .s (sumT (aOne (cInt .u64)) fun x => (o1 (cInt .u8)).enc (r4_Class x)))]) F) noL 60 Try.f104 ((aOne (cInt .u64)).enc false f) Q = (r4_Split_T r4_Parts r4_Class f).prop (fun x => Q ((o2 (cInt .u64) (cInt .i64)).enc x)) := by kernel_rfl
theorem r4_Split_c (x : Int) (w : World) (vs : Array Value) (hp : ArgsR ((aOne (cInt .u64)).enc false x) w vs) : Calls Try.prog 104 vs w (Ans ((o2 (cInt .u64) (cInt .i64)).enc (r4_Split x)) w) :=
  contractT mixed (AllGood.cons r4_Parts_ok (AllGood.cons r4_Class_ok AllGood.nil)) Try.func104 (fun _ _ _ _ _ => noL_ok) (Tr.safe_of (t := r4_Split_t x) rfl) (fun F => r4_Split_ev F r4_Parts r4_Class x) w vs hp
theorem r4_Split_ok : GoodF Try.prog 104 (sumT (aOne (cInt .u64)) fun x => (o2 (cInt .u64) (cInt .i64)).enc (r4_Split x)) :=
  good_sumT (callable_of Try.func104 (by kernel_rfl) (by kernel_rfl)) r4_Split_c
theorem r4_Finite_ev (F : Nat → Prop) (r4_Class : Int → Int) (f : Int) (Q : AV → Prop) : evF Try.prog (mkC ([(108, .s (sumT (aOne (cInt .u64)) fun x => (o1 (cInt .u8)).enc (r4_Class x)))]) F) noL 60 Try.f110 ((aOne (cInt .u64)).enc false f) Q = (r4_Finite_T r4_Class f).prop (fun x => Q ((o1 (cBool)).enc x)) := by kernel_rfl
theorem r4_Finite_c (x : Int) (w : World) (vs : Array Value) (hp : ArgsR ((aOne (cInt .u64)).enc false x) w vs) : Calls Try.prog 110 vs w (Ans ((o1 (cBool)).enc (r4_Finite x)) w) :=
  contractT mixed (AllGood.cons r4_Class_ok AllGood.nil) Try.func110 (fun _ _ _ _ _ => noL_ok) (Tr.safe_of (t := r4_Finite_t x) rfl) (fun F => r4_Finite_ev F r4_Class x) w vs hp
theorem r4_Finite_ok : GoodF Try.prog 110 (sumT (aOne (cInt .u64)) fun x => (o1 (cBool)).enc (r4_Finite x)) :=
  good_sumT (callable_of Try.func110 (by kernel_rfl) (by kernel_rfl)) r4_Finite_c
def r4_Value_L0_tm : Tm :=
  Tm.mk
    [none, none, some (false, [Sh.ptr 0 0]), some (false, [Sh.bool]), none, none, some (false, [Sh.int IntKind.u64]),
      some (false, [Sh.int IntKind.i64]), none, some (false, [Sh.vecb true]), none, none, none, none, none, none, none,
      none, none, none, none, none, none, none, none, none, none, none, none, none, none, none, none, none, none, none,
      none, none, none, none, none, none, none, none, none, none, none, none, none, none, none, none, none, none, none,
      none, none, none, none, none, none, none, none, none, none, none, none, none, none, none, none, none, none, none,
      none, none]
    [Hs.cells 71 [Sh.bool, Sh.nil, Sh.nil]] false
def r4_Value_L0_of : List Pv → Option ((Bool × (List Bool) × Bool) × (Int × Int))
  | [.b v3, .i v6, .i v7, .bl v9, .b h0] => some ((v3, v9, h0), (v6, v7))
  | _ => none
def r4_Value_L0_to (p : Bool × (List Bool) × Bool) (x : Int × Int) : List Pv := [.b p.1, .i x.1, .i x.2, .bl p.2.1, .b p.2.2]
theorem r4_Value_L0_ot (l : List Pv) (p : Bool × (List Bool) × Bool) (x : Int × Int) (h : r4_Value_L0_of l = some (p, x)) : r4_Value_L0_to p x = l := by
  unfold r4_Value_L0_of at h
  split at h
  · cases h; rfl
  · cases h
def r4_Value_L0_dec (s : St) : Option ((Bool × (List Bool) × Bool) × (Int × Int)) := (r4_Value_L0_tm.dec s).bind r4_Value_L0_of
def r4_Value_L0_I (p : Bool × (List Bool) × Bool) (x : Int × Int) : St := r4_Value_L0_tm.enc (r4_Value_L0_to p x)
theorem r4_Value_L0_ev (F : Nat → Prop) (r4_Parts : Int → Bool × Int × Int) (r4_Split : Int → Int × Int) (r1_Of2 : (Int × Int) → (List Bool)) (r1_Of2_s : (Int × Int) → Bool) (r1_Of1 : Int → (List Bool)) (r1_Of1_s : Int → Bool) (r1_Shl : (List Bool) → Int → (List Bool)) (r1_Shl_s : (List Bool) → Int → Bool) (r3_Low : Bool → (List Bool) → (List Bool) → RQ) (r3_Low_s : Bool → (List Bool) → (List Bool) → Bool) (r1_Len : (List Bool) → Int) (r1_Len_s : (List Bool) → Bool) (v3 : Bool) (v9 : List Bool) (h0 : Bool) (v6 : Int) (v7 : Int) (Q : ((Bool × (List Bool) × Bool) × (Int × Int)) ⊕ ((Bool × (List Bool) × Bool) × (Int × Int)) → Prop) : evC Try.prog (mkC ([(102, .s (sumT (aOne (cInt .u64)) fun x => (o3 (cBool) (cInt .i64) (cInt .u64)).enc (r4_Parts x))), (104, .s (sumT (aOne (cInt .u64)) fun x => (o2 (cInt .u64) (cInt .i64)).enc (r4_Split x))), (71, .s (orS (sumOf (aOne (cIntsN .u64 to2 of2 l2)) (fun x => r1_Of2_s x) fun x => (o1 (cBools)).enc (r1_Of2 x)) (sumOf (aOne (cIntsN .u64 to1 of1 l1)) (fun x => r1_Of1_s x) fun x => (o1 (cBools)).enc (r1_Of1 x)))), (65, .s (sumOf (aCons (cBools) (aOne (cInt .i64))) (fun x => r1_Shl_s x.1 x.2) fun x => (o1 (cBools)).enc (r1_Shl x.1 x.2))), (88, .s (sumOf (aCons (cBool) (aCons (cBools) (aOne (cBools)))) (fun x => r3_Low_s x.1 x.2.1 x.2.2) fun x => (o1 (cRQ)).enc (r3_Low x.1 x.2.1 x.2.2))), (73, .s (sumOf (aOne (cBools)) (fun x => r1_Len_s x) fun x => (o1 (cInt .i64)).enc (r1_Len x)))]) F) noL 60 (lp Try.f111 0) (r4_Value_L0_I (v3, v9, h0) (v6, v7)) (fun y s => onO Q (bkE 0 r4_Value_L0_dec y s)) = (r4_Value_L0_T  v3 v9 h0 v6 v7).prop (onT (v3, v9, h0) Q) := by kernel_rfl
set_option maxRecDepth 100000 in
theorem r4_Value_L0_ls {F : Nat → Prop} {B : Nat} {w0 : World} {s : St} {k : X → St → Prop} (hk : (lsE 0 r4_Value_L0_dec r4_Value_L0_I r4_Value_L0_ok r4_Value_L0_v) s k) : EW Try.prog (mkC ([(102, .s (sumT (aOne (cInt .u64)) fun x => (o3 (cBool) (cInt .i64) (cInt .u64)).enc (r4_Parts x))), (104, .s (sumT (aOne (cInt .u64)) fun x => (o2 (cInt .u64) (cInt .i64)).enc (r4_Split x))), (71, .s (orS (sumOf (aOne (cIntsN .u64 to2 of2 l2)) (fun x => r1_Of2_s x) fun x => (o1 (cBools)).enc (r1_Of2 x)) (sumOf (aOne (cIntsN .u64 to1 of1 l1)) (fun x => r1_Of1_s x) fun x => (o1 (cBools)).enc (r1_Of1 x)))), (65, .s (sumOf (aCons (cBools) (aOne (cInt .i64))) (fun x => r1_Shl_s x.1 x.2) fun x => (o1 (cBools)).enc (r1_Shl x.1 x.2))), (88, .s (sumOf (aCons (cBool) (aCons (cBools) (aOne (cBools)))) (fun x => r3_Low_s x.1 x.2.1 x.2.2) fun x => (o1 (cRQ)).enc (r3_Low x.1 x.2.1 x.2.2))), (73, .s (sumOf (aOne (cBools)) (fun x => r1_Len_s x) fun x => (o1 (cInt .i64)).enc (r1_Len x)))]) F) B w0 (.loop (lp Try.f111 0)) s k :=
  lsE_ok (fun _ _ _ h => weak_of r4_Value_L0_ot (.inl rfl) h) (step := r4_Value_L0_step) (fun p x Q h => evC_spec mixed (mkC_ok (AllGood.cons r4_Parts_ok (AllGood.cons r4_Split_ok (AllGood.cons (good_or r1_Of2_ok r1_Of1_ok) (AllGood.cons r1_Shl_ok (AllGood.cons r3_Low_ok (AllGood.cons r1_Len_ok AllGood.nil)))))) F) (L := noL) (u := 60) _ (loops_nil (by kernel_rfl)) _ _ (Eq.mpr (r4_Value_L0_ev F r4_Parts r4_Split r1_Of2 r1_Of2_s r1_Of1 r1_Of1_s r1_Shl r1_Shl_s r3_Low r3_Low_s r1_Len r1_Len_s p.1 p.2.1 p.2.2 x.1 x.2 Q) h)) (fun _ _ h => run_ok h) hk
theorem r4_Value_ev (F : Nat → Prop) (r4_Parts : Int → Bool × Int × Int) (r4_Split : Int → Int × Int) (r1_Of2 : (Int × Int) → (List Bool)) (r1_Of2_s : (Int × Int) → Bool) (r1_Of1 : Int → (List Bool)) (r1_Of1_s : Int → Bool) (r1_Shl : (List Bool) → Int → (List Bool)) (r1_Shl_s : (List Bool) → Int → Bool) (r3_Low : Bool → (List Bool) → (List Bool) → RQ) (r3_Low_s : Bool → (List Bool) → (List Bool) → Bool) (r1_Len : (List Bool) → Int) (r1_Len_s : (List Bool) → Bool) (r4_Value_L0_ok : (Bool × (List Bool) × Bool) → (Int × Int) → Bool) (r4_Value_L0_v : (Bool × (List Bool) × Bool) → (Int × Int) → Int × Int) (f : Int) (Q : AV → Prop) : evF Try.prog (mkC ([(102, .s (sumT (aOne (cInt .u64)) fun x => (o3 (cBool) (cInt .i64) (cInt .u64)).enc (r4_Parts x))), (104, .s (sumT (aOne (cInt .u64)) fun x => (o2 (cInt .u64) (cInt .i64)).enc (r4_Split x))), (71, .s (orS (sumOf (aOne (cIntsN .u64 to2 of2 l2)) (fun x => r1_Of2_s x) fun x => (o1 (cBools)).enc (r1_Of2 x)) (sumOf (aOne (cIntsN .u64 to1 of1 l1)) (fun x => r1_Of1_s x) fun x => (o1 (cBools)).enc (r1_Of1 x)))), (65, .s (sumOf (aCons (cBools) (aOne (cInt .i64))) (fun x => r1_Shl_s x.1 x.2) fun x => (o1 (cBools)).enc (r1_Shl x.1 x.2))), (88, .s (sumOf (aCons (cBool) (aCons (cBools) (aOne (cBools)))) (fun x => r3_Low_s x.1 x.2.1 x.2.2) fun x => (o1 (cRQ)).enc (r3_Low x.1 x.2.1 x.2.2))), (73, .s (sumOf (aOne (cBools)) (fun x => r1_Len_s x) fun x => (o1 (cInt .i64)).enc (r1_Len x)))]) F) (fun id => cond (Nat.beq 7 id) (some (lsE 0 r4_Value_L0_dec r4_Value_L0_I r4_Value_L0_ok r4_Value_L0_v)) (none) : Loops) 60 Try.f111 ((aOne (cInt .u64)).enc false f) Q = (r4_Value_T r4_Parts r4_Split r1_Of1 r1_Of1_s r1_Shl r1_Shl_s r3_Low r3_Low_s r1_Len r1_Len_s r4_Value_L0_ok r4_Value_L0_v f).prop (fun x => Q ((o1 (cRQ)).enc x)) := by kernel_rfl
theorem r4_Value_c (x : Int) (hs : r4_Value_s x = true) (w : World) (vs : Array Value) (hp : ArgsR ((aOne (cInt .u64)).enc false x) w vs) : Calls Try.prog 111 vs w (Ans ((o1 (cRQ)).enc (r4_Value x)) w) :=
  contractT mixed (AllGood.cons r4_Parts_ok (AllGood.cons r4_Split_ok (AllGood.cons (good_or r1_Of2_ok r1_Of1_ok) (AllGood.cons r1_Shl_ok (AllGood.cons r3_Low_ok (AllGood.cons r1_Len_ok AllGood.nil)))))) Try.func111 (fun _ _ _ => loops_all (m := 1) (by kernel_rfl) (fun i hi => match i, hi with
    | 0, _ => (fun g hg s k hk => r4_Value_L0_ls (cast (congrFun (congrFun (Option.some.inj (hg.symm.trans (by kernel_rfl))) s) k) hk))
    | (j + 1), hi => absurd hi (by omega))) hs (fun F => r4_Value_ev F r4_Parts r4_Split r1_Of2 r1_Of2_s r1_Of1 r1_Of1_s r1_Shl r1_Shl_s r3_Low r3_Low_s r1_Len r1_Len_s r4_Value_L0_ok r4_Value_L0_v x) w vs hp
theorem r4_Value_ok : GoodF Try.prog 111 (sumOf (aOne (cInt .u64)) (fun x => r4_Value_s x) fun x => (o1 (cRQ)).enc (r4_Value x)) :=
  good_sum (callable_of Try.func111 (by kernel_rfl) (by kernel_rfl)) r4_Value_c
theorem r4_Key_ev (F : Nat → Prop) (r4_Parts : Int → Bool × Int × Int) (f : Int) (Q : AV → Prop) : evF Try.prog (mkC ([(102, .s (sumT (aOne (cInt .u64)) fun x => (o3 (cBool) (cInt .i64) (cInt .u64)).enc (r4_Parts x)))]) F) noL 60 Try.f173 ((aOne (cInt .u64)).enc false f) Q = (r4_Key_T r4_Parts f).prop (fun x => Q ((o1 (cInt .i64)).enc x)) := by kernel_rfl
theorem r4_Key_c (x : Int) (w : World) (vs : Array Value) (hp : ArgsR ((aOne (cInt .u64)).enc false x) w vs) : Calls Try.prog 173 vs w (Ans ((o1 (cInt .i64)).enc (r4_Key x)) w) :=
  contractT mixed (AllGood.cons r4_Parts_ok AllGood.nil) Try.func173 (fun _ _ _ _ _ => noL_ok) (Tr.safe_of (t := r4_Key_t x) rfl) (fun F => r4_Key_ev F r4_Parts x) w vs hp
theorem r4_Key_ok : GoodF Try.prog 173 (sumT (aOne (cInt .u64)) fun x => (o1 (cInt .i64)).enc (r4_Key x)) :=
  good_sumT (callable_of Try.func173 (by kernel_rfl) (by kernel_rfl)) r4_Key_c
theorem r4_Of_ev (F : Nat → Prop) (r4_Make : Bool → Int → Int → Int) (k : Int) (neg : Bool) (Q : AV → Prop) : evF Try.prog (mkC ([(106, .s (sumT (aCons (cBool) (aCons (cInt .i64) (aOne (cInt .u64)))) fun x => (o1 (cInt .u64)).enc (r4_Make x.1 x.2.1 x.2.2)))]) F) noL 60 Try.f174 ((aCons (cInt .i64) (aOne (cBool))).enc false (k, neg)) Q = (r4_Of_T r4_Make k neg).prop (fun x => Q ((o1 (cInt .u64)).enc x)) := by kernel_rfl
theorem r4_Of_c (x : Int × Bool) (w : World) (vs : Array Value) (hp : ArgsR ((aCons (cInt .i64) (aOne (cBool))).enc false x) w vs) : Calls Try.prog 174 vs w (Ans ((o1 (cInt .u64)).enc (r4_Of x.1 x.2)) w) :=
  contractT mixed (AllGood.cons r4_Make_ok AllGood.nil) Try.func174 (fun _ _ _ _ _ => noL_ok) (Tr.safe_of (t := r4_Of_t x.1 x.2) rfl) (fun F => r4_Of_ev F r4_Make x.1 x.2) w vs hp
theorem r4_Of_ok : GoodF Try.prog 174 (sumT (aCons (cInt .i64) (aOne (cBool))) fun x => (o1 (cInt .u64)).enc (r4_Of x.1 x.2)) :=
  good_sumT (callable_of Try.func174 (by kernel_rfl) (by kernel_rfl)) r4_Of_c
theorem r4_Cmp_ev (F : Nat → Prop) (r4_Class : Int → Int) (r4_Key : Int → Int) (a : Int) (b : Int) (Q : AV → Prop) : evF Try.prog (mkC ([(108, .s (sumT (aOne (cInt .u64)) fun x => (o1 (cInt .u8)).enc (r4_Class x))), (173, .s (sumT (aOne (cInt .u64)) fun x => (o1 (cInt .i64)).enc (r4_Key x)))]) F) noL 60 Try.f124 ((aCons (cInt .u64) (aOne (cInt .u64))).enc false (a, b)) Q = (r4_Cmp_T r4_Class r4_Key a b).prop (fun x => Q ((o2 (cInt .i64) (cBool)).enc x)) := by kernel_rfl
theorem r4_Cmp_c (x : Int × Int) (w : World) (vs : Array Value) (hp : ArgsR ((aCons (cInt .u64) (aOne (cInt .u64))).enc false x) w vs) : Calls Try.prog 124 vs w (Ans ((o2 (cInt .i64) (cBool)).enc (r4_Cmp x.1 x.2)) w) :=
  contractT mixed (AllGood.cons r4_Class_ok (AllGood.cons r4_Key_ok AllGood.nil)) Try.func124 (fun _ _ _ _ _ => noL_ok) (Tr.safe_of (t := r4_Cmp_t x.1 x.2) rfl) (fun F => r4_Cmp_ev F r4_Class r4_Key x.1 x.2) w vs hp
theorem r4_Cmp_ok : GoodF Try.prog 124 (sumT (aCons (cInt .u64) (aOne (cInt .u64))) fun x => (o2 (cInt .i64) (cBool)).enc (r4_Cmp x.1 x.2)) :=
  good_sumT (callable_of Try.func124 (by kernel_rfl) (by kernel_rfl)) r4_Cmp_c
theorem r4_Next_ev (F : Nat → Prop) (r4_Class : Int → Int) (r4_Key : Int → Int) (r4_Of : Int → Bool → Int) (f : Int) (Q : AV → Prop) : evF Try.prog (mkC ([(108, .s (sumT (aOne (cInt .u64)) fun x => (o1 (cInt .u8)).enc (r4_Class x))), (173, .s (sumT (aOne (cInt .u64)) fun x => (o1 (cInt .i64)).enc (r4_Key x))), (174, .s (sumT (aCons (cInt .i64) (aOne (cBool))) fun x => (o1 (cInt .u64)).enc (r4_Of x.1 x.2)))]) F) noL 60 Try.f113 ((aOne (cInt .u64)).enc false f) Q = (r4_Next_T r4_Class r4_Key r4_Of f).prop (fun x => Q ((o1 (cInt .u64)).enc x)) := by kernel_rfl
theorem r4_Next_c (x : Int) (w : World) (vs : Array Value) (hp : ArgsR ((aOne (cInt .u64)).enc false x) w vs) : Calls Try.prog 113 vs w (Ans ((o1 (cInt .u64)).enc (r4_Next x)) w) :=
  contractT mixed (AllGood.cons r4_Class_ok (AllGood.cons r4_Key_ok (AllGood.cons r4_Of_ok AllGood.nil))) Try.func113 (fun _ _ _ _ _ => noL_ok) (Tr.safe_of (t := r4_Next_t x) rfl) (fun F => r4_Next_ev F r4_Class r4_Key r4_Of x) w vs hp
theorem r4_Next_ok : GoodF Try.prog 113 (sumT (aOne (cInt .u64)) fun x => (o1 (cInt .u64)).enc (r4_Next x)) :=
  good_sumT (callable_of Try.func113 (by kernel_rfl) (by kernel_rfl)) r4_Next_c
theorem r4_Prev_ev (F : Nat → Prop) (r4_Class : Int → Int) (r4_Key : Int → Int) (r4_Of : Int → Bool → Int) (f : Int) (Q : AV → Prop) : evF Try.prog (mkC ([(108, .s (sumT (aOne (cInt .u64)) fun x => (o1 (cInt .u8)).enc (r4_Class x))), (173, .s (sumT (aOne (cInt .u64)) fun x => (o1 (cInt .i64)).enc (r4_Key x))), (174, .s (sumT (aCons (cInt .i64) (aOne (cBool))) fun x => (o1 (cInt .u64)).enc (r4_Of x.1 x.2)))]) F) noL 60 Try.f115 ((aOne (cInt .u64)).enc false f) Q = (r4_Prev_T r4_Class r4_Key r4_Of f).prop (fun x => Q ((o1 (cInt .u64)).enc x)) := by kernel_rfl
theorem r4_Prev_c (x : Int) (w : World) (vs : Array Value) (hp : ArgsR ((aOne (cInt .u64)).enc false x) w vs) : Calls Try.prog 115 vs w (Ans ((o1 (cInt .u64)).enc (r4_Prev x)) w) :=
  contractT mixed (AllGood.cons r4_Class_ok (AllGood.cons r4_Key_ok (AllGood.cons r4_Of_ok AllGood.nil))) Try.func115 (fun _ _ _ _ _ => noL_ok) (Tr.safe_of (t := r4_Prev_t x) rfl) (fun F => r4_Prev_ev F r4_Class r4_Key r4_Of x) w vs hp
theorem r4_Prev_ok : GoodF Try.prog 115 (sumT (aOne (cInt .u64)) fun x => (o1 (cInt .u64)).enc (r4_Prev x)) :=
  good_sumT (callable_of Try.func115 (by kernel_rfl) (by kernel_rfl)) r4_Prev_c
end Go.Proofs.Ytggmmkdfgjnjfaa
