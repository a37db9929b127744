/- Layer 4: contracts of the functions. Conditions: as each theorem states. -/
import Derived.Test.YtdkbeajkedffeaaGreatRa
import Derived.Test.YtdkbeajkedffeaaGreatPd
namespace Go.Proofs.YtdkbeajkedffeaaGreat
open Go.Ev Go.Fb
theorem p_Make_ev (F : Nat → Prop)  (neg : Bool) (exp : Int) (frac : Int) (Q : AV → Prop) : evF Tryz.prog (mkC ([]) F) noL 60 Tryz.f81 ((aCons (cBool) (aCons (cInt .i64) (aOne (cInt .u64)))).enc false (neg, exp, frac)) Q = (p_Make_T  neg exp frac).prop (fun x => Q ((o2 (cInt .u64) (cInt .i64)).enc x)) := by kernel_rfl
theorem p_Make_c (x : Bool × Int × Int) (w : World) (vs : Array Value) (hp : ArgsR ((aCons (cBool) (aCons (cInt .i64) (aOne (cInt .u64)))).enc false x) w vs) : Calls Tryz.prog 81 vs w (Ans ((o2 (cInt .u64) (cInt .i64)).enc (p_Make x.1 x.2.1 x.2.2)) w) :=
  contractT mixed AllGood.nil Tryz.func81 (fun _ _ _ _ _ => noL_ok) (Tr.safe_of (t := p_Make_t x.1 x.2.1 x.2.2) rfl) (fun F => p_Make_ev F  x.1 x.2.1 x.2.2) w vs hp
theorem p_Make_ok : GoodF Tryz.prog 81 (sumT (aCons (cBool) (aCons (cInt .i64) (aOne (cInt .u64)))) fun x => (o2 (cInt .u64) (cInt .i64)).enc (p_Make x.1 x.2.1 x.2.2)) :=
  good_sumT (callable_of Tryz.func81 (by kernel_rfl) (by kernel_rfl)) p_Make_c
theorem p_Parts_ev (F : Nat → Prop)  (f : Int) (Q : AV → Prop) : evF Tryz.prog (mkC ([]) F) noL 60 Tryz.f113 ((aOne (cInt .u64)).enc false f) Q = (p_Parts_T  f).prop (fun x => Q ((o3 (cBool) (cInt .i64) (cInt .u64)).enc x)) := by kernel_rfl
theorem p_Parts_c (x : Int) (w : World) (vs : Array Value) (hp : ArgsR ((aOne (cInt .u64)).enc false x) w vs) : Calls Tryz.prog 113 vs w (Ans ((o3 (cBool) (cInt .i64) (cInt .u64)).enc (p_Parts x)) w) :=
  contractT mixed AllGood.nil Tryz.func113 (fun _ _ _ _ _ => noL_ok) (Tr.safe_of (t := p_Parts_t x) rfl) (fun F => p_Parts_ev F  x) w vs hp
theorem p_Parts_ok : GoodF Tryz.prog 113 (sumT (aOne (cInt .u64)) fun x => (o3 (cBool) (cInt .i64) (cInt .u64)).enc (p_Parts x)) :=
  good_sumT (callable_of Tryz.func113 (by kernel_rfl) (by kernel_rfl)) p_Parts_c
theorem p_Class_ev (F : Nat → Prop) (p_Parts : Int → Bool × Int × Int) (f : Int) (Q : AV → Prop) : evF Tryz.prog (mkC ([(113, .s (sumT (aOne (cInt .u64)) fun x => (o3 (cBool) (cInt .i64) (cInt .u64)).enc (p_Parts x)))]) F) noL 60 Tryz.f67 ((aOne (cInt .u64)).enc false f) Q = (p_Class_T p_Parts f).prop (fun x => Q ((o1 (cInt .u8)).enc x)) := by kernel_rfl
theorem p_Class_c (x : Int) (w : World) (vs : Array Value) (hp : ArgsR ((aOne (cInt .u64)).enc false x) w vs) : Calls Tryz.prog 67 vs w (Ans ((o1 (cInt .u8)).enc (p_Class x)) w) :=
  contractT mixed (AllGood.cons p_Parts_ok AllGood.nil) Tryz.func67 (fun _ _ _ _ _ => noL_ok) (Tr.safe_of (t := p_Class_t x) rfl) (fun F => p_Class_ev F p_Parts x) w vs hp
theorem p_Class_ok : GoodF Tryz.prog 67 (sumT (aOne (cInt .u64)) fun x => (o1 (cInt .u8)).enc (p_Class x)) :=
  good_sumT (callable_of Tryz.func67 (by kernel_rfl) (by kernel_rfl)) p_Class_c
theorem p_Split_ev (F : Nat → Prop) (p_Parts : Int → Bool × Int × Int) (p_Class : Int → Int) (f : Int) (Q : AV → Prop) : evF Tryz.prog (mkC ([(113, .s (sumT (aOne (cInt .u64)) fun x => (o3 (cBool) (cInt .i64) (cInt .u64)).enc (p_Parts x))), (67, .s (sumT (aOne (cInt .u64)) fun x => (o1 (cInt .u8)).enc (p_Class x)))]) F) noL 60 Tryz.f68 ((aOne (cInt .u64)).enc false f) Q = (p_Split_T p_Parts p_Class f).prop (fun x => Q ((o2 (cInt .u64) (cInt .i64)).enc x)) := by kernel_rfl
theorem p_Split_c (x : Int) (w : World) (vs : Array Value) (hp : ArgsR ((aOne (cInt .u64)).enc false x) w vs) : Calls Tryz.prog 68 vs w (Ans ((o2 (cInt .u64) (cInt .i64)).enc (p_Split x)) w) :=
  contractT mixed (AllGood.cons p_Parts_ok (AllGood.cons p_Class_ok AllGood.nil)) Tryz.func68 (fun _ _ _ _ _ => noL_ok) (Tr.safe_of (t := p_Split_t x) rfl) (fun F => p_Split_ev F p_Parts p_Class x) w vs hp
theorem p_Split_ok : GoodF Tryz.prog 68 (sumT (aOne (cInt .u64)) fun x => (o2 (cInt .u64) (cInt .i64)).enc (p_Split x)) :=
  good_sumT (callable_of Tryz.func68 (by kernel_rfl) (by kernel_rfl)) p_Split_c
theorem p_Value_ev (F : Nat → Prop) (p_Class : Int → Int) (p_Split : Int → Int × Int) (q_Dyad : Bool → Int → Int → RR × Int) (q_Dyad_s : Bool → Int → Int → Bool) (f : Int) (Q : AV → Prop) : evF Tryz.prog (mkC ([(67, .s (sumT (aOne (cInt .u64)) fun x => (o1 (cInt .u8)).enc (p_Class x))), (68, .s (sumT (aOne (cInt .u64)) fun x => (o2 (cInt .u64) (cInt .i64)).enc (p_Split x))), (69, .s (sumOf (aCons (cBool) (aCons (cInt .u64) (aOne (cInt .i64)))) (fun x => q_Dyad_s x.1 x.2.1 x.2.2) fun x => (o2 (cRR) (cInt .i64)).enc (q_Dyad x.1 x.2.1 x.2.2)))]) F) noL 60 Tryz.f21 ((aOne (cInt .u64)).enc false f) Q = (p_Value_T p_Class p_Split q_Dyad q_Dyad_s f).prop (fun x => Q ((o2 (cRR) (cBool)).enc x)) := by kernel_rfl
theorem p_Value_c (x : Int) (hs : p_Value_s x = true) (w : World) (vs : Array Value) (hp : ArgsR ((aOne (cInt .u64)).enc false x) w vs) : Calls Tryz.prog 21 vs w (Ans ((o2 (cRR) (cBool)).enc (p_Value x)) w) :=
  contractT mixed (AllGood.cons p_Class_ok (AllGood.cons p_Split_ok (AllGood.cons q_Dyad_ok AllGood.nil))) Tryz.func21 (fun _ _ _ _ _ => noL_ok) hs (fun F => p_Value_ev F p_Class p_Split q_Dyad q_Dyad_s x) w vs hp
theorem p_Value_ok : GoodF Tryz.prog 21 (sumOf (aOne (cInt .u64)) (fun x => p_Value_s x) fun x => (o2 (cRR) (cBool)).enc (p_Value x)) :=
  good_sum (callable_of Tryz.func21 (by kernel_rfl) (by kernel_rfl)) p_Value_c
theorem p_key_ev (F : Nat → Prop)  (f : Int) (Q : AV → Prop) : evF Tryz.prog (mkC ([]) F) noL 60 Tryz.f116 ((aOne (cInt .u64)).enc false f) Q = (p_key_T  f).prop (fun x => Q ((o1 (cInt .i64)).enc x)) := by kernel_rfl
theorem p_key_c (x : Int) (w : World) (vs : Array Value) (hp : ArgsR ((aOne (cInt .u64)).enc false x) w vs) : Calls Tryz.prog 116 vs w (Ans ((o1 (cInt .i64)).enc (p_key x)) w) :=
  contractT mixed AllGood.nil Tryz.func116 (fun _ _ _ _ _ => noL_ok) (Tr.safe_of (t := p_key_t x) rfl) (fun F => p_key_ev F  x) w vs hp
theorem p_key_ok : GoodF Tryz.prog 116 (sumT (aOne (cInt .u64)) fun x => (o1 (cInt .i64)).enc (p_key x)) :=
  good_sumT (callable_of Tryz.func116 (by kernel_rfl) (by kernel_rfl)) p_key_c
theorem p_nan_ev (F : Nat → Prop) (p_Class : Int → Int) (f : Int) (Q : AV → Prop) : evF Tryz.prog (mkC ([(67, .s (sumT (aOne (cInt .u64)) fun x => (o1 (cInt .u8)).enc (p_Class x)))]) F) noL 60 Tryz.f108 ((aOne (cInt .u64)).enc false f) Q = (p_nan_T p_Class f).prop (fun x => Q ((o1 (cBool)).enc x)) := by kernel_rfl
theorem p_nan_c (x : Int) (w : World) (vs : Array Value) (hp : ArgsR ((aOne (cInt .u64)).enc false x) w vs) : Calls Tryz.prog 108 vs w (Ans ((o1 (cBool)).enc (p_nan x)) w) :=
  contractT mixed (AllGood.cons p_Class_ok AllGood.nil) Tryz.func108 (fun _ _ _ _ _ => noL_ok) (Tr.safe_of (t := p_nan_t x) rfl) (fun F => p_nan_ev F p_Class x) w vs hp
theorem p_nan_ok : GoodF Tryz.prog 108 (sumT (aOne (cInt .u64)) fun x => (o1 (cBool)).enc (p_nan x)) :=
  good_sumT (callable_of Tryz.func108 (by kernel_rfl) (by kernel_rfl)) p_nan_c
theorem p_Cmp_ev (F : Nat → Prop) (p_nan : Int → Bool) (p_key : Int → Int) (a : Int) (b : Int) (Q : AV → Prop) : evF Tryz.prog (mkC ([(108, .s (sumT (aOne (cInt .u64)) fun x => (o1 (cBool)).enc (p_nan x))), (116, .s (sumT (aOne (cInt .u64)) fun x => (o1 (cInt .i64)).enc (p_key x)))]) F) noL 60 Tryz.f90 ((aCons (cInt .u64) (aOne (cInt .u64))).enc false (a, b)) Q = (p_Cmp_T p_nan p_key a b).prop (fun x => Q ((o2 (cInt .i64) (cBool)).enc x)) := by kernel_rfl
theorem p_Cmp_c (x : Int × Int) (w : World) (vs : Array Value) (hp : ArgsR ((aCons (cInt .u64) (aOne (cInt .u64))).enc false x) w vs) : Calls Tryz.prog 90 vs w (Ans ((o2 (cInt .i64) (cBool)).enc (p_Cmp x.1 x.2)) w) :=
  contractT mixed (AllGood.cons p_nan_ok (AllGood.cons p_key_ok AllGood.nil)) Tryz.func90 (fun _ _ _ _ _ => noL_ok) (Tr.safe_of (t := p_Cmp_t x.1 x.2) rfl) (fun F => p_Cmp_ev F p_nan p_key x.1 x.2) w vs hp
theorem p_Cmp_ok : GoodF Tryz.prog 90 (sumT (aCons (cInt .u64) (aOne (cInt .u64))) fun x => (o2 (cInt .i64) (cBool)).enc (p_Cmp x.1 x.2)) :=
  good_sumT (callable_of Tryz.func90 (by kernel_rfl) (by kernel_rfl)) p_Cmp_c
theorem p_Less_ev (F : Nat → Prop) (p_Cmp : Int → Int → Int × Bool) (a : Int) (b : Int) (Q : AV → Prop) : evF Tryz.prog (mkC ([(90, .s (sumT (aCons (cInt .u64) (aOne (cInt .u64))) fun x => (o2 (cInt .i64) (cBool)).enc (p_Cmp x.1 x.2)))]) F) noL 60 Tryz.f111 ((aCons (cInt .u64) (aOne (cInt .u64))).enc false (a, b)) Q = (p_Less_T p_Cmp a b).prop (fun x => Q ((o1 (cBool)).enc x)) := by kernel_rfl
theorem p_Less_c (x : Int × Int) (w : World) (vs : Array Value) (hp : ArgsR ((aCons (cInt .u64) (aOne (cInt .u64))).enc false x) w vs) : Calls Tryz.prog 111 vs w (Ans ((o1 (cBool)).enc (p_Less x.1 x.2)) w) :=
  contractT mixed (AllGood.cons p_Cmp_ok AllGood.nil) Tryz.func111 (fun _ _ _ _ _ => noL_ok) (Tr.safe_of (t := p_Less_t x.1 x.2) rfl) (fun F => p_Less_ev F p_Cmp x.1 x.2) w vs hp
theorem p_Less_ok : GoodF Tryz.prog 111 (sumT (aCons (cInt .u64) (aOne (cInt .u64))) fun x => (o1 (cBool)).enc (p_Less x.1 x.2)) :=
  good_sumT (callable_of Tryz.func111 (by kernel_rfl) (by kernel_rfl)) p_Less_c
theorem p_Inf_ev (F : Nat → Prop) (p_Make : Bool → Int → Int → Int × Int) (neg : Bool) (Q : AV → Prop) : evF Tryz.prog (mkC ([(81, .s (sumT (aCons (cBool) (aCons (cInt .i64) (aOne (cInt .u64)))) fun x => (o2 (cInt .u64) (cInt .i64)).enc (p_Make x.1 x.2.1 x.2.2)))]) F) noL 60 Tryz.f36 ((aOne (cBool)).enc false neg) Q = (p_Inf_T p_Make neg).prop (fun x => Q ((o1 (cInt .u64)).enc x)) := by kernel_rfl
theorem p_Inf_c (x : Bool) (w : World) (vs : Array Value) (hp : ArgsR ((aOne (cBool)).enc false x) w vs) : Calls Tryz.prog 36 vs w (Ans ((o1 (cInt .u64)).enc (p_Inf x)) w) :=
  contractT mixed (AllGood.cons p_Make_ok AllGood.nil) Tryz.func36 (fun _ _ _ _ _ => noL_ok) (Tr.safe_of (t := p_Inf_t x) rfl) (fun F => p_Inf_ev F p_Make x) w vs hp
theorem p_Inf_ok : GoodF Tryz.prog 36 (sumT (aOne (cBool)) fun x => (o1 (cInt .u64)).enc (p_Inf x)) :=
  good_sumT (callable_of Tryz.func36 (by kernel_rfl) (by kernel_rfl)) p_Inf_c
theorem p_Next_ev (F : Nat → Prop) (p_nan : Int → Bool) (p_Inf : Bool → Int) (p_key : Int → Int) (f : Int) (Q : AV → Prop) : evF Tryz.prog (mkC ([(108, .s (sumT (aOne (cInt .u64)) fun x => (o1 (cBool)).enc (p_nan x))), (36, .s (sumT (aOne (cBool)) fun x => (o1 (cInt .u64)).enc (p_Inf x))), (116, .s (sumT (aOne (cInt .u64)) fun x => (o1 (cInt .i64)).enc (p_key x)))]) F) noL 60 Tryz.f70 ((aOne (cInt .u64)).enc false f) Q = (p_Next_T p_nan p_Inf p_key f).prop (fun x => Q ((o1 (cInt .u64)).enc x)) := by kernel_rfl
theorem p_Next_c (x : Int) (w : World) (vs : Array Value) (hp : ArgsR ((aOne (cInt .u64)).enc false x) w vs) : Calls Tryz.prog 70 vs w (Ans ((o1 (cInt .u64)).enc (p_Next x)) w) :=
  contractT mixed (AllGood.cons p_nan_ok (AllGood.cons p_Inf_ok (AllGood.cons p_key_ok AllGood.nil))) Tryz.func70 (fun _ _ _ _ _ => noL_ok) (Tr.safe_of (t := p_Next_t x) rfl) (fun F => p_Next_ev F p_nan p_Inf p_key x) w vs hp
theorem p_Next_ok : GoodF Tryz.prog 70 (sumT (aOne (cInt .u64)) fun x => (o1 (cInt .u64)).enc (p_Next x)) :=
  good_sumT (callable_of Tryz.func70 (by kernel_rfl) (by kernel_rfl)) p_Next_c
theorem p_Neg_ev (F : Nat → Prop) (p_nan : Int → Bool) (f : Int) (Q : AV → Prop) : evF Tryz.prog (mkC ([(108, .s (sumT (aOne (cInt .u64)) fun x => (o1 (cBool)).enc (p_nan x)))]) F) noL 60 Tryz.f63 ((aOne (cInt .u64)).enc false f) Q = (p_Neg_T p_nan f).prop (fun x => Q ((o1 (cInt .u64)).enc x)) := by kernel_rfl
theorem p_Neg_c (x : Int) (w : World) (vs : Array Value) (hp : ArgsR ((aOne (cInt .u64)).enc false x) w vs) : Calls Tryz.prog 63 vs w (Ans ((o1 (cInt .u64)).enc (p_Neg x)) w) :=
  contractT mixed (AllGood.cons p_nan_ok AllGood.nil) Tryz.func63 (fun _ _ _ _ _ => noL_ok) (Tr.safe_of (t := p_Neg_t x) rfl) (fun F => p_Neg_ev F p_nan x) w vs hp
theorem p_Neg_ok : GoodF Tryz.prog 63 (sumT (aOne (cInt .u64)) fun x => (o1 (cInt .u64)).enc (p_Neg x)) :=
  good_sumT (callable_of Tryz.func63 (by kernel_rfl) (by kernel_rfl)) p_Neg_c
theorem p_Prev_ev (F : Nat → Prop) (p_Neg : Int → Int) (p_Next : Int → Int) (f : Int) (Q : AV → Prop) : evF Tryz.prog (mkC ([(63, .s (sumT (aOne (cInt .u64)) fun x => (o1 (cInt .u64)).enc (p_Neg x))), (70, .s (sumT (aOne (cInt .u64)) fun x => (o1 (cInt .u64)).enc (p_Next x)))]) F) noL 60 Tryz.f71 ((aOne (cInt .u64)).enc false f) Q = (p_Prev_T p_Neg p_Next f).prop (fun x => Q ((o1 (cInt .u64)).enc x)) := by kernel_rfl
theorem p_Prev_c (x : Int) (w : World) (vs : Array Value) (hp : ArgsR ((aOne (cInt .u64)).enc false x) w vs) : Calls Tryz.prog 71 vs w (Ans ((o1 (cInt .u64)).enc (p_Prev x)) w) :=
  contractT mixed (AllGood.cons p_Neg_ok (AllGood.cons p_Next_ok AllGood.nil)) Tryz.func71 (fun _ _ _ _ _ => noL_ok) (Tr.safe_of (t := p_Prev_t x) rfl) (fun F => p_Prev_ev F p_Neg p_Next x) w vs hp
theorem p_Prev_ok : GoodF Tryz.prog 71 (sumT (aOne (cInt .u64)) fun x => (o1 (cInt .u64)).enc (p_Prev x)) :=
  good_sumT (callable_of Tryz.func71 (by kernel_rfl) (by kernel_rfl)) p_Prev_c
theorem p_Quiet_ev (F : Nat → Prop)   (Q : AV → Prop) : evF Tryz.prog (mkC ([]) F) noL 60 Tryz.f85 (aNil.enc false ()) Q = (p_Quiet_T  ).prop (fun x => Q ((o1 (cInt .u64)).enc x)) := by kernel_rfl
theorem p_Quiet_c (x : Unit) (w : World) (vs : Array Value) (hp : ArgsR (aNil.enc false x) w vs) : Calls Tryz.prog 85 vs w (Ans ((o1 (cInt .u64)).enc (p_Quiet )) w) :=
  contractT mixed AllGood.nil Tryz.func85 (fun _ _ _ _ _ => noL_ok) (Tr.safe_of (t := p_Quiet_t ) rfl) (fun F => p_Quiet_ev F  ) w vs hp
theorem p_Quiet_ok : GoodF Tryz.prog 85 (sumT aNil fun _ => (o1 (cInt .u64)).enc (p_Quiet )) :=
  good_sumT (callable_of Tryz.func85 (by kernel_rfl) (by kernel_rfl)) p_Quiet_c
theorem p_Max1_ev (F : Nat → Prop) (p_Less : Int → Int → Bool) (a : Int) (b : Int) (Q : AV → Prop) : evF Tryz.prog (mkC ([(111, .s (sumT (aCons (cInt .u64) (aOne (cInt .u64))) fun x => (o1 (cBool)).enc (p_Less x.1 x.2)))]) F) noL 60 Tryz.f110 ((aCons (cInt .u64) (aOne (cInt .u64))).enc false (a, b)) Q = (p_Max1_T p_Less a b).prop (fun x => Q ((o1 (cBool)).enc x)) := by kernel_rfl
theorem p_Max1_c (x : Int × Int) (w : World) (vs : Array Value) (hp : ArgsR ((aCons (cInt .u64) (aOne (cInt .u64))).enc false x) w vs) : Calls Tryz.prog 110 vs w (Ans ((o1 (cBool)).enc (p_Max1 x.1 x.2)) w) :=
  contractT mixed (AllGood.cons p_Less_ok AllGood.nil) Tryz.func110 (fun _ _ _ _ _ => noL_ok) (Tr.safe_of (t := p_Max1_t x.1 x.2) rfl) (fun F => p_Max1_ev F p_Less x.1 x.2) w vs hp
theorem p_Max1_ok : GoodF Tryz.prog 110 (sumT (aCons (cInt .u64) (aOne (cInt .u64))) fun x => (o1 (cBool)).enc (p_Max1 x.1 x.2)) :=
  good_sumT (callable_of Tryz.func110 (by kernel_rfl) (by kernel_rfl)) p_Max1_c
def p_bestM_L0_tm : Tm :=
  Tm.mk
    [none, some (false, [Sh.clo 110 []]), none, none, none, some (false, [Sh.int IntKind.u64]), none, none, none, none,
      none, none, none, none, none, some (false, [Sh.veci false IntKind.u64]), some (false, [Sh.int IntKind.i64]),
      some (false, [Sh.int IntKind.i64]), none, none, none, none, none, none, none, none, none, none, none, none, none]
    [] false
def p_bestM_L0_of : List Pv → Option (((List Int) × Int) × (Int × Int))
  | [.i v5, .il v15, .i v16, .i v17] => some ((v15, v16), (v5, v17))
  | _ => none
def p_bestM_L0_to (p : (List Int) × Int) (x : Int × Int) : List Pv := [.i x.1, .il p.1, .i p.2, .i x.2]
theorem p_bestM_L0_ot (l : List Pv) (p : (List Int) × Int) (x : Int × Int) (h : p_bestM_L0_of l = some (p, x)) : p_bestM_L0_to p x = l := by
  unfold p_bestM_L0_of at h
  split at h
  · cases h; rfl
  · cases h
def p_bestM_L0_dec (s : St) : Option (((List Int) × Int) × (Int × Int)) := (p_bestM_L0_tm.dec s).bind p_bestM_L0_of
def p_bestM_L0_I (p : (List Int) × Int) (x : Int × Int) : St := p_bestM_L0_tm.enc (p_bestM_L0_to p x)
def p_bestM_L0_tmR : Tm :=
  Tm.mk
    [none, none, none, none, some (false, [Sh.int IntKind.u64]), none, none, none, none, none, none, none, none, none,
      none, none, none, none, none, none, none, none, none, none, none, none, none, none, none, none, none]
    [] false
def p_bestM_L0_ofR : List Pv → Option (Int)
  | [.i v4] => some v4
  | _ => none
def p_bestM_L0_toR (r : Int) : List Pv := [.i r]
theorem p_bestM_L0_otR (l : List Pv) (r : Int) (h : p_bestM_L0_ofR l = some r) : p_bestM_L0_toR r = l := by
  unfold p_bestM_L0_ofR at h
  split at h
  · cases h; rfl
  · cases h
def p_bestM_L0_decR (s : St) : Option (Int) := (p_bestM_L0_tmR.dec s).bind p_bestM_L0_ofR
def p_bestM_L0_R (r : Int) : St := p_bestM_L0_tmR.enc (p_bestM_L0_toR r)
theorem p_bestM_L0_ev (F : Nat → Prop) (p_Quiet : Int) (p_nan : Int → Bool) (p_Max1 : Int → Int → Bool) (p_Less : Int → Int → Bool) (v15 : List Int) (v16 : Int) (v5 : Int) (v17 : Int) (Q : (((List Int) × Int) × (Int × Int)) ⊕ ((((List Int) × Int) × (Int × Int)) ⊕ (Int)) → Prop) : evC Tryz.prog (mkC ([(85, .s (sumT aNil fun _ => (o1 (cInt .u64)).enc (p_Quiet ))), (108, .s (sumT (aOne (cInt .u64)) fun x => (o1 (cBool)).enc (p_nan x))), (110, .s (sumT (aCons (cInt .u64) (aOne (cInt .u64))) fun x => (o1 (cBool)).enc (p_Max1 x.1 x.2))), (111, .s (sumT (aCons (cInt .u64) (aOne (cInt .u64))) fun x => (o1 (cBool)).enc (p_Less x.1 x.2)))]) F) noL 60 (lp Tryz.f109 0) (p_bestM_L0_I (v15, v16) (v5, v17)) (fun y s => onO Q (bkB 0 p_bestM_L0_dec p_bestM_L0_decR y s)) = (p_bestM_L0_T p_Quiet p_nan p_Max1 v15 v16 v5 v17).prop (onB (v15, v16) Q) := by kernel_rfl
set_option maxRecDepth 100000 in
theorem p_bestM_L0_ls {F : Nat → Prop} {B : Nat} {w0 : World} {s : St} {k : X → St → Prop} (hk : (lsB 0 p_bestM_L0_dec p_bestM_L0_I p_bestM_L0_R p_bestM_L0_ok p_bestM_L0_rt p_bestM_L0_v p_bestM_L0_rv) s k) : EW Tryz.prog (mkC ([(85, .s (sumT aNil fun _ => (o1 (cInt .u64)).enc (p_Quiet ))), (108, .s (sumT (aOne (cInt .u64)) fun x => (o1 (cBool)).enc (p_nan x))), (110, .s (sumT (aCons (cInt .u64) (aOne (cInt .u64))) fun x => (o1 (cBool)).enc (p_Max1 x.1 x.2))), (111, .s (sumT (aCons (cInt .u64) (aOne (cInt .u64))) fun x => (o1 (cBool)).enc (p_Less x.1 x.2)))]) F) B w0 (.loop (lp Tryz.f109 0)) s k :=
  lsB_ok (fun _ _ _ h => weak_of p_bestM_L0_ot (.inl rfl) h) (fun _ _ h => weak_ofR p_bestM_L0_otR (.inl rfl) h) (step := p_bestM_L0_step) (fun p x Q h => evC_spec mixed (mkC_ok (AllGood.cons p_Quiet_ok (AllGood.cons p_nan_ok (AllGood.cons p_Max1_ok (AllGood.cons p_Less_ok AllGood.nil)))) F) (L := noL) (u := 60) _ (loops_nil (by kernel_rfl)) _ _ (Eq.mpr (p_bestM_L0_ev F p_Quiet p_nan p_Max1 p_Less p.1 p.2 x.1 x.2 Q) h)) (fun _ _ h => run_okB h) hk
theorem p_bestM_ev (F : Nat → Prop) (p_Quiet : Int) (p_nan : Int → Bool) (p_Max1 : Int → Int → Bool) (p_Less : Int → Int → Bool) (p_bestM_L0_ok : ((List Int) × Int) → (Int × Int) → Bool) (p_bestM_L0_rt : ((List Int) × Int) → (Int × Int) → Bool) (p_bestM_L0_v : ((List Int) × Int) → (Int × Int) → Int × Int) (p_bestM_L0_rv : ((List Int) × Int) → (Int × Int) → Int) (l : List Int) (g : Unit) (Q : AV → Prop) : evF Tryz.prog (mkC ([(85, .s (sumT aNil fun _ => (o1 (cInt .u64)).enc (p_Quiet ))), (108, .s (sumT (aOne (cInt .u64)) fun x => (o1 (cBool)).enc (p_nan x))), (110, .s (sumT (aCons (cInt .u64) (aOne (cInt .u64))) fun x => (o1 (cBool)).enc (p_Max1 x.1 x.2))), (111, .s (sumT (aCons (cInt .u64) (aOne (cInt .u64))) fun x => (o1 (cBool)).enc (p_Less x.1 x.2)))]) F) (fun id => cond (Nat.beq 5 id) (some (lsB 0 p_bestM_L0_dec p_bestM_L0_I p_bestM_L0_R p_bestM_L0_ok p_bestM_L0_rt p_bestM_L0_v p_bestM_L0_rv)) (none) : Loops) 60 Tryz.f109 ((aCons (cInts .u64) (aOne (cFn 110))).enc false (l, g)) Q = (p_bestM_T p_Quiet p_bestM_L0_ok p_bestM_L0_rt p_bestM_L0_v p_bestM_L0_rv l g).prop (fun x => Q ((o1 (cInt .u64)).enc x)) := by kernel_rfl
theorem p_bestM_c (x : (List Int) × Unit) (hs : p_bestM_s x.1 x.2 = true) (w : World) (vs : Array Value) (hp : ArgsR ((aCons (cInts .u64) (aOne (cFn 110))).enc false x) w vs) : Calls Tryz.prog 109 vs w (Ans ((o1 (cInt .u64)).enc (p_bestM x.1 x.2)) w) :=
  contractT mixed (AllGood.cons p_Quiet_ok (AllGood.cons p_nan_ok (AllGood.cons p_Max1_ok (AllGood.cons p_Less_ok AllGood.nil)))) Tryz.func109 (fun _ _ _ => loops_all (m := 1) (by kernel_rfl) (fun i hi => match i, hi with
    | 0, _ => (fun g hg s k hk => p_bestM_L0_ls (cast (congrFun (congrFun (Option.some.inj (hg.symm.trans (by kernel_rfl))) s) k) hk))
    | (j + 1), hi => absurd hi (by omega))) hs (fun F => p_bestM_ev F p_Quiet p_nan p_Max1 p_Less p_bestM_L0_ok p_bestM_L0_rt p_bestM_L0_v p_bestM_L0_rv x.1 x.2) w vs hp
theorem p_bestM_ok : GoodF Tryz.prog 109 (sumOf (aCons (cInts .u64) (aOne (cFn 110))) (fun x => p_bestM_s x.1 x.2) fun x => (o1 (cInt .u64)).enc (p_bestM x.1 x.2)) :=
  good_sum (callable_of Tryz.func109 (by kernel_rfl) (by kernel_rfl)) p_bestM_c
def p_bestL_L0_tm : Tm :=
  Tm.mk
    [none, some (false, [Sh.clo 111 []]), none, none, none, some (false, [Sh.int IntKind.u64]), none, none, none, none,
      none, none, none, none, none, some (false, [Sh.veci false IntKind.u64]), some (false, [Sh.int IntKind.i64]),
      some (false, [Sh.int IntKind.i64]), none, none, none, none, none, none, none, none, none, none, none, none, none]
    [] false
def p_bestL_L0_of : List Pv → Option (((List Int) × Int) × (Int × Int))
  | [.i v5, .il v15, .i v16, .i v17] => some ((v15, v16), (v5, v17))
  | _ => none
def p_bestL_L0_to (p : (List Int) × Int) (x : Int × Int) : List Pv := [.i x.1, .il p.1, .i p.2, .i x.2]
theorem p_bestL_L0_ot (l : List Pv) (p : (List Int) × Int) (x : Int × Int) (h : p_bestL_L0_of l = some (p, x)) : p_bestL_L0_to p x = l := by
  unfold p_bestL_L0_of at h
  split at h
  · cases h; rfl
  · cases h
def p_bestL_L0_dec (s : St) : Option (((List Int) × Int) × (Int × Int)) := (p_bestL_L0_tm.dec s).bind p_bestL_L0_of
def p_bestL_L0_I (p : (List Int) × Int) (x : Int × Int) : St := p_bestL_L0_tm.enc (p_bestL_L0_to p x)
def p_bestL_L0_tmR : Tm :=
  Tm.mk
    [none, none, none, none, some (false, [Sh.int IntKind.u64]), none, none, none, none, none, none, none, none, none,
      none, none, none, none, none, none, none, none, none, none, none, none, none, none, none, none, none]
    [] false
def p_bestL_L0_ofR : List Pv → Option (Int)
  | [.i v4] => some v4
  | _ => none
def p_bestL_L0_toR (r : Int) : List Pv := [.i r]
theorem p_bestL_L0_otR (l : List Pv) (r : Int) (h : p_bestL_L0_ofR l = some r) : p_bestL_L0_toR r = l := by
  unfold p_bestL_L0_ofR at h
  split at h
  · cases h; rfl
  · cases h
def p_bestL_L0_decR (s : St) : Option (Int) := (p_bestL_L0_tmR.dec s).bind p_bestL_L0_ofR
def p_bestL_L0_R (r : Int) : St := p_bestL_L0_tmR.enc (p_bestL_L0_toR r)
theorem p_bestL_L0_ev (F : Nat → Prop) (p_Quiet : Int) (p_nan : Int → Bool) (p_Less : Int → Int → Bool) (v15 : List Int) (v16 : Int) (v5 : Int) (v17 : Int) (Q : (((List Int) × Int) × (Int × Int)) ⊕ ((((List Int) × Int) × (Int × Int)) ⊕ (Int)) → Prop) : evC Tryz.prog (mkC ([(85, .s (sumT aNil fun _ => (o1 (cInt .u64)).enc (p_Quiet ))), (108, .s (sumT (aOne (cInt .u64)) fun x => (o1 (cBool)).enc (p_nan x))), (111, .s (sumT (aCons (cInt .u64) (aOne (cInt .u64))) fun x => (o1 (cBool)).enc (p_Less x.1 x.2)))]) F) noL 60 (lp Tryz.f109 0) (p_bestL_L0_I (v15, v16) (v5, v17)) (fun y s => onO Q (bkB 0 p_bestL_L0_dec p_bestL_L0_decR y s)) = (p_bestL_L0_T p_Quiet p_nan p_Less v15 v16 v5 v17).prop (onB (v15, v16) Q) := by kernel_rfl
set_option maxRecDepth 100000 in
theorem p_bestL_L0_ls {F : Nat → Prop} {B : Nat} {w0 : World} {s : St} {k : X → St → Prop} (hk : (lsB 0 p_bestL_L0_dec p_bestL_L0_I p_bestL_L0_R p_bestL_L0_ok p_bestL_L0_rt p_bestL_L0_v p_bestL_L0_rv) s k) : EW Tryz.prog (mkC ([(85, .s (sumT aNil fun _ => (o1 (cInt .u64)).enc (p_Quiet ))), (108, .s (sumT (aOne (cInt .u64)) fun x => (o1 (cBool)).enc (p_nan x))), (111, .s (sumT (aCons (cInt .u64) (aOne (cInt .u64))) fun x => (o1 (cBool)).enc (p_Less x.1 x.2)))]) F) B w0 (.loop (lp Tryz.f109 0)) s k :=
  lsB_ok (fun _ _ _ h => weak_of p_bestL_L0_ot (.inl rfl) h) (fun _ _ h => weak_ofR p_bestL_L0_otR (.inl rfl) h) (step := p_bestL_L0_step) (fun p x Q h => evC_spec mixed (mkC_ok (AllGood.cons p_Quiet_ok (AllGood.cons p_nan_ok (AllGood.cons p_Less_ok AllGood.nil))) F) (L := noL) (u := 60) _ (loops_nil (by kernel_rfl)) _ _ (Eq.mpr (p_bestL_L0_ev F p_Quiet p_nan p_Less p.1 p.2 x.1 x.2 Q) h)) (fun _ _ h => run_okB h) hk
theorem p_bestL_ev (F : Nat → Prop) (p_Quiet : Int) (p_nan : Int → Bool) (p_Less : Int → Int → Bool) (p_bestL_L0_ok : ((List Int) × Int) → (Int × Int) → Bool) (p_bestL_L0_rt : ((List Int) × Int) → (Int × Int) → Bool) (p_bestL_L0_v : ((List Int) × Int) → (Int × Int) → Int × Int) (p_bestL_L0_rv : ((List Int) × Int) → (Int × Int) → Int) (l : List Int) (g : Unit) (Q : AV → Prop) : evF Tryz.prog (mkC ([(85, .s (sumT aNil fun _ => (o1 (cInt .u64)).enc (p_Quiet ))), (108, .s (sumT (aOne (cInt .u64)) fun x => (o1 (cBool)).enc (p_nan x))), (111, .s (sumT (aCons (cInt .u64) (aOne (cInt .u64))) fun x => (o1 (cBool)).enc (p_Less x.1 x.2)))]) F) (fun id => cond (Nat.beq 5 id) (some (lsB 0 p_bestL_L0_dec p_bestL_L0_I p_bestL_L0_R p_bestL_L0_ok p_bestL_L0_rt p_bestL_L0_v p_bestL_L0_rv)) (none) : Loops) 60 Tryz.f109 ((aCons (cInts .u64) (aOne (cFn 111))).enc false (l, g)) Q = (p_bestL_T p_Quiet p_bestL_L0_ok p_bestL_L0_rt p_bestL_L0_v p_bestL_L0_rv l g).prop (fun x => Q ((o1 (cInt .u64)).enc x)) := by kernel_rfl
theorem p_bestL_c (x : (List Int) × Unit) (hs : p_bestL_s x.1 x.2 = true) (w : World) (vs : Array Value) (hp : ArgsR ((aCons (cInts .u64) (aOne (cFn 111))).enc false x) w vs) : Calls Tryz.prog 109 vs w (Ans ((o1 (cInt .u64)).enc (p_bestL x.1 x.2)) w) :=
  contractT mixed (AllGood.cons p_Quiet_ok (AllGood.cons p_nan_ok (AllGood.cons p_Less_ok AllGood.nil))) Tryz.func109 (fun _ _ _ => loops_all (m := 1) (by kernel_rfl) (fun i hi => match i, hi with
    | 0, _ => (fun g hg s k hk => p_bestL_L0_ls (cast (congrFun (congrFun (Option.some.inj (hg.symm.trans (by kernel_rfl))) s) k) hk))
    | (j + 1), hi => absurd hi (by omega))) hs (fun F => p_bestL_ev F p_Quiet p_nan p_Less p_bestL_L0_ok p_bestL_L0_rt p_bestL_L0_v p_bestL_L0_rv x.1 x.2) w vs hp
theorem p_bestL_ok : GoodF Tryz.prog 109 (sumOf (aCons (cInts .u64) (aOne (cFn 111))) (fun x => p_bestL_s x.1 x.2) fun x => (o1 (cInt .u64)).enc (p_bestL x.1 x.2)) :=
  good_sum (callable_of Tryz.func109 (by kernel_rfl) (by kernel_rfl)) p_bestL_c
theorem p_Max_ev (F : Nat → Prop) (p_bestL : (List Int) → Unit → Int) (p_bestL_s : (List Int) → Unit → Bool) (p_bestM : (List Int) → Unit → Int) (p_bestM_s : (List Int) → Unit → Bool) (p_Max1 : Int → Int → Bool) (p_Less : Int → Int → Bool) (l : List Int) (Q : AV → Prop) : evF Tryz.prog (mkC ([(109, .s (orS (sumOf (aCons (cInts .u64) (aOne (cFn 111))) (fun x => p_bestL_s x.1 x.2) fun x => (o1 (cInt .u64)).enc (p_bestL x.1 x.2)) (sumOf (aCons (cInts .u64) (aOne (cFn 110))) (fun x => p_bestM_s x.1 x.2) fun x => (o1 (cInt .u64)).enc (p_bestM x.1 x.2)))), (110, .s (sumT (aCons (cInt .u64) (aOne (cInt .u64))) fun x => (o1 (cBool)).enc (p_Max1 x.1 x.2))), (111, .s (sumT (aCons (cInt .u64) (aOne (cInt .u64))) fun x => (o1 (cBool)).enc (p_Less x.1 x.2)))]) F) noL 60 Tryz.f64 ((aOne (cInts .u64)).enc false l) Q = (p_Max_T p_bestM p_bestM_s l).prop (fun x => Q ((o1 (cInt .u64)).enc x)) := by kernel_rfl
theorem p_Max_c (x : (List Int)) (hs : p_Max_s x = true) (w : World) (vs : Array Value) (hp : ArgsR ((aOne (cInts .u64)).enc false x) w vs) : Calls Tryz.prog 64 vs w (Ans ((o1 (cInt .u64)).enc (p_Max x)) w) :=
  contractT mixed (AllGood.cons (good_or p_bestL_ok p_bestM_ok) (AllGood.cons p_Max1_ok (AllGood.cons p_Less_ok AllGood.nil))) Tryz.func64 (fun _ _ _ _ _ => noL_ok) hs (fun F => p_Max_ev F p_bestL p_bestL_s p_bestM p_bestM_s p_Max1 p_Less x) w vs hp
theorem p_Max_ok : GoodF Tryz.prog 64 (sumOf (aOne (cInts .u64)) (fun x => p_Max_s x) fun x => (o1 (cInt .u64)).enc (p_Max x)) :=
  good_sum (callable_of Tryz.func64 (by kernel_rfl) (by kernel_rfl)) p_Max_c
theorem p_Min_ev (F : Nat → Prop) (p_bestL : (List Int) → Unit → Int) (p_bestL_s : (List Int) → Unit → Bool) (p_bestM : (List Int) → Unit → Int) (p_bestM_s : (List Int) → Unit → Bool) (p_Less : Int → Int → Bool) (l : List Int) (Q : AV → Prop) : evF Tryz.prog (mkC ([(109, .s (orS (sumOf (aCons (cInts .u64) (aOne (cFn 111))) (fun x => p_bestL_s x.1 x.2) fun x => (o1 (cInt .u64)).enc (p_bestL x.1 x.2)) (sumOf (aCons (cInts .u64) (aOne (cFn 110))) (fun x => p_bestM_s x.1 x.2) fun x => (o1 (cInt .u64)).enc (p_bestM x.1 x.2)))), (111, .s (sumT (aCons (cInt .u64) (aOne (cInt .u64))) fun x => (o1 (cBool)).enc (p_Less x.1 x.2)))]) F) noL 60 Tryz.f65 ((aOne (cInts .u64)).enc false l) Q = (p_Min_T p_bestL p_bestL_s l).prop (fun x => Q ((o1 (cInt .u64)).enc x)) := by kernel_rfl
theorem p_Min_c (x : (List Int)) (hs : p_Min_s x = true) (w : World) (vs : Array Value) (hp : ArgsR ((aOne (cInts .u64)).enc false x) w vs) : Calls Tryz.prog 65 vs w (Ans ((o1 (cInt .u64)).enc (p_Min x)) w) :=
  contractT mixed (AllGood.cons (good_or p_bestL_ok p_bestM_ok) (AllGood.cons p_Less_ok AllGood.nil)) Tryz.func65 (fun _ _ _ _ _ => noL_ok) hs (fun F => p_Min_ev F p_bestL p_bestL_s p_bestM p_bestM_s p_Less x) w vs hp
theorem p_Min_ok : GoodF Tryz.prog 65 (sumOf (aOne (cInts .u64)) (fun x => p_Min_s x) fun x => (o1 (cInt .u64)).enc (p_Min x)) :=
  good_sum (callable_of Tryz.func65 (by kernel_rfl) (by kernel_rfl)) p_Min_c
end Go.Proofs.YtdkbeajkedffeaaGreat
