/- Layer 4: contracts of the functions. Conditions: as each theorem states. -/
import Derived.Test.YtggmmkdfgjnjfaaRa
import Derived.Test.YtggmmkdfgjnjfaaPd
namespace Go.Proofs.Ytggmmkdfgjnjfaa
open Go.Ev Go.Fb
theorem p_Make_ev (F : Nat → Prop)  (neg : Bool) (exp : Int) (frac : Int) (Q : AV → Prop) : evF Try.prog (mkC ([]) F) noL 60 Try.f105 ((aCons (cBool) (aCons (cInt .i64) (aOne (cInt .u64)))).enc false (neg, exp, frac)) Q = (p_Make_T  neg exp frac).prop (fun x => Q ((o2 (cInt .u64) (cInt .i64)).enc x)) := by kernel_rfl
theorem p_Make_c (x : Bool × Int × Int) (w : World) (vs : Array Value) (hp : ArgsR ((aCons (cBool) (aCons (cInt .i64) (aOne (cInt .u64)))).enc false x) w vs) : Calls Try.prog 105 vs w (Ans ((o2 (cInt .u64) (cInt .i64)).enc (p_Make x.1 x.2.1 x.2.2)) w) :=
  contractT mixed AllGood.nil Try.func105 (fun _ _ _ _ _ => noL_ok) (Tr.safe_of (t := p_Make_t x.1 x.2.1 x.2.2) rfl) (fun F => p_Make_ev F  x.1 x.2.1 x.2.2) w vs hp
theorem p_Make_ok : GoodF Try.prog 105 (sumT (aCons (cBool) (aCons (cInt .i64) (aOne (cInt .u64)))) fun x => (o2 (cInt .u64) (cInt .i64)).enc (p_Make x.1 x.2.1 x.2.2)) :=
  good_sumT (callable_of Try.func105 (by kernel_rfl) (by kernel_rfl)) p_Make_c
theorem p_Parts_ev (F : Nat → Prop)  (f : Int) (Q : AV → Prop) : evF Try.prog (mkC ([]) F) noL 60 Try.f101 ((aOne (cInt .u64)).enc false f) Q = (p_Parts_T  f).prop (fun x => Q ((o3 (cBool) (cInt .i64) (cInt .u64)).enc x)) := by kernel_rfl
theorem p_Parts_c (x : Int) (w : World) (vs : Array Value) (hp : ArgsR ((aOne (cInt .u64)).enc false x) w vs) : Calls Try.prog 101 vs w (Ans ((o3 (cBool) (cInt .i64) (cInt .u64)).enc (p_Parts x)) w) :=
  contractT mixed AllGood.nil Try.func101 (fun _ _ _ _ _ => noL_ok) (Tr.safe_of (t := p_Parts_t x) rfl) (fun F => p_Parts_ev F  x) w vs hp
theorem p_Parts_ok : GoodF Try.prog 101 (sumT (aOne (cInt .u64)) fun x => (o3 (cBool) (cInt .i64) (cInt .u64)).enc (p_Parts x)) :=
  good_sumT (callable_of Try.func101 (by kernel_rfl) (by kernel_rfl)) p_Parts_c
theorem p_Class_ev (F : Nat → Prop) (p_Parts : Int → Bool × Int × Int) (f : Int) (Q : AV → Prop) : evF Try.prog (mkC ([(101, .s (sumT (aOne (cInt .u64)) fun x => (o3 (cBool) (cInt .i64) (cInt .u64)).enc (p_Parts x)))]) F) noL 60 Try.f107 ((aOne (cInt .u64)).enc false f) Q = (p_Class_T p_Parts f).prop (fun x => Q ((o1 (cInt .u8)).enc x)) := by kernel_rfl
theorem p_Class_c (x : Int) (w : World) (vs : Array Value) (hp : ArgsR ((aOne (cInt .u64)).enc false x) w vs) : Calls Try.prog 107 vs w (Ans ((o1 (cInt .u8)).enc (p_Class x)) w) :=
  contractT mixed (AllGood.cons p_Parts_ok AllGood.nil) Try.func107 (fun _ _ _ _ _ => noL_ok) (Tr.safe_of (t := p_Class_t x) rfl) (fun F => p_Class_ev F p_Parts x) w vs hp
theorem p_Class_ok : GoodF Try.prog 107 (sumT (aOne (cInt .u64)) fun x => (o1 (cInt .u8)).enc (p_Class x)) :=
  good_sumT (callable_of Try.func107 (by kernel_rfl) (by kernel_rfl)) p_Class_c
theorem p_Split_ev (F : Nat → Prop) (p_Parts : Int → Bool × Int × Int) (p_Class : Int → Int) (f : Int) (Q : AV → Prop) : evF Try.prog (mkC ([(101, .s (sumT (aOne (cInt .u64)) fun x => (o3 (cBool) (cInt .i64) (cInt .u64)).enc (p_Parts x))), (107, .s (sumT (aOne (cInt .u64)) fun x => (o1 (cInt .u8)).enc (p_Class x)))]) F) noL 60 Try.f103 ((aOne (cInt .u64)).enc false f) Q = (p_Split_T p_Parts p_Class f).prop (fun x => Q ((o2 (cInt .u64) (cInt .i64)).enc x)) := by kernel_rfl
theorem p_Split_c (x : Int) (w : World) (vs : Array Value) (hp : ArgsR ((aOne (cInt .u64)).enc false x) w vs) : Calls Try.prog 103 vs w (Ans ((o2 (cInt .u64) (cInt .i64)).enc (p_Split x)) w) :=
  contractT mixed (AllGood.cons p_Parts_ok (AllGood.cons p_Class_ok AllGood.nil)) Try.func103 (fun _ _ _ _ _ => noL_ok) (Tr.safe_of (t := p_Split_t x) rfl) (fun F => p_Split_ev F p_Parts p_Class x) w vs hp
theorem p_Split_ok : GoodF Try.prog 103 (sumT (aOne (cInt .u64)) fun x => (o2 (cInt .u64) (cInt .i64)).enc (p_Split x)) :=
  good_sumT (callable_of Try.func103 (by kernel_rfl) (by kernel_rfl)) p_Split_c
theorem p_Value_ev (F : Nat → Prop) (p_Class : Int → Int) (p_Split : Int → Int × Int) (q_Dyad : Bool → Int → Int → RR × Int) (q_Dyad_s : Bool → Int → Int → Bool) (f : Int) (Q : AV → Prop) : evF Try.prog (mkC ([(107, .s (sumT (aOne (cInt .u64)) fun x => (o1 (cInt .u8)).enc (p_Class x))), (103, .s (sumT (aOne (cInt .u64)) fun x => (o2 (cInt .u64) (cInt .i64)).enc (p_Split x))), (98, .s (sumOf (aCons (cBool) (aCons (cInt .u64) (aOne (cInt .i64)))) (fun x => q_Dyad_s x.1 x.2.1 x.2.2) fun x => (o2 (cRR) (cInt .i64)).enc (q_Dyad x.1 x.2.1 x.2.2)))]) F) noL 60 Try.f109 ((aOne (cInt .u64)).enc false f) Q = (p_Value_T p_Class p_Split q_Dyad q_Dyad_s f).prop (fun x => Q ((o2 (cRR) (cBool)).enc x)) := by kernel_rfl
theorem p_Value_c (x : Int) (hs : p_Value_s x = true) (w : World) (vs : Array Value) (hp : ArgsR ((aOne (cInt .u64)).enc false x) w vs) : Calls Try.prog 109 vs w (Ans ((o2 (cRR) (cBool)).enc (p_Value x)) w) :=
  contractT mixed (AllGood.cons p_Class_ok (AllGood.cons p_Split_ok (AllGood.cons q_Dyad_ok AllGood.nil))) Try.func109 (fun _ _ _ _ _ => noL_ok) hs (fun F => p_Value_ev F p_Class p_Split q_Dyad q_Dyad_s x) w vs hp
theorem p_Value_ok : GoodF Try.prog 109 (sumOf (aOne (cInt .u64)) (fun x => p_Value_s x) fun x => (o2 (cRR) (cBool)).enc (p_Value x)) :=
  good_sum (callable_of Try.func109 (by kernel_rfl) (by kernel_rfl)) p_Value_c
theorem p_key_ev (F : Nat → Prop)  (f : Int) (Q : AV → Prop) : evF Try.prog (mkC ([]) F) noL 60 Try.f172 ((aOne (cInt .u64)).enc false f) Q = (p_key_T  f).prop (fun x => Q ((o1 (cInt .i64)).enc x)) := by kernel_rfl
theorem p_key_c (x : Int) (w : World) (vs : Array Value) (hp : ArgsR ((aOne (cInt .u64)).enc false x) w vs) : Calls Try.prog 172 vs w (Ans ((o1 (cInt .i64)).enc (p_key x)) w) :=
  contractT mixed AllGood.nil Try.func172 (fun _ _ _ _ _ => noL_ok) (Tr.safe_of (t := p_key_t x) rfl) (fun F => p_key_ev F  x) w vs hp
theorem p_key_ok : GoodF Try.prog 172 (sumT (aOne (cInt .u64)) fun x => (o1 (cInt .i64)).enc (p_key x)) :=
  good_sumT (callable_of Try.func172 (by kernel_rfl) (by kernel_rfl)) p_key_c
theorem p_nan_ev (F : Nat → Prop) (p_Class : Int → Int) (f : Int) (Q : AV → Prop) : evF Try.prog (mkC ([(107, .s (sumT (aOne (cInt .u64)) fun x => (o1 (cInt .u8)).enc (p_Class x)))]) F) noL 60 Try.f171 ((aOne (cInt .u64)).enc false f) Q = (p_nan_T p_Class f).prop (fun x => Q ((o1 (cBool)).enc x)) := by kernel_rfl
theorem p_nan_c (x : Int) (w : World) (vs : Array Value) (hp : ArgsR ((aOne (cInt .u64)).enc false x) w vs) : Calls Try.prog 171 vs w (Ans ((o1 (cBool)).enc (p_nan x)) w) :=
  contractT mixed (AllGood.cons p_Class_ok AllGood.nil) Try.func171 (fun _ _ _ _ _ => noL_ok) (Tr.safe_of (t := p_nan_t x) rfl) (fun F => p_nan_ev F p_Class x) w vs hp
theorem p_nan_ok : GoodF Try.prog 171 (sumT (aOne (cInt .u64)) fun x => (o1 (cBool)).enc (p_nan x)) :=
  good_sumT (callable_of Try.func171 (by kernel_rfl) (by kernel_rfl)) p_nan_c
theorem p_Inf_ev (F : Nat → Prop) (p_Make : Bool → Int → Int → Int × Int) (neg : Bool) (Q : AV → Prop) : evF Try.prog (mkC ([(105, .s (sumT (aCons (cBool) (aCons (cInt .i64) (aOne (cInt .u64)))) fun x => (o2 (cInt .u64) (cInt .i64)).enc (p_Make x.1 x.2.1 x.2.2)))]) F) noL 60 Try.f116 ((aOne (cBool)).enc false neg) Q = (p_Inf_T p_Make neg).prop (fun x => Q ((o1 (cInt .u64)).enc x)) := by kernel_rfl
theorem p_Inf_c (x : Bool) (w : World) (vs : Array Value) (hp : ArgsR ((aOne (cBool)).enc false x) w vs) : Calls Try.prog 116 vs w (Ans ((o1 (cInt .u64)).enc (p_Inf x)) w) :=
  contractT mixed (AllGood.cons p_Make_ok AllGood.nil) Try.func116 (fun _ _ _ _ _ => noL_ok) (Tr.safe_of (t := p_Inf_t x) rfl) (fun F => p_Inf_ev F p_Make x) w vs hp
theorem p_Inf_ok : GoodF Try.prog 116 (sumT (aOne (cBool)) fun x => (o1 (cInt .u64)).enc (p_Inf x)) :=
  good_sumT (callable_of Try.func116 (by kernel_rfl) (by kernel_rfl)) p_Inf_c
theorem p_Next_ev (F : Nat → Prop) (p_nan : Int → Bool) (p_Inf : Bool → Int) (p_key : Int → Int) (f : Int) (Q : AV → Prop) : evF Try.prog (mkC ([(171, .s (sumT (aOne (cInt .u64)) fun x => (o1 (cBool)).enc (p_nan x))), (116, .s (sumT (aOne (cBool)) fun x => (o1 (cInt .u64)).enc (p_Inf x))), (172, .s (sumT (aOne (cInt .u64)) fun x => (o1 (cInt .i64)).enc (p_key x)))]) F) noL 60 Try.f112 ((aOne (cInt .u64)).enc false f) Q = (p_Next_T p_nan p_Inf p_key f).prop (fun x => Q ((o1 (cInt .u64)).enc x)) := by kernel_rfl
theorem p_Next_c (x : Int) (w : World) (vs : Array Value) (hp : ArgsR ((aOne (cInt .u64)).enc false x) w vs) : Calls Try.prog 112 vs w (Ans ((o1 (cInt .u64)).enc (p_Next x)) w) :=
  contractT mixed (AllGood.cons p_nan_ok (AllGood.cons p_Inf_ok (AllGood.cons p_key_ok AllGood.nil))) Try.func112 (fun _ _ _ _ _ => noL_ok) (Tr.safe_of (t := p_Next_t x) rfl) (fun F => p_Next_ev F p_nan p_Inf p_key x) w vs hp
theorem p_Next_ok : GoodF Try.prog 112 (sumT (aOne (cInt .u64)) fun x => (o1 (cInt .u64)).enc (p_Next x)) :=
  good_sumT (callable_of Try.func112 (by kernel_rfl) (by kernel_rfl)) p_Next_c
theorem p_Quiet_ev (F : Nat → Prop)   (Q : AV → Prop) : evF Try.prog (mkC ([]) F) noL 60 Try.f123 (aNil.enc false ()) Q = (p_Quiet_T  ).prop (fun x => Q ((o1 (cInt .u64)).enc x)) := by kernel_rfl
theorem p_Quiet_c (x : Unit) (w : World) (vs : Array Value) (hp : ArgsR (aNil.enc false x) w vs) : Calls Try.prog 123 vs w (Ans ((o1 (cInt .u64)).enc (p_Quiet )) w) :=
  contractT mixed AllGood.nil Try.func123 (fun _ _ _ _ _ => noL_ok) (Tr.safe_of (t := p_Quiet_t ) rfl) (fun F => p_Quiet_ev F  ) w vs hp
theorem p_Quiet_ok : GoodF Try.prog 123 (sumT aNil fun _ => (o1 (cInt .u64)).enc (p_Quiet )) :=
  good_sumT (callable_of Try.func123 (by kernel_rfl) (by kernel_rfl)) p_Quiet_c
end Go.Proofs.Ytggmmkdfgjnjfaa
