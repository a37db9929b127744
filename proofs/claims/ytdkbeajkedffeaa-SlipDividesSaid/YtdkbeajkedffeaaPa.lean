/- Layer 4: contracts of the functions. Conditions: as each theorem states. -/
import Derived.Test.YtdkbeajkedffeaaRa
import Derived.Test.YtdkbeajkedffeaaPd
namespace Go.Proofs.Ytdkbeajkedffeaa
open Go.Ev Go.Fb
theorem p_Make_ev (F : Nat → Prop)  (neg : Bool) (exp : Int) (frac : Int) (Q : AV → Prop) : evF Try.prog (mkC ([]) F) noL 60 Try.f89 ((aCons (cBool) (aCons (cInt .i64) (aOne (cInt .u64)))).enc false (neg, exp, frac)) Q = (p_Make_T  neg exp frac).prop (fun x => Q ((o2 (cInt .u64) (cInt .i64)).enc x)) := by kernel_rfl
theorem p_Make_c (x : Bool × Int × Int) (w : World) (vs : Array Value) (hp : ArgsR ((aCons (cBool) (aCons (cInt .i64) (aOne (cInt .u64)))).enc false x) w vs) : Calls Try.prog 89 vs w (Ans ((o2 (cInt .u64) (cInt .i64)).enc (p_Make x.1 x.2.1 x.2.2)) w) :=
  contractT mixed AllGood.nil Try.func89 (fun _ _ _ _ _ => noL_ok) (Tr.safe_of (t := p_Make_t x.1 x.2.1 x.2.2) rfl) (fun F => p_Make_ev F  x.1 x.2.1 x.2.2) w vs hp
theorem p_Make_ok : GoodF Try.prog 89 (sumT (aCons (cBool) (aCons (cInt .i64) (aOne (cInt .u64)))) fun x => (o2 (cInt .u64) (cInt .i64)).enc (p_Make x.1 x.2.1 x.2.2)) :=
  good_sumT (callable_of Try.func89 (by kernel_rfl) (by kernel_rfl)) p_Make_c
theorem p_Parts_ev (F : Nat → Prop)  (f : Int) (Q : AV → Prop) : evF Try.prog (mkC ([]) F) noL 60 Try.f94 ((aOne (cInt .u64)).enc false f) Q = (p_Parts_T  f).prop (fun x => Q ((o3 (cBool) (cInt .i64) (cInt .u64)).enc x)) := by kernel_rfl
theorem p_Parts_c (x : Int) (w : World) (vs : Array Value) (hp : ArgsR ((aOne (cInt .u64)).enc false x) w vs) : Calls Try.prog 94 vs w (Ans ((o3 (cBool) (cInt .i64) (cInt .u64)).enc (p_Parts x)) w) :=
  contractT mixed AllGood.nil Try.func94 (fun _ _ _ _ _ => noL_ok) (Tr.safe_of (t := p_Parts_t x) rfl) (fun F => p_Parts_ev F  x) w vs hp
theorem p_Parts_ok : GoodF Try.prog 94 (sumT (aOne (cInt .u64)) fun x => (o3 (cBool) (cInt .i64) (cInt .u64)).enc (p_Parts x)) :=
  good_sumT (callable_of Try.func94 (by kernel_rfl) (by kernel_rfl)) p_Parts_c
theorem p_Class_ev (F : Nat → Prop) (p_Parts : Int → Bool × Int × Int) (f : Int) (Q : AV → Prop) : evF Try.prog (mkC ([(94, .s (sumT (aOne (cInt .u64)) fun x => (o3 (cBool) (cInt .i64) (cInt .u64)).enc (p_Parts x)))]) F) noL 60 Try.f56 ((aOne (cInt .u64)).enc false f) Q = (p_Class_T p_Parts f).prop (fun x => Q ((o1 (cInt .u8)).enc x)) := by kernel_rfl
theorem p_Class_c (x : Int) (w : World) (vs : Array Value) (hp : ArgsR ((aOne (cInt .u64)).enc false x) w vs) : Calls Try.prog 56 vs w (Ans ((o1 (cInt .u8)).enc (p_Class x)) w) :=
  contractT mixed (AllGood.cons p_Parts_ok AllGood.nil) Try.func56 (fun _ _ _ _ _ => noL_ok) (Tr.safe_of (t := p_Class_t x) rfl) (fun F => p_Class_ev F p_Parts x) w vs hp
theorem p_Class_ok : GoodF Try.prog 56 (sumT (aOne (cInt .u64)) fun x => (o1 (cInt .u8)).enc (p_Class x)) :=
  good_sumT (callable_of Try.func56 (by kernel_rfl) (by kernel_rfl)) p_Class_c
theorem p_Split_ev (F : Nat → Prop) (p_Parts : Int → Bool × Int × Int) (p_Class : Int → Int) (f : Int) (Q : AV → Prop) : evF Try.prog (mkC ([(94, .s (sumT (aOne (cInt .u64)) fun x => (o3 (cBool) (cInt .i64) (cInt .u64)).enc (p_Parts x))), (56, .s (sumT (aOne (cInt .u64)) fun x => (o1 (cInt .u8)).enc (p_Class x)))]) F) noL 60 Try.f87 ((aOne (cInt .u64)).enc false f) Q = (p_Split_T p_Parts p_Class f).prop (fun x => Q ((o2 (cInt .u64) (cInt .i64)).enc x)) := by kernel_rfl
theorem p_Split_c (x : Int) (w : World) (vs : Array Value) (hp : ArgsR ((aOne (cInt .u64)).enc false x) w vs) : Calls Try.prog 87 vs w (Ans ((o2 (cInt .u64) (cInt .i64)).enc (p_Split x)) w) :=
  contractT mixed (AllGood.cons p_Parts_ok (AllGood.cons p_Class_ok AllGood.nil)) Try.func87 (fun _ _ _ _ _ => noL_ok) (Tr.safe_of (t := p_Split_t x) rfl) (fun F => p_Split_ev F p_Parts p_Class x) w vs hp
theorem p_Split_ok : GoodF Try.prog 87 (sumT (aOne (cInt .u64)) fun x => (o2 (cInt .u64) (cInt .i64)).enc (p_Split x)) :=
  good_sumT (callable_of Try.func87 (by kernel_rfl) (by kernel_rfl)) p_Split_c
theorem p_Value_ev (F : Nat → Prop) (p_Class : Int → Int) (p_Split : Int → Int × Int) (q_Dyad : Bool → Int → Int → RR × Int) (q_Dyad_s : Bool → Int → Int → Bool) (f : Int) (Q : AV → Prop) : evF Try.prog (mkC ([(56, .s (sumT (aOne (cInt .u64)) fun x => (o1 (cInt .u8)).enc (p_Class x))), (87, .s (sumT (aOne (cInt .u64)) fun x => (o2 (cInt .u64) (cInt .i64)).enc (p_Split x))), (88, .s (sumOf (aCons (cBool) (aCons (cInt .u64) (aOne (cInt .i64)))) (fun x => q_Dyad_s x.1 x.2.1 x.2.2) fun x => (o2 (cRR) (cInt .i64)).enc (q_Dyad x.1 x.2.1 x.2.2)))]) F) noL 60 Try.f48 ((aOne (cInt .u64)).enc false f) Q = (p_Value_T p_Class p_Split q_Dyad q_Dyad_s f).prop (fun x => Q ((o2 (cRR) (cBool)).enc x)) := by kernel_rfl
theorem p_Value_c (x : Int) (hs : p_Value_s x = true) (w : World) (vs : Array Value) (hp : ArgsR ((aOne (cInt .u64)).enc false x) w vs) : Calls Try.prog 48 vs w (Ans ((o2 (cRR) (cBool)).enc (p_Value x)) w) :=
  contractT mixed (AllGood.cons p_Class_ok (AllGood.cons p_Split_ok (AllGood.cons q_Dyad_ok AllGood.nil))) Try.func48 (fun _ _ _ _ _ => noL_ok) hs (fun F => p_Value_ev F p_Class p_Split q_Dyad q_Dyad_s x) w vs hp
theorem p_Value_ok : GoodF Try.prog 48 (sumOf (aOne (cInt .u64)) (fun x => p_Value_s x) fun x => (o2 (cRR) (cBool)).enc (p_Value x)) :=
  good_sum (callable_of Try.func48 (by kernel_rfl) (by kernel_rfl)) p_Value_c
theorem p_key_ev (F : Nat → Prop)  (f : Int) (Q : AV → Prop) : evF Try.prog (mkC ([]) F) noL 60 Try.f70 ((aOne (cInt .u64)).enc false f) Q = (p_key_T  f).prop (fun x => Q ((o1 (cInt .i64)).enc x)) := by kernel_rfl
theorem p_key_c (x : Int) (w : World) (vs : Array Value) (hp : ArgsR ((aOne (cInt .u64)).enc false x) w vs) : Calls Try.prog 70 vs w (Ans ((o1 (cInt .i64)).enc (p_key x)) w) :=
  contractT mixed AllGood.nil Try.func70 (fun _ _ _ _ _ => noL_ok) (Tr.safe_of (t := p_key_t x) rfl) (fun F => p_key_ev F  x) w vs hp
theorem p_key_ok : GoodF Try.prog 70 (sumT (aOne (cInt .u64)) fun x => (o1 (cInt .i64)).enc (p_key x)) :=
  good_sumT (callable_of Try.func70 (by kernel_rfl) (by kernel_rfl)) p_key_c
theorem p_nan_ev (F : Nat → Prop) (p_Class : Int → Int) (f : Int) (Q : AV → Prop) : evF Try.prog (mkC ([(56, .s (sumT (aOne (cInt .u64)) fun x => (o1 (cInt .u8)).enc (p_Class x)))]) F) noL 60 Try.f69 ((aOne (cInt .u64)).enc false f) Q = (p_nan_T p_Class f).prop (fun x => Q ((o1 (cBool)).enc x)) := by kernel_rfl
theorem p_nan_c (x : Int) (w : World) (vs : Array Value) (hp : ArgsR ((aOne (cInt .u64)).enc false x) w vs) : Calls Try.prog 69 vs w (Ans ((o1 (cBool)).enc (p_nan x)) w) :=
  contractT mixed (AllGood.cons p_Class_ok AllGood.nil) Try.func69 (fun _ _ _ _ _ => noL_ok) (Tr.safe_of (t := p_nan_t x) rfl) (fun F => p_nan_ev F p_Class x) w vs hp
theorem p_nan_ok : GoodF Try.prog 69 (sumT (aOne (cInt .u64)) fun x => (o1 (cBool)).enc (p_nan x)) :=
  good_sumT (callable_of Try.func69 (by kernel_rfl) (by kernel_rfl)) p_nan_c
theorem p_Cmp_ev (F : Nat → Prop) (p_nan : Int → Bool) (p_key : Int → Int) (a : Int) (b : Int) (Q : AV → Prop) : evF Try.prog (mkC ([(69, .s (sumT (aOne (cInt .u64)) fun x => (o1 (cBool)).enc (p_nan x))), (70, .s (sumT (aOne (cInt .u64)) fun x => (o1 (cInt .i64)).enc (p_key x)))]) F) noL 60 Try.f30 ((aCons (cInt .u64) (aOne (cInt .u64))).enc false (a, b)) Q = (p_Cmp_T p_nan p_key a b).prop (fun x => Q ((o2 (cInt .i64) (cBool)).enc x)) := by kernel_rfl
theorem p_Cmp_c (x : Int × Int) (w : World) (vs : Array Value) (hp : ArgsR ((aCons (cInt .u64) (aOne (cInt .u64))).enc false x) w vs) : Calls Try.prog 30 vs w (Ans ((o2 (cInt .i64) (cBool)).enc (p_Cmp x.1 x.2)) w) :=
  contractT mixed (AllGood.cons p_nan_ok (AllGood.cons p_key_ok AllGood.nil)) Try.func30 (fun _ _ _ _ _ => noL_ok) (Tr.safe_of (t := p_Cmp_t x.1 x.2) rfl) (fun F => p_Cmp_ev F p_nan p_key x.1 x.2) w vs hp
theorem p_Cmp_ok : GoodF Try.prog 30 (sumT (aCons (cInt .u64) (aOne (cInt .u64))) fun x => (o2 (cInt .i64) (cBool)).enc (p_Cmp x.1 x.2)) :=
  good_sumT (callable_of Try.func30 (by kernel_rfl) (by kernel_rfl)) p_Cmp_c
theorem p_Less_ev (F : Nat → Prop) (p_Cmp : Int → Int → Int × Bool) (a : Int) (b : Int) (Q : AV → Prop) : evF Try.prog (mkC ([(30, .s (sumT (aCons (cInt .u64) (aOne (cInt .u64))) fun x => (o2 (cInt .i64) (cBool)).enc (p_Cmp x.1 x.2)))]) F) noL 60 Try.f42 ((aCons (cInt .u64) (aOne (cInt .u64))).enc false (a, b)) Q = (p_Less_T p_Cmp a b).prop (fun x => Q ((o1 (cBool)).enc x)) := by kernel_rfl
theorem p_Less_c (x : Int × Int) (w : World) (vs : Array Value) (hp : ArgsR ((aCons (cInt .u64) (aOne (cInt .u64))).enc false x) w vs) : Calls Try.prog 42 vs w (Ans ((o1 (cBool)).enc (p_Less x.1 x.2)) w) :=
  contractT mixed (AllGood.cons p_Cmp_ok AllGood.nil) Try.func42 (fun _ _ _ _ _ => noL_ok) (Tr.safe_of (t := p_Less_t x.1 x.2) rfl) (fun F => p_Less_ev F p_Cmp x.1 x.2) w vs hp
theorem p_Less_ok : GoodF Try.prog 42 (sumT (aCons (cInt .u64) (aOne (cInt .u64))) fun x => (o1 (cBool)).enc (p_Less x.1 x.2)) :=
  good_sumT (callable_of Try.func42 (by kernel_rfl) (by kernel_rfl)) p_Less_c
theorem p_Inf_ev (F : Nat → Prop) (p_Make : Bool → Int → Int → Int × Int) (neg : Bool) (Q : AV → Prop) : evF Try.prog (mkC ([(89, .s (sumT (aCons (cBool) (aCons (cInt .i64) (aOne (cInt .u64)))) fun x => (o2 (cInt .u64) (cInt .i64)).enc (p_Make x.1 x.2.1 x.2.2)))]) F) noL 60 Try.f49 ((aOne (cBool)).enc false neg) Q = (p_Inf_T p_Make neg).prop (fun x => Q ((o1 (cInt .u64)).enc x)) := by kernel_rfl
theorem p_Inf_c (x : Bool) (w : World) (vs : Array Value) (hp : ArgsR ((aOne (cBool)).enc false x) w vs) : Calls Try.prog 49 vs w (Ans ((o1 (cInt .u64)).enc (p_Inf x)) w) :=
  contractT mixed (AllGood.cons p_Make_ok AllGood.nil) Try.func49 (fun _ _ _ _ _ => noL_ok) (Tr.safe_of (t := p_Inf_t x) rfl) (fun F => p_Inf_ev F p_Make x) w vs hp
theorem p_Inf_ok : GoodF Try.prog 49 (sumT (aOne (cBool)) fun x => (o1 (cInt .u64)).enc (p_Inf x)) :=
  good_sumT (callable_of Try.func49 (by kernel_rfl) (by kernel_rfl)) p_Inf_c
theorem p_Neg_ev (F : Nat → Prop) (p_nan : Int → Bool) (f : Int) (Q : AV → Prop) : evF Try.prog (mkC ([(69, .s (sumT (aOne (cInt .u64)) fun x => (o1 (cBool)).enc (p_nan x)))]) F) noL 60 Try.f77 ((aOne (cInt .u64)).enc false f) Q = (p_Neg_T p_nan f).prop (fun x => Q ((o1 (cInt .u64)).enc x)) := by kernel_rfl
theorem p_Neg_c (x : Int) (w : World) (vs : Array Value) (hp : ArgsR ((aOne (cInt .u64)).enc false x) w vs) : Calls Try.prog 77 vs w (Ans ((o1 (cInt .u64)).enc (p_Neg x)) w) :=
  contractT mixed (AllGood.cons p_nan_ok AllGood.nil) Try.func77 (fun _ _ _ _ _ => noL_ok) (Tr.safe_of (t := p_Neg_t x) rfl) (fun F => p_Neg_ev F p_nan x) w vs hp
theorem p_Neg_ok : GoodF Try.prog 77 (sumT (aOne (cInt .u64)) fun x => (o1 (cInt .u64)).enc (p_Neg x)) :=
  good_sumT (callable_of Try.func77 (by kernel_rfl) (by kernel_rfl)) p_Neg_c
theorem p_Quiet_ev (F : Nat → Prop)   (Q : AV → Prop) : evF Try.prog (mkC ([]) F) noL 60 Try.f104 (aNil.enc false ()) Q = (p_Quiet_T  ).prop (fun x => Q ((o1 (cInt .u64)).enc x)) := by kernel_rfl
theorem p_Quiet_c (x : Unit) (w : World) (vs : Array Value) (hp : ArgsR (aNil.enc false x) w vs) : Calls Try.prog 104 vs w (Ans ((o1 (cInt .u64)).enc (p_Quiet )) w) :=
  contractT mixed AllGood.nil Try.func104 (fun _ _ _ _ _ => noL_ok) (Tr.safe_of (t := p_Quiet_t ) rfl) (fun F => p_Quiet_ev F  ) w vs hp
theorem p_Quiet_ok : GoodF Try.prog 104 (sumT aNil fun _ => (o1 (cInt .u64)).enc (p_Quiet )) :=
  good_sumT (callable_of Try.func104 (by kernel_rfl) (by kernel_rfl)) p_Quiet_c
theorem p_Max1_ev (F : Nat → Prop) (p_Less : Int → Int → Bool) (a : Int) (b : Int) (Q : AV → Prop) : evF Try.prog (mkC ([(42, .s (sumT (aCons (cInt .u64) (aOne (cInt .u64))) fun x => (o1 (cBool)).enc (p_Less x.1 x.2)))]) F) noL 60 Try.f96 ((aCons (cInt .u64) (aOne (cInt .u64))).enc false (a, b)) Q = (p_Max1_T p_Less a b).prop (fun x => Q ((o1 (cBool)).enc x)) := by kernel_rfl
theorem p_Max1_c (x : Int × Int) (w : World) (vs : Array Value) (hp : ArgsR ((aCons (cInt .u64) (aOne (cInt .u64))).enc false x) w vs) : Calls Try.prog 96 vs w (Ans ((o1 (cBool)).enc (p_Max1 x.1 x.2)) w) :=
  contractT mixed (AllGood.cons p_Less_ok AllGood.nil) Try.func96 (fun _ _ _ _ _ => noL_ok) (Tr.safe_of (t := p_Max1_t x.1 x.2) rfl) (fun F => p_Max1_ev F p_Less x.1 x.2) w vs hp
theorem p_Max1_ok : GoodF Try.prog 96 (sumT (aCons (cInt .u64) (aOne (cInt .u64))) fun x => (o1 (cBool)).enc (p_Max1 x.1 x.2)) :=
  good_sumT (callable_of Try.func96 (by kernel_rfl) (by kernel_rfl)) p_Max1_c
def p_bestM_L0_tm : Tm :=
  Tm.mk
    [none, some (false, [Sh.clo 96 []]), none, none, none, some (false, [Sh.int IntKind.u64]), none, none, none, none,
      none, none, none, none, none, some (false, [Sh.veci false IntKind.u64]), some (false, [Sh.int IntKind.i64]),
      some (false, [Sh.int IntKind.i64]), none, none, none, none, none, none, none, none, none, none, none, none, none]
    [] false
def p_bestM_L0_of : List Pv → Option (((List Int) × Int) × (Int × Int))
  | [.i v5, .il v15, .i v16, .i v17] => some ((v15, v16), (v5, v17))
  | _ => none
def p_bestM_L0_to (p : (List Int) × Int) (x : Int × Int) : List Pv := [.i x.1, .il p.1, .i p.2, .i x.2]
theorem p_bestM_L0_ot (l : List Pv) (p : (List Int) × Int) (x : Int × Int) (h : p_bestM_L0_of l = some (p, x)) : p_bestM_L0_to p x = l := by
  unfold p_bestM_L0_of at h
  split at h
  · cases h; rfl
  · cases h
def p_bestM_L0_dec (s : St) : Option (((List Int) × Int) × (Int × Int)) := (p_bestM_L0_tm.dec s).bind p_bestM_L0_of
def p_bestM_L0_I (p : (List Int) × Int) (x : Int × Int) : St := p_bestM_L0_tm.enc (p_bestM_L0_to p x)
def p_bestM_L0_tmR : Tm :=
  Tm.mk
    [none, none, none, none, some (false, [Sh.int IntKind.u64]), none, none, none, none, none, none, none, none, none,
      none, none, none, none, none, none, none, none, none, none, none, none, none, none, none, none, none]
    [] false
def p_bestM_L0_ofR : List Pv → Option (Int)
  | [.i v4] => some v4
  | _ => none
def p_bestM_L0_toR (r : Int) : List Pv := [.i r]
theorem p_bestM_L0_otR (l : List Pv) (r : Int) (h : p_bestM_L0_ofR l = some r) : p_bestM_L0_toR r = l := by
  unfold p_bestM_L0_ofR at h
  split at h
  · cases h; rfl
  · cases h
def p_bestM_L0_decR (s : St) : Option (Int) := (p_bestM_L0_tmR.dec s).bind p_bestM_L0_ofR
def p_bestM_L0_R (r : Int) : St := p_bestM_L0_tmR.enc (p_bestM_L0_toR r)
theorem p_bestM_L0_ev (F : Nat → Prop) (p_Quiet : Int) (p_nan : Int → Bool) (p_Max1 : Int → Int → Bool) (p_Less : Int → Int → Bool) (v15 : List Int) (v16 : Int) (v5 : Int) (v17 : Int) (Q : (((List Int) × Int) × (Int × Int)) ⊕ ((((List Int) × Int) × (Int × Int)) ⊕ (Int)) → Prop) : evC Try.prog (mkC ([(104, .s (sumT aNil fun _ => (o1 (cInt .u64)).enc (p_Quiet ))), (69, .s (sumT (aOne (cInt .u64)) fun x => (o1 (cBool)).enc (p_nan x))), (96, .s (sumT (aCons (cInt .u64) (aOne (cInt .u64))) fun x => (o1 (cBool)).enc (p_Max1 x.1 x.2))), (42, .s (sumT (aCons (cInt .u64) (aOne (cInt .u64))) fun x => (o1 (cBool)).enc (p_Less x.1 x.2)))]) F) noL 60 (lp Try.f95 0) (p_bestM_L0_I (v15, v16) (v5, v17)) (fun y s => onO Q (bkB 0 p_bestM_L0_dec p_bestM_L0_decR y s)) = (p_bestM_L0_T p_Quiet p_nan p_Max1 v15 v16 v5 v17).prop (onB (v15, v16) Q) := by kernel_rfl
set_option maxRecDepth 100000 in
theorem p_bestM_L0_ls {F : Nat → Prop} {B : Nat} {w0 : World} {s : St} {k : X → St → Prop} (hk : (lsB 0 p_bestM_L0_dec p_bestM_L0_I p_bestM_L0_R p_bestM_L0_ok p_bestM_L0_rt p_bestM_L0_v p_bestM_L0_rv) s k) : EW Try.prog (mkC ([(104, .s (sumT aNil fun _ => (o1 (cInt .u64)).enc (p_Quiet ))), (69, .s (sumT (aOne (cInt .u64)) fun x => (o1 (cBool)).enc (p_nan x))), (96, .s (sumT (aCons (cInt .u64) (aOne (cInt .u64))) fun x => (o1 (cBool)).enc (p_Max1 x.1 x.2))), (42, .s (sumT (aCons (cInt .u64) (aOne (cInt .u64))) fun x => (o1 (cBool)).enc (p_Less x.1 x.2)))]) F) B w0 (.loop (lp Try.f95 0)) s k :=
  lsB_ok (fun _ _ _ h => weak_of p_bestM_L0_ot (.inl rfl) h) (fun _ _ h => weak_ofR p_bestM_L0_otR (.inl rfl) h) (step := p_bestM_L0_step) (fun p x Q h => evC_spec mixed (mkC_ok (AllGood.cons p_Quiet_ok (AllGood.cons p_nan_ok (AllGood.cons p_Max1_ok (AllGood.cons p_Less_ok AllGood.nil)))) F) (L := noL) (u := 60) _ (loops_nil (by kernel_rfl)) _ _ (Eq.mpr (p_bestM_L0_ev F p_Quiet p_nan p_Max1 p_Less p.1 p.2 x.1 x.2 Q) h)) (fun _ _ h => run_okB h) hk
theorem p_bestM_ev (F : Nat → Prop) (p_Quiet : Int) (p_nan : Int → Bool) (p_Max1 : Int → Int → Bool) (p_Less : Int → Int → Bool) (p_bestM_L0_ok : ((List Int) × Int) → (Int × Int) → Bool) (p_bestM_L0_rt : ((List Int) × Int) → (Int × Int) → Bool) (p_bestM_L0_v : ((List Int) × Int) → (Int × Int) → Int × Int) (p_bestM_L0_rv : ((List Int) × Int) → (Int × Int) → Int) (l : List Int) (g : Unit) (Q : AV → Prop) : evF Try.prog (mkC ([(104, .s (sumT aNil fun _ => (o1 (cInt .u64)).enc (p_Quiet ))), (69, .s (sumT (aOne (cInt .u64)) fun x => (o1 (cBool)).enc (p_nan x))), (96, .s (sumT (aCons (cInt .u64) (aOne (cInt .u64))) fun x => (o1 (cBool)).enc (p_Max1 x.1 x.2))), (42, .s (sumT (aCons (cInt .u64) (aOne (cInt .u64))) fun x => (o1 (cBool)).enc (p_Less x.1 x.2)))]) F) (fun id => cond (Nat.beq 5 id) (some (lsB 0 p_bestM_L0_dec p_bestM_L0_I p_bestM_L0_R p_bestM_L0_ok p_bestM_L0_rt p_bestM_L0_v p_bestM_L0_rv)) (none) : Loops) 60 Try.f95 ((aCons (cInts .u64) (aOne (cFn 96))).enc false (l, g)) Q = (p_bestM_T p_Quiet p_bestM_L0_ok p_bestM_L0_rt p_bestM_L0_v p_bestM_L0_rv l g).prop (fun x => Q ((o1 (cInt .u64)).enc x)) := by kernel_rfl
theorem p_bestM_c (x : (List Int) × Unit) (hs : p_bestM_s x.1 x.2 = true) (w : World) (vs : Array Value) (hp : ArgsR ((aCons (cInts .u64) (aOne (cFn 96))).enc false x) w vs) : Calls Try.prog 95 vs w (Ans ((o1 (cInt .u64)).enc (p_bestM x.1 x.2)) w) :=
  contractT mixed (AllGood.cons p_Quiet_ok (AllGood.cons p_nan_ok (AllGood.cons p_Max1_ok (AllGood.cons p_Less_ok AllGood.nil)))) Try.func95 (fun _ _ _ => loops_all (m := 1) (by kernel_rfl) (fun i hi => match i, hi with
    | 0, _ => (fun g hg s k hk => p_bestM_L0_ls (cast (congrFun (congrFun (Option.some.inj (hg.symm.trans (by kernel_rfl))) s) k) hk))
    | (j + 1), hi => absurd hi (by omega))) hs (fun F => p_bestM_ev F p_Quiet p_nan p_Max1 p_Less p_bestM_L0_ok p_bestM_L0_rt p_bestM_L0_v p_bestM_L0_rv x.1 x.2) w vs hp
theorem p_bestM_ok : GoodF Try.prog 95 (sumOf (aCons (cInts .u64) (aOne (cFn 96))) (fun x => p_bestM_s x.1 x.2) fun x => (o1 (cInt .u64)).enc (p_bestM x.1 x.2)) :=
  good_sum (callable_of Try.func95 (by kernel_rfl) (by kernel_rfl)) p_bestM_c
def p_bestL_L0_tm : Tm :=
  Tm.mk
    [none, some (false, [Sh.clo 42 []]), none, none, none, some (false, [Sh.int IntKind.u64]), none, none, none, none,
      none, none, none, none, none, some (false, [Sh.veci false IntKind.u64]), some (false, [Sh.int IntKind.i64]),
      some (false, [Sh.int IntKind.i64]), none, none, none, none, none, none, none, none, none, none, none, none, none]
    [] false
def p_bestL_L0_of : List Pv → Option (((List Int) × Int) × (Int × Int))
  | [.i v5, .il v15, .i v16, .i v17] => some ((v15, v16), (v5, v17))
  | _ => none
def p_bestL_L0_to (p : (List Int) × Int) (x : Int × Int) : List Pv := [.i x.1, .il p.1, .i p.2, .i x.2]
theorem p_bestL_L0_ot (l : List Pv) (p : (List Int) × Int) (x : Int × Int) (h : p_bestL_L0_of l = some (p, x)) : p_bestL_L0_to p x = l := by
  unfold p_bestL_L0_of at h
  split at h
  · cases h; rfl
  · cases h
def p_bestL_L0_dec (s : St) : Option (((List Int) × Int) × (Int × Int)) := (p_bestL_L0_tm.dec s).bind p_bestL_L0_of
def p_bestL_L0_I (p : (List Int) × Int) (x : Int × Int) : St := p_bestL_L0_tm.enc (p_bestL_L0_to p x)
def p_bestL_L0_tmR : Tm :=
  Tm.mk
    [none, none, none, none, some (false, [Sh.int IntKind.u64]), none, none, none, none, none, none, none, none, none,
      none, none, none, none, none, none, none, none, none, none, none, none, none, none, none, none, none]
    [] false
def p_bestL_L0_ofR : List Pv → Option (Int)
  | [.i v4] => some v4
  | _ => none
def p_bestL_L0_toR (r : Int) : List Pv := [.i r]
theorem p_bestL_L0_otR (l : List Pv) (r : Int) (h : p_bestL_L0_ofR l = some r) : p_bestL_L0_toR r = l := by
  unfold p_bestL_L0_ofR at h
  split at h
  · cases h; rfl
  · cases h
def p_bestL_L0_decR (s : St) : Option (Int) := (p_bestL_L0_tmR.dec s).bind p_bestL_L0_ofR
def p_bestL_L0_R (r : Int) : St := p_bestL_L0_tmR.enc (p_bestL_L0_toR r)
theorem p_bestL_L0_ev (F : Nat → Prop) (p_Quiet : Int) (p_nan : Int → Bool) (p_Less : Int → Int → Bool) (v15 : List Int) (v16 : Int) (v5 : Int) (v17 : Int) (Q : (((List Int) × Int) × (Int × Int)) ⊕ ((((List Int) × Int) × (Int × Int)) ⊕ (Int)) → Prop) : evC Try.prog (mkC ([(104, .s (sumT aNil fun _ => (o1 (cInt .u64)).enc (p_Quiet ))), (69, .s (sumT (aOne (cInt .u64)) fun x => (o1 (cBool)).enc (p_nan x))), (42, .s (sumT (aCons (cInt .u64) (aOne (cInt .u64))) fun x => (o1 (cBool)).enc (p_Less x.1 x.2)))]) F) noL 60 (lp Try.f95 0) (p_bestL_L0_I (v15, v16) (v5, v17)) (fun y s => onO Q (bkB 0 p_bestL_L0_dec p_bestL_L0_decR y s)) = (p_bestL_L0_T p_Quiet p_nan p_Less v15 v16 v5 v17).prop (onB (v15, v16) Q) := by kernel_rfl
set_option maxRecDepth 100000 in
theorem p_bestL_L0_ls {F : Nat → Prop} {B : Nat} {w0 : World} {s : St} {k : X → St → Prop} (hk : (lsB 0 p_bestL_L0_dec p_bestL_L0_I p_bestL_L0_R p_bestL_L0_ok p_bestL_L0_rt p_bestL_L0_v p_bestL_L0_rv) s k) : EW Try.prog (mkC ([(104, .s (sumT aNil fun _ => (o1 (cInt .u64)).enc (p_Quiet ))), (69, .s (sumT (aOne (cInt .u64)) fun x => (o1 (cBool)).enc (p_nan x))), (42, .s (sumT (aCons (cInt .u64) (aOne (cInt .u64))) fun x => (o1 (cBool)).enc (p_Less x.1 x.2)))]) F) B w0 (.loop (lp Try.f95 0)) s k :=
  lsB_ok (fun _ _ _ h => weak_of p_bestL_L0_ot (.inl rfl) h) (fun _ _ h => weak_ofR p_bestL_L0_otR (.inl rfl) h) (step := p_bestL_L0_step) (fun p x Q h => evC_spec mixed (mkC_ok (AllGood.cons p_Quiet_ok (AllGood.cons p_nan_ok (AllGood.cons p_Less_ok AllGood.nil))) F) (L := noL) (u := 60) _ (loops_nil (by kernel_rfl)) _ _ (Eq.mpr (p_bestL_L0_ev F p_Quiet p_nan p_Less p.1 p.2 x.1 x.2 Q) h)) (fun _ _ h => run_okB h) hk
theorem p_bestL_ev (F : Nat → Prop) (p_Quiet : Int) (p_nan : Int → Bool) (p_Less : Int → Int → Bool) (p_bestL_L0_ok : ((List Int) × Int) → (Int × Int) → Bool) (p_bestL_L0_rt : ((List Int) × Int) → (Int × Int) → Bool) (p_bestL_L0_v : ((List Int) × Int) → (Int × Int) → Int × Int) (p_bestL_L0_rv : ((List Int) × Int) → (Int × Int) → Int) (l : List Int) (g : Unit) (Q : AV → Prop) : evF Try.prog (mkC ([(104, .s (sumT aNil fun _ => (o1 (cInt .u64)).enc (p_Quiet ))), (69, .s (sumT (aOne (cInt .u64)) fun x => (o1 (cBool)).enc (p_nan x))), (42, .s (sumT (aCons (cInt .u64) (aOne (cInt .u64))) fun x => (o1 (cBool)).enc (p_Less x.1 x.2)))]) F) (fun id => cond (Nat.beq 5 id) (some (lsB 0 p_bestL_L0_dec p_bestL_L0_I p_bestL_L0_R p_bestL_L0_ok p_bestL_L0_rt p_bestL_L0_v p_bestL_L0_rv)) (none) : Loops) 60 Try.f95 ((aCons (cInts .u64) (aOne (cFn 42))).enc false (l, g)) Q = (p_bestL_T p_Quiet p_bestL_L0_ok p_bestL_L0_rt p_bestL_L0_v p_bestL_L0_rv l g).prop (fun x => Q ((o1 (cInt .u64)).enc x)) := by kernel_rfl
theorem p_bestL_c (x : (List Int) × Unit) (hs : p_bestL_s x.1 x.2 = true) (w : World) (vs : Array Value) (hp : ArgsR ((aCons (cInts .u64) (aOne (cFn 42))).enc false x) w vs) : Calls Try.prog 95 vs w (Ans ((o1 (cInt .u64)).enc (p_bestL x.1 x.2)) w) :=
  contractT mixed (AllGood.cons p_Quiet_ok (AllGood.cons p_nan_ok (AllGood.cons p_Less_ok AllGood.nil))) Try.func95 (fun _ _ _ => loops_all (m := 1) (by kernel_rfl) (fun i hi => match i, hi with
    | 0, _ => (fun g hg s k hk => p_bestL_L0_ls (cast (congrFun (congrFun (Option.some.inj (hg.symm.trans (by kernel_rfl))) s) k) hk))
    | (j + 1), hi => absurd hi (by omega))) hs (fun F => p_bestL_ev F p_Quiet p_nan p_Less p_bestL_L0_ok p_bestL_L0_rt p_bestL_L0_v p_bestL_L0_rv x.1 x.2) w vs hp
theorem p_bestL_ok : GoodF Try.prog 95 (sumOf (aCons (cInts .u64) (aOne (cFn 42))) (fun x => p_bestL_s x.1 x.2) fun x => (o1 (cInt .u64)).enc (p_bestL x.1 x.2)) :=
  good_sum (callable_of Try.func95 (by kernel_rfl) (by kernel_rfl)) p_bestL_c
theorem p_Max_ev (F : Nat → Prop) (p_bestL : (List Int) → Unit → Int) (p_bestL_s : (List Int) → Unit → Bool) (p_bestM : (List Int) → Unit → Int) (p_bestM_s : (List Int) → Unit → Bool) (p_Max1 : Int → Int → Bool) (p_Less : Int → Int → Bool) (l : List Int) (Q : AV → Prop) : evF Try.prog (mkC ([(95, .s (orS (sumOf (aCons (cInts .u64) (aOne (cFn 42))) (fun x => p_bestL_s x.1 x.2) fun x => (o1 (cInt .u64)).enc (p_bestL x.1 x.2)) (sumOf (aCons (cInts .u64) (aOne (cFn 96))) (fun x => p_bestM_s x.1 x.2) fun x => (o1 (cInt .u64)).enc (p_bestM x.1 x.2)))), (96, .s (sumT (aCons (cInt .u64) (aOne (cInt .u64))) fun x => (o1 (cBool)).enc (p_Max1 x.1 x.2))), (42, .s (sumT (aCons (cInt .u64) (aOne (cInt .u64))) fun x => (o1 (cBool)).enc (p_Less x.1 x.2)))]) F) noL 60 Try.f62 ((aOne (cInts .u64)).enc false l) Q = (p_Max_T p_bestM p_bestM_s l).prop (fun x => Q ((o1 (cInt .u64)).enc x)) := by kernel_rfl
theorem p_Max_c (x : (List Int)) (hs : p_Max_s x = true) (w : World) (vs : Array Value) (hp : ArgsR ((aOne (cInts .u64)).enc false x) w vs) : Calls Try.prog 62 vs w (Ans ((o1 (cInt .u64)).enc (p_Max x)) w) :=
  contractT mixed (AllGood.cons (good_or p_bestL_ok p_bestM_ok) (AllGood.cons p_Max1_ok (AllGood.cons p_Less_ok AllGood.nil))) Try.func62 (fun _ _ _ _ _ => noL_ok) hs (fun F => p_Max_ev F p_bestL p_bestL_s p_bestM p_bestM_s p_Max1 p_Less x) w vs hp
theorem p_Max_ok : GoodF Try.prog 62 (sumOf (aOne (cInts .u64)) (fun x => p_Max_s x) fun x => (o1 (cInt .u64)).enc (p_Max x)) :=
  good_sum (callable_of Try.func62 (by kernel_rfl) (by kernel_rfl)) p_Max_c
theorem p_Min_ev (F : Nat → Prop) (p_bestL : (List Int) → Unit → Int) (p_bestL_s : (List Int) → Unit → Bool) (p_bestM : (List Int) → Unit → Int) (p_bestM_s : (List Int) → Unit → Bool) (p_Less : Int → Int → Bool) (l : List Int) (Q : AV → Prop) : evF Try.prog (mkC ([(95, .s (orS (sumOf (aCons (cInts .u64) (aOne (cFn 42))) (fun x => p_bestL_s x.1 x.2) fun x => (o1 (cInt .u64)).enc (p_bestL x.1 x.2)) (sumOf (aCons (cInts .u64) (aOne (cFn 96))) (fun x => p_bestM_s x.1 x.2) fun x => (o1 (cInt .u64)).enc (p_bestM x.1 x.2)))), (42, .s (sumT (aCons (cInt .u64) (aOne (cInt .u64))) fun x => (o1 (cBool)).enc (p_Less x.1 x.2)))]) F) noL 60 Try.f61 ((aOne (cInts .u64)).enc false l) Q = (p_Min_T p_bestL p_bestL_s l).prop (fun x => Q ((o1 (cInt .u64)).enc x)) := by kernel_rfl
theorem p_Min_c (x : (List Int)) (hs : p_Min_s x = true) (w : World) (vs : Array Value) (hp : ArgsR ((aOne (cInts .u64)).enc false x) w vs) : Calls Try.prog 61 vs w (Ans ((o1 (cInt .u64)).enc (p_Min x)) w) :=
  contractT mixed (AllGood.cons (good_or p_bestL_ok p_bestM_ok) (AllGood.cons p_Less_ok AllGood.nil)) Try.func61 (fun _ _ _ _ _ => noL_ok) hs (fun F => p_Min_ev F p_bestL p_bestL_s p_bestM p_bestM_s p_Less x) w vs hp
theorem p_Min_ok : GoodF Try.prog 61 (sumOf (aOne (cInts .u64)) (fun x => p_Min_s x) fun x => (o1 (cInt .u64)).enc (p_Min x)) :=
  good_sum (callable_of Try.func61 (by kernel_rfl) (by kernel_rfl)) p_Min_c
theorem r4_Parts_ev (F : Nat → Prop)  (f : Int) (Q : AV → Prop) : evF Try.prog (mkC ([]) F) noL 60 Try.f113 ((aOne (cInt .u64)).enc false f) Q = (r4_Parts_T  f).prop (fun x => Q ((o3 (cBool) (cInt .i64) (cInt .u64)).enc x)) := by kernel_rfl
theorem r4_Parts_c (x : Int) (w : World) (vs : Array Value) (hp : ArgsR ((aOne (cInt .u64)).enc false x) w vs) : Calls Try.prog 113 vs w (Ans ((o3 (cBool) (cInt .i64) (cInt .u64)).enc (r4_Parts x)) w) :=
  contractT mixed AllGood.nil Try.func113 (fun _ _ _ _ _ => noL_ok) (Tr.safe_of (t := r4_Parts_t x) rfl) (fun F => r4_Parts_ev F  x) w vs hp
theorem r4_Parts_ok : GoodF Try.prog 113 (sumT (aOne (cInt .u64)) fun x => (o3 (cBool) (cInt .i64) (cInt .u64)).enc (r4_Parts x)) :=
  good_sumT (callable_of Try.func113 (by kernel_rfl) (by kernel_rfl)) r4_Parts_c
theorem r4_Class_ev (F : Nat → Prop) (r4_Parts : Int → Bool × Int × Int) (f : Int) (Q : AV → Prop) : evF Try.prog (mkC ([(113, .s (sumT (aOne (cInt .u64)) fun x => (o3 (cBool) (cInt .i64) (cInt .u64)).enc (r4_Parts x)))]) F) noL 60 Try.f79 ((aOne (cInt .u64)).enc false f) Q = (r4_Class_T r4_Parts f).prop (fun x => Q ((o1 (cInt .u8)).enc x)) := by kernel_rfl
theorem r4_Class_c (x : Int) (w : World) (vs : Array Value) (hp : ArgsR ((aOne (cInt .u64)).enc false x) w vs) : Calls Try.prog 79 vs w (Ans ((o1 (cInt .u8)).enc (r4_Class x)) w) :=
  contractT mixed (AllGood.cons r4_Parts_ok AllGood.nil) Try.func79 (fun _ _ _ _ _ => noL_ok) (Tr.safe_of (t := r4_Class_t x) rfl) (fun F => r4_Class_ev F r4_Parts x) w vs hp
theorem r4_Class_ok : GoodF Try.prog 79 (sumT (aOne (cInt .u64)) fun x => (o1 (cInt .u8)).enc (r4_Class x)) :=
  good_sumT (callable_of Try.func79 (by kernel_rfl) (by kernel_rfl)) r4_Class_c
theorem r4_Key_ev (F : Nat → Prop) (r4_Parts : Int → Bool × Int × Int) (f : Int) (Q : AV → Prop) : evF Try.prog (mkC ([(113, .s (sumT (aOne (cInt .u64)) fun x => (o3 (cBool) (cInt .i64) (cInt .u64)).enc (r4_Parts x)))]) F) noL 60 Try.f80 ((aOne (cInt .u64)).enc false f) Q = (r4_Key_T r4_Parts f).prop (fun x => Q ((o1 (cInt .i64)).enc x)) := by kernel_rfl
theorem r4_Key_c (x : Int) (w : World) (vs : Array Value) (hp : ArgsR ((aOne (cInt .u64)).enc false x) w vs) : Calls Try.prog 80 vs w (Ans ((o1 (cInt .i64)).enc (r4_Key x)) w) :=
  contractT mixed (AllGood.cons r4_Parts_ok AllGood.nil) Try.func80 (fun _ _ _ _ _ => noL_ok) (Tr.safe_of (t := r4_Key_t x) rfl) (fun F => r4_Key_ev F r4_Parts x) w vs hp
theorem r4_Key_ok : GoodF Try.prog 80 (sumT (aOne (cInt .u64)) fun x => (o1 (cInt .i64)).enc (r4_Key x)) :=
  good_sumT (callable_of Try.func80 (by kernel_rfl) (by kernel_rfl)) r4_Key_c
theorem r4_Cmp_ev (F : Nat → Prop) (r4_Class : Int → Int) (r4_Key : Int → Int) (a : Int) (b : Int) (Q : AV → Prop) : evF Try.prog (mkC ([(79, .s (sumT (aOne (cInt .u64)) fun x => (o1 (cInt .u8)).enc (r4_Class x))), (80, .s (sumT (aOne (cInt .u64)) fun x => (o1 (cInt .i64)).enc (r4_Key x)))]) F) noL 60 Try.f40 ((aCons (cInt .u64) (aOne (cInt .u64))).enc false (a, b)) Q = (r4_Cmp_T r4_Class r4_Key a b).prop (fun x => Q ((o2 (cInt .i64) (cBool)).enc x)) := by kernel_rfl
theorem r4_Cmp_c (x : Int × Int) (w : World) (vs : Array Value) (hp : ArgsR ((aCons (cInt .u64) (aOne (cInt .u64))).enc false x) w vs) : Calls Try.prog 40 vs w (Ans ((o2 (cInt .i64) (cBool)).enc (r4_Cmp x.1 x.2)) w) :=
  contractT mixed (AllGood.cons r4_Class_ok (AllGood.cons r4_Key_ok AllGood.nil)) Try.func40 (fun _ _ _ _ _ => noL_ok) (Tr.safe_of (t := r4_Cmp_t x.1 x.2) rfl) (fun F => r4_Cmp_ev F r4_Class r4_Key x.1 x.2) w vs hp
theorem r4_Cmp_ok : GoodF Try.prog 40 (sumT (aCons (cInt .u64) (aOne (cInt .u64))) fun x => (o2 (cInt .i64) (cBool)).enc (r4_Cmp x.1 x.2)) :=
  good_sumT (callable_of Try.func40 (by kernel_rfl) (by kernel_rfl)) r4_Cmp_c
end Go.Proofs.Ytdkbeajkedffeaa
