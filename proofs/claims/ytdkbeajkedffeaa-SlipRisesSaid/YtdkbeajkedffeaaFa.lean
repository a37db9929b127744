/- Spans: contracts of the functions. Conditions: as each theorem states. -/
import Derived.Test.YtdkbeajkedffeaaSa
import Derived.Test.YtdkbeajkedffeaaFd
namespace Go.Proofs.Ytdkbeajkedffeaa
open Go.Ev Go.Fb
theorem sp_inf_ev (F : Nat → Prop) (p_Inf : Bool → Int)  (Q : AV → Prop) : evF Try.prog (mkC ([(49, .s (sumT (aOne (cBool)) fun x => (o1 (cInt .u64)).enc (p_Inf x)))]) F) noL 60 Try.f55 (aNil.enc false ()) Q = (sp_inf_T p_Inf ).prop (fun x => Q ((o1 (cInt .u64)).enc x)) := by kernel_rfl
theorem sp_inf_c (x : Unit) (w : World) (vs : Array Value) (hp : ArgsR (aNil.enc false x) w vs) : Calls Try.prog 55 vs w (Ans ((o1 (cInt .u64)).enc (sp_inf )) w) :=
  contractT mixed (AllGood.cons p_Inf_ok AllGood.nil) Try.func55 (fun _ _ _ _ _ => noL_ok) (Tr.safe_of (t := sp_inf_t ) rfl) (fun F => sp_inf_ev F p_Inf ) w vs hp
theorem sp_inf_ok : GoodF Try.prog 55 (sumT aNil fun _ => (o1 (cInt .u64)).enc (sp_inf )) :=
  good_sumT (callable_of Try.func55 (by kernel_rfl) (by kernel_rfl)) sp_inf_c
theorem sp_ninf_ev (F : Nat → Prop) (p_Inf : Bool → Int)  (Q : AV → Prop) : evF Try.prog (mkC ([(49, .s (sumT (aOne (cBool)) fun x => (o1 (cInt .u64)).enc (p_Inf x)))]) F) noL 60 Try.f54 (aNil.enc false ()) Q = (sp_ninf_T p_Inf ).prop (fun x => Q ((o1 (cInt .u64)).enc x)) := by kernel_rfl
theorem sp_ninf_c (x : Unit) (w : World) (vs : Array Value) (hp : ArgsR (aNil.enc false x) w vs) : Calls Try.prog 54 vs w (Ans ((o1 (cInt .u64)).enc (sp_ninf )) w) :=
  contractT mixed (AllGood.cons p_Inf_ok AllGood.nil) Try.func54 (fun _ _ _ _ _ => noL_ok) (Tr.safe_of (t := sp_ninf_t ) rfl) (fun F => sp_ninf_ev F p_Inf ) w vs hp
theorem sp_ninf_ok : GoodF Try.prog 54 (sumT aNil fun _ => (o1 (cInt .u64)).enc (sp_ninf )) :=
  good_sumT (callable_of Try.func54 (by kernel_rfl) (by kernel_rfl)) sp_ninf_c
theorem sp_none_ev (F : Nat → Prop)   (Q : AV → Prop) : evF Try.prog (mkC ([]) F) noL 60 Try.f60 (aNil.enc false ()) Q = (sp_none_T  ).prop (fun x => Q ((o1 (cSP)).enc x)) := by kernel_rfl
theorem sp_none_c (x : Unit) (w : World) (vs : Array Value) (hp : ArgsR (aNil.enc false x) w vs) : Calls Try.prog 60 vs w (Ans ((o1 (cSP)).enc (sp_none )) w) :=
  contractT mixed AllGood.nil Try.func60 (fun _ _ _ _ _ => noL_ok) (Tr.safe_of (t := sp_none_t ) rfl) (fun F => sp_none_ev F  ) w vs hp
theorem sp_none_ok : GoodF Try.prog 60 (sumT aNil fun _ => (o1 (cSP)).enc (sp_none )) :=
  good_sumT (callable_of Try.func60 (by kernel_rfl) (by kernel_rfl)) sp_none_c
theorem sp_atMost_ev (F : Nat → Prop) (p_Cmp : Int → Int → Int × Bool) (a : Int) (b : Int) (Q : AV → Prop) : evF Try.prog (mkC ([(30, .s (sumT (aCons (cInt .u64) (aOne (cInt .u64))) fun x => (o2 (cInt .i64) (cBool)).enc (p_Cmp x.1 x.2)))]) F) noL 60 Try.f59 ((aCons (cInt .u64) (aOne (cInt .u64))).enc false (a, b)) Q = (sp_atMost_T p_Cmp a b).prop (fun x => Q ((o1 (cBool)).enc x)) := by kernel_rfl
theorem sp_atMost_c (x : Int × Int) (w : World) (vs : Array Value) (hp : ArgsR ((aCons (cInt .u64) (aOne (cInt .u64))).enc false x) w vs) : Calls Try.prog 59 vs w (Ans ((o1 (cBool)).enc (sp_atMost x.1 x.2)) w) :=
  contractT mixed (AllGood.cons p_Cmp_ok AllGood.nil) Try.func59 (fun _ _ _ _ _ => noL_ok) (Tr.safe_of (t := sp_atMost_t x.1 x.2) rfl) (fun F => sp_atMost_ev F p_Cmp x.1 x.2) w vs hp
theorem sp_atMost_ok : GoodF Try.prog 59 (sumT (aCons (cInt .u64) (aOne (cInt .u64))) fun x => (o1 (cBool)).enc (sp_atMost x.1 x.2)) :=
  good_sumT (callable_of Try.func59 (by kernel_rfl) (by kernel_rfl)) sp_atMost_c
theorem sp_norm_ev (F : Nat → Prop) (sp_atMost : Int → Int → Bool) (sp_inf : Int) (sp_ninf : Int) (sp_none : SP) (p_Class : Int → Int) (s : SP) (Q : AV → Prop) : evF Try.prog (mkC ([(59, .s (sumT (aCons (cInt .u64) (aOne (cInt .u64))) fun x => (o1 (cBool)).enc (sp_atMost x.1 x.2))), (55, .s (sumT aNil fun _ => (o1 (cInt .u64)).enc (sp_inf ))), (54, .s (sumT aNil fun _ => (o1 (cInt .u64)).enc (sp_ninf ))), (60, .s (sumT aNil fun _ => (o1 (cSP)).enc (sp_none ))), (56, .s (sumT (aOne (cInt .u64)) fun x => (o1 (cInt .u8)).enc (p_Class x)))]) F) noL 60 Try.f53 ((aOne (cSP)).enc false s) Q = (sp_norm_T sp_atMost sp_inf sp_ninf sp_none p_Class s).prop (fun x => Q ((o1 (cSP)).enc x)) := by kernel_rfl
theorem sp_norm_c (x : SP) (w : World) (vs : Array Value) (hp : ArgsR ((aOne (cSP)).enc false x) w vs) : Calls Try.prog 53 vs w (Ans ((o1 (cSP)).enc (sp_norm x)) w) :=
  contractT mixed (AllGood.cons sp_atMost_ok (AllGood.cons sp_inf_ok (AllGood.cons sp_ninf_ok (AllGood.cons sp_none_ok (AllGood.cons p_Class_ok AllGood.nil))))) Try.func53 (fun _ _ _ _ _ => noL_ok) (Tr.safe_of (t := sp_norm_t x) rfl) (fun F => sp_norm_ev F sp_atMost sp_inf sp_ninf sp_none p_Class x) w vs hp
theorem sp_norm_ok : GoodF Try.prog 53 (sumT (aOne (cSP)) fun x => (o1 (cSP)).enc (sp_norm x)) :=
  good_sumT (callable_of Try.func53 (by kernel_rfl) (by kernel_rfl)) sp_norm_c
theorem sp_Make_ev (F : Nat → Prop) (sp_norm : SP → SP) (lo : Int) (hi : Int) (Q : AV → Prop) : evF Try.prog (mkC ([(53, .s (sumT (aOne (cSP)) fun x => (o1 (cSP)).enc (sp_norm x)))]) F) noL 60 Try.f12 ((aCons (cInt .u64) (aOne (cInt .u64))).enc false (lo, hi)) Q = (sp_Make_T sp_norm lo hi).prop (fun x => Q ((o1 (cSP)).enc x)) := by kernel_rfl
theorem sp_Make_c (x : Int × Int) (w : World) (vs : Array Value) (hp : ArgsR ((aCons (cInt .u64) (aOne (cInt .u64))).enc false x) w vs) : Calls Try.prog 12 vs w (Ans ((o1 (cSP)).enc (sp_Make x.1 x.2)) w) :=
  contractT mixed (AllGood.cons sp_norm_ok AllGood.nil) Try.func12 (fun _ _ _ _ _ => noL_ok) (Tr.safe_of (t := sp_Make_t x.1 x.2) rfl) (fun F => sp_Make_ev F sp_norm x.1 x.2) w vs hp
theorem sp_Make_ok : GoodF Try.prog 12 (sumT (aCons (cInt .u64) (aOne (cInt .u64))) fun x => (o1 (cSP)).enc (sp_Make x.1 x.2)) :=
  good_sumT (callable_of Try.func12 (by kernel_rfl) (by kernel_rfl)) sp_Make_c
theorem sp_Point_ev (F : Nat → Prop) (sp_Make : Int → Int → SP) (f : Int) (Q : AV → Prop) : evF Try.prog (mkC ([(12, .s (sumT (aCons (cInt .u64) (aOne (cInt .u64))) fun x => (o1 (cSP)).enc (sp_Make x.1 x.2)))]) F) noL 60 Try.f14 ((aOne (cInt .u64)).enc false f) Q = (sp_Point_T sp_Make f).prop (fun x => Q ((o1 (cSP)).enc x)) := by kernel_rfl
theorem sp_Point_c (x : Int) (w : World) (vs : Array Value) (hp : ArgsR ((aOne (cInt .u64)).enc false x) w vs) : Calls Try.prog 14 vs w (Ans ((o1 (cSP)).enc (sp_Point x)) w) :=
  contractT mixed (AllGood.cons sp_Make_ok AllGood.nil) Try.func14 (fun _ _ _ _ _ => noL_ok) (Tr.safe_of (t := sp_Point_t x) rfl) (fun F => sp_Point_ev F sp_Make x) w vs hp
theorem sp_Point_ok : GoodF Try.prog 14 (sumT (aOne (cInt .u64)) fun x => (o1 (cSP)).enc (sp_Point x)) :=
  good_sumT (callable_of Try.func14 (by kernel_rfl) (by kernel_rfl)) sp_Point_c
theorem sp_All_ev (F : Nat → Prop) (sp_ninf : Int) (sp_inf : Int) (sp_Make : Int → Int → SP)  (Q : AV → Prop) : evF Try.prog (mkC ([(54, .s (sumT aNil fun _ => (o1 (cInt .u64)).enc (sp_ninf ))), (55, .s (sumT aNil fun _ => (o1 (cInt .u64)).enc (sp_inf ))), (12, .s (sumT (aCons (cInt .u64) (aOne (cInt .u64))) fun x => (o1 (cSP)).enc (sp_Make x.1 x.2)))]) F) noL 60 Try.f15 (aNil.enc false ()) Q = (sp_All_T sp_ninf sp_inf sp_Make ).prop (fun x => Q ((o1 (cSP)).enc x)) := by kernel_rfl
theorem sp_All_c (x : Unit) (w : World) (vs : Array Value) (hp : ArgsR (aNil.enc false x) w vs) : Calls Try.prog 15 vs w (Ans ((o1 (cSP)).enc (sp_All )) w) :=
  contractT mixed (AllGood.cons sp_ninf_ok (AllGood.cons sp_inf_ok (AllGood.cons sp_Make_ok AllGood.nil))) Try.func15 (fun _ _ _ _ _ => noL_ok) (Tr.safe_of (t := sp_All_t ) rfl) (fun F => sp_All_ev F sp_ninf sp_inf sp_Make ) w vs hp
theorem sp_All_ok : GoodF Try.prog 15 (sumT aNil fun _ => (o1 (cSP)).enc (sp_All )) :=
  good_sumT (callable_of Try.func15 (by kernel_rfl) (by kernel_rfl)) sp_All_c
theorem sp_Inside_ev (F : Nat → Prop) (sp_norm : SP → SP) (sp_atMost : Int → Int → Bool) (a : SP) (b : SP) (Q : AV → Prop) : evF Try.prog (mkC ([(53, .s (sumT (aOne (cSP)) fun x => (o1 (cSP)).enc (sp_norm x))), (59, .s (sumT (aCons (cInt .u64) (aOne (cInt .u64))) fun x => (o1 (cBool)).enc (sp_atMost x.1 x.2)))]) F) noL 60 Try.f18 ((aCons (cSP) (aOne (cSP))).enc false (a, b)) Q = (sp_Inside_T sp_norm sp_atMost a b).prop (fun x => Q ((o1 (cBool)).enc x)) := by kernel_rfl
theorem sp_Inside_c (x : SP × SP) (w : World) (vs : Array Value) (hp : ArgsR ((aCons (cSP) (aOne (cSP))).enc false x) w vs) : Calls Try.prog 18 vs w (Ans ((o1 (cBool)).enc (sp_Inside x.1 x.2)) w) :=
  contractT mixed (AllGood.cons sp_norm_ok (AllGood.cons sp_atMost_ok AllGood.nil)) Try.func18 (fun _ _ _ _ _ => noL_ok) (Tr.safe_of (t := sp_Inside_t x.1 x.2) rfl) (fun F => sp_Inside_ev F sp_norm sp_atMost x.1 x.2) w vs hp
theorem sp_Inside_ok : GoodF Try.prog 18 (sumT (aCons (cSP) (aOne (cSP))) fun x => (o1 (cBool)).enc (sp_Inside x.1 x.2)) :=
  good_sumT (callable_of Try.func18 (by kernel_rfl) (by kernel_rfl)) sp_Inside_c
theorem sp_Has_ev (F : Nat → Prop) (p_Class : Int → Int) (sp_Point : Int → SP) (sp_Inside : SP → SP → Bool) (s : SP) (f : Int) (Q : AV → Prop) : evF Try.prog (mkC ([(56, .s (sumT (aOne (cInt .u64)) fun x => (o1 (cInt .u8)).enc (p_Class x))), (14, .s (sumT (aOne (cInt .u64)) fun x => (o1 (cSP)).enc (sp_Point x))), (18, .s (sumT (aCons (cSP) (aOne (cSP))) fun x => (o1 (cBool)).enc (sp_Inside x.1 x.2)))]) F) noL 60 Try.f16 ((aCons (cSP) (aOne (cInt .u64))).enc false (s, f)) Q = (sp_Has_T p_Class sp_Point sp_Inside s f).prop (fun x => Q ((o1 (cBool)).enc x)) := by kernel_rfl
theorem sp_Has_c (x : SP × Int) (w : World) (vs : Array Value) (hp : ArgsR ((aCons (cSP) (aOne (cInt .u64))).enc false x) w vs) : Calls Try.prog 16 vs w (Ans ((o1 (cBool)).enc (sp_Has x.1 x.2)) w) :=
  contractT mixed (AllGood.cons p_Class_ok (AllGood.cons sp_Point_ok (AllGood.cons sp_Inside_ok AllGood.nil))) Try.func16 (fun _ _ _ _ _ => noL_ok) (Tr.safe_of (t := sp_Has_t x.1 x.2) rfl) (fun F => sp_Has_ev F p_Class sp_Point sp_Inside x.1 x.2) w vs hp
theorem sp_Has_ok : GoodF Try.prog 16 (sumT (aCons (cSP) (aOne (cInt .u64))) fun x => (o1 (cBool)).enc (sp_Has x.1 x.2)) :=
  good_sumT (callable_of Try.func16 (by kernel_rfl) (by kernel_rfl)) sp_Has_c
def sp_Join_L0_tm : Tm :=
  Tm.mk
    [none, none, some (false, [Sh.ptr 0 0]), some (false, [Sh.ptr 1 0]), none, none, none,
      some (false, [Sh.vecr false [Ct.bool, Ct.int IntKind.u64, Ct.int IntKind.u64]]), some (false, [Sh.int IntKind.i64]),
      some (false, [Sh.int IntKind.i64]), none, none, none, none, none, none, none, none, none, none, none, none, none,
      none, none, none, none, none, none, none, none, none, none, none, none, none, none]
    [Hs.cells 25 [Sh.bool, Sh.int IntKind.u64, Sh.int IntKind.u64],
      Hs.cells 25 [Sh.bool, Sh.int IntKind.u64, Sh.int IntKind.u64]]
    false
def sp_Join_L0_of : List Pv → Option (((List (List Cv)) × Int × Bool × Int × Int) × (Int × Bool × Int × Int))
  | [.rl v7, .i v8, .i v9, .b h0_0, .i h0_1, .i h0_2, .b h1_0, .i h1_1, .i h1_2] => some ((v7, v8, h0_0, h0_1, h0_2), (v9, h1_0, h1_1, h1_2))
  | _ => none
def sp_Join_L0_to (p : (List (List Cv)) × Int × Bool × Int × Int) (x : Int × Bool × Int × Int) : List Pv := [.rl p.1, .i p.2.1, .i x.1, .b p.2.2.1, .i p.2.2.2.1, .i p.2.2.2.2, .b x.2.1, .i x.2.2.1, .i x.2.2.2]
theorem sp_Join_L0_ot (l : List Pv) (p : (List (List Cv)) × Int × Bool × Int × Int) (x : Int × Bool × Int × Int) (h : sp_Join_L0_of l = some (p, x)) : sp_Join_L0_to p x = l := by
  unfold sp_Join_L0_of at h
  split at h
  · cases h; rfl
  · cases h
def sp_Join_L0_dec (s : St) : Option (((List (List Cv)) × Int × Bool × Int × Int) × (Int × Bool × Int × Int)) := (sp_Join_L0_tm.dec s).bind sp_Join_L0_of
def sp_Join_L0_I (p : (List (List Cv)) × Int × Bool × Int × Int) (x : Int × Bool × Int × Int) : St := sp_Join_L0_tm.enc (sp_Join_L0_to p x)
theorem sp_Join_L0_ev (F : Nat → Prop) (sp_none : SP) (sp_norm : SP → SP) (p_Min : (List Int) → Int) (p_Min_s : (List Int) → Bool) (p_Max : (List Int) → Int) (p_Max_s : (List Int) → Bool) (sp_Make : Int → Int → SP) (v7 : List (List Cv)) (v8 : Int) (h0_0 : Bool) (h0_1 : Int) (h0_2 : Int) (v9 : Int) (h1_0 : Bool) (h1_1 : Int) (h1_2 : Int) (Q : (((List (List Cv)) × Int × Bool × Int × Int) × (Int × Bool × Int × Int)) ⊕ (((List (List Cv)) × Int × Bool × Int × Int) × (Int × Bool × Int × Int)) → Prop) : evC Try.prog (mkC ([(60, .s (sumT aNil fun _ => (o1 (cSP)).enc (sp_none ))), (53, .s (sumT (aOne (cSP)) fun x => (o1 (cSP)).enc (sp_norm x))), (61, .s (sumOf (aOne (cInts .u64)) (fun x => p_Min_s x) fun x => (o1 (cInt .u64)).enc (p_Min x))), (62, .s (sumOf (aOne (cInts .u64)) (fun x => p_Max_s x) fun x => (o1 (cInt .u64)).enc (p_Max x))), (12, .s (sumT (aCons (cInt .u64) (aOne (cInt .u64))) fun x => (o1 (cSP)).enc (sp_Make x.1 x.2)))]) F) noL 60 (lp Try.f20 0) (sp_Join_L0_I (v7, v8, h0_0, h0_1, h0_2) (v9, h1_0, h1_1, h1_2)) (fun y s => onO Q (bkE 0 sp_Join_L0_dec y s)) = (sp_Join_L0_T sp_norm p_Min p_Min_s p_Max p_Max_s sp_Make v7 v8 h0_0 h0_1 h0_2 v9 h1_0 h1_1 h1_2).prop (onT (v7, v8, h0_0, h0_1, h0_2) Q) := by kernel_rfl
set_option maxRecDepth 100000 in
theorem sp_Join_L0_ls {F : Nat → Prop} {B : Nat} {w0 : World} {s : St} {k : X → St → Prop} (hk : (lsE 0 sp_Join_L0_dec sp_Join_L0_I sp_Join_L0_ok sp_Join_L0_v) s k) : EW Try.prog (mkC ([(60, .s (sumT aNil fun _ => (o1 (cSP)).enc (sp_none ))), (53, .s (sumT (aOne (cSP)) fun x => (o1 (cSP)).enc (sp_norm x))), (61, .s (sumOf (aOne (cInts .u64)) (fun x => p_Min_s x) fun x => (o1 (cInt .u64)).enc (p_Min x))), (62, .s (sumOf (aOne (cInts .u64)) (fun x => p_Max_s x) fun x => (o1 (cInt .u64)).enc (p_Max x))), (12, .s (sumT (aCons (cInt .u64) (aOne (cInt .u64))) fun x => (o1 (cSP)).enc (sp_Make x.1 x.2)))]) F) B w0 (.loop (lp Try.f20 0)) s k :=
  lsE_ok (fun _ _ _ h => weak_of sp_Join_L0_ot (.inl rfl) h) (step := sp_Join_L0_step) (fun p x Q h => evC_spec mixed (mkC_ok (AllGood.cons sp_none_ok (AllGood.cons sp_norm_ok (AllGood.cons p_Min_ok (AllGood.cons p_Max_ok (AllGood.cons sp_Make_ok AllGood.nil))))) F) (L := noL) (u := 60) _ (loops_nil (by kernel_rfl)) _ _ (Eq.mpr (sp_Join_L0_ev F sp_none sp_norm p_Min p_Min_s p_Max p_Max_s sp_Make p.1 p.2.1 p.2.2.1 p.2.2.2.1 p.2.2.2.2 x.1 x.2.1 x.2.2.1 x.2.2.2 Q) h)) (fun _ _ h => run_ok h) hk
theorem sp_Join_ev (F : Nat → Prop) (sp_none : SP) (sp_norm : SP → SP) (p_Min : (List Int) → Int) (p_Min_s : (List Int) → Bool) (p_Max : (List Int) → Int) (p_Max_s : (List Int) → Bool) (sp_Make : Int → Int → SP) (sp_Join_L0_ok : ((List (List Cv)) × Int × Bool × Int × Int) → (Int × Bool × Int × Int) → Bool) (sp_Join_L0_v : ((List (List Cv)) × Int × Bool × Int × Int) → (Int × Bool × Int × Int) → Int × Bool × Int × Int) (l : List (List Cv)) (Q : AV → Prop) : evF Try.prog (mkC ([(60, .s (sumT aNil fun _ => (o1 (cSP)).enc (sp_none ))), (53, .s (sumT (aOne (cSP)) fun x => (o1 (cSP)).enc (sp_norm x))), (61, .s (sumOf (aOne (cInts .u64)) (fun x => p_Min_s x) fun x => (o1 (cInt .u64)).enc (p_Min x))), (62, .s (sumOf (aOne (cInts .u64)) (fun x => p_Max_s x) fun x => (o1 (cInt .u64)).enc (p_Max x))), (12, .s (sumT (aCons (cInt .u64) (aOne (cInt .u64))) fun x => (o1 (cSP)).enc (sp_Make x.1 x.2)))]) F) (fun id => cond (Nat.beq 3 id) (some (lsE 0 sp_Join_L0_dec sp_Join_L0_I sp_Join_L0_ok sp_Join_L0_v)) (none) : Loops) 60 Try.f20 ((aOne (cRow [.bool, .int .u64, .int .u64])).enc false l) Q = (sp_Join_T sp_none sp_Join_L0_ok sp_Join_L0_v l).prop (fun x => Q ((o1 (cSP)).enc x)) := by kernel_rfl
theorem sp_Join_c (x : (List (List Cv))) (hs : sp_Join_s x = true) (w : World) (vs : Array Value) (hp : ArgsR ((aOne (cRow [.bool, .int .u64, .int .u64])).enc false x) w vs) : Calls Try.prog 20 vs w (Ans ((o1 (cSP)).enc (sp_Join x)) w) :=
  contractT mixed (AllGood.cons sp_none_ok (AllGood.cons sp_norm_ok (AllGood.cons p_Min_ok (AllGood.cons p_Max_ok (AllGood.cons sp_Make_ok AllGood.nil))))) Try.func20 (fun _ _ _ => loops_all (m := 1) (by kernel_rfl) (fun i hi => match i, hi with
    | 0, _ => (fun g hg s k hk => sp_Join_L0_ls (cast (congrFun (congrFun (Option.some.inj (hg.symm.trans (by kernel_rfl))) s) k) hk))
    | (j + 1), hi => absurd hi (by omega))) hs (fun F => sp_Join_ev F sp_none sp_norm p_Min p_Min_s p_Max p_Max_s sp_Make sp_Join_L0_ok sp_Join_L0_v x) w vs hp
theorem sp_Join_ok : GoodF Try.prog 20 (sumOf (aOne (cRow [.bool, .int .u64, .int .u64])) (fun x => sp_Join_s x) fun x => (o1 (cSP)).enc (sp_Join x)) :=
  good_sum (callable_of Try.func20 (by kernel_rfl) (by kernel_rfl)) sp_Join_c
theorem sp_Neg_ev (F : Nat → Prop) (sp_norm : SP → SP) (p_Neg : Int → Int) (sp_Make : Int → Int → SP) (a : SP) (Q : AV → Prop) : evF Try.prog (mkC ([(53, .s (sumT (aOne (cSP)) fun x => (o1 (cSP)).enc (sp_norm x))), (77, .s (sumT (aOne (cInt .u64)) fun x => (o1 (cInt .u64)).enc (p_Neg x))), (12, .s (sumT (aCons (cInt .u64) (aOne (cInt .u64))) fun x => (o1 (cSP)).enc (sp_Make x.1 x.2)))]) F) noL 60 Try.f52 ((aOne (cSP)).enc false a) Q = (sp_Neg_T sp_norm p_Neg sp_Make a).prop (fun x => Q ((o1 (cSP)).enc x)) := by kernel_rfl
theorem sp_Neg_c (x : SP) (w : World) (vs : Array Value) (hp : ArgsR ((aOne (cSP)).enc false x) w vs) : Calls Try.prog 52 vs w (Ans ((o1 (cSP)).enc (sp_Neg x)) w) :=
  contractT mixed (AllGood.cons sp_norm_ok (AllGood.cons p_Neg_ok (AllGood.cons sp_Make_ok AllGood.nil))) Try.func52 (fun _ _ _ _ _ => noL_ok) (Tr.safe_of (t := sp_Neg_t x) rfl) (fun F => sp_Neg_ev F sp_norm p_Neg sp_Make x) w vs hp
theorem sp_Neg_ok : GoodF Try.prog 52 (sumT (aOne (cSP)) fun x => (o1 (cSP)).enc (sp_Neg x)) :=
  good_sumT (callable_of Try.func52 (by kernel_rfl) (by kernel_rfl)) sp_Neg_c
theorem sp_Abs_ev (F : Nat → Prop) (sp_norm : SP → SP) (sp_atMost : Int → Int → Bool) (sp_Neg : SP → SP) (p_Neg : Int → Int) (p_Max : (List Int) → Int) (p_Max_s : (List Int) → Bool) (sp_Make : Int → Int → SP) (a : SP) (Q : AV → Prop) : evF Try.prog (mkC ([(53, .s (sumT (aOne (cSP)) fun x => (o1 (cSP)).enc (sp_norm x))), (59, .s (sumT (aCons (cInt .u64) (aOne (cInt .u64))) fun x => (o1 (cBool)).enc (sp_atMost x.1 x.2))), (52, .s (sumT (aOne (cSP)) fun x => (o1 (cSP)).enc (sp_Neg x))), (77, .s (sumT (aOne (cInt .u64)) fun x => (o1 (cInt .u64)).enc (p_Neg x))), (62, .s (sumOf (aOne (cInts .u64)) (fun x => p_Max_s x) fun x => (o1 (cInt .u64)).enc (p_Max x))), (12, .s (sumT (aCons (cInt .u64) (aOne (cInt .u64))) fun x => (o1 (cSP)).enc (sp_Make x.1 x.2)))]) F) noL 60 Try.f37 ((aOne (cSP)).enc false a) Q = (sp_Abs_T sp_norm sp_atMost sp_Neg p_Neg p_Max p_Max_s sp_Make a).prop (fun x => Q ((o1 (cSP)).enc x)) := by kernel_rfl
theorem sp_Abs_c (x : SP) (hs : sp_Abs_s x = true) (w : World) (vs : Array Value) (hp : ArgsR ((aOne (cSP)).enc false x) w vs) : Calls Try.prog 37 vs w (Ans ((o1 (cSP)).enc (sp_Abs x)) w) :=
  contractT mixed (AllGood.cons sp_norm_ok (AllGood.cons sp_atMost_ok (AllGood.cons sp_Neg_ok (AllGood.cons p_Neg_ok (AllGood.cons p_Max_ok (AllGood.cons sp_Make_ok AllGood.nil)))))) Try.func37 (fun _ _ _ _ _ => noL_ok) hs (fun F => sp_Abs_ev F sp_norm sp_atMost sp_Neg p_Neg p_Max p_Max_s sp_Make x) w vs hp
theorem sp_Abs_ok : GoodF Try.prog 37 (sumOf (aOne (cSP)) (fun x => sp_Abs_s x) fun x => (o1 (cSP)).enc (sp_Abs x)) :=
  good_sum (callable_of Try.func37 (by kernel_rfl) (by kernel_rfl)) sp_Abs_c
theorem sp_Most_ev (F : Nat → Prop) (sp_Abs : SP → SP) (sp_Abs_s : SP → Bool) (a : SP) (Q : AV → Prop) : evF Try.prog (mkC ([(37, .s (sumOf (aOne (cSP)) (fun x => sp_Abs_s x) fun x => (o1 (cSP)).enc (sp_Abs x)))]) F) noL 60 Try.f25 ((aOne (cSP)).enc false a) Q = (sp_Most_T sp_Abs sp_Abs_s a).prop (fun x => Q ((o1 (cInt .u64)).enc x)) := by kernel_rfl
theorem sp_Most_c (x : SP) (hs : sp_Most_s x = true) (w : World) (vs : Array Value) (hp : ArgsR ((aOne (cSP)).enc false x) w vs) : Calls Try.prog 25 vs w (Ans ((o1 (cInt .u64)).enc (sp_Most x)) w) :=
  contractT mixed (AllGood.cons sp_Abs_ok AllGood.nil) Try.func25 (fun _ _ _ _ _ => noL_ok) hs (fun F => sp_Most_ev F sp_Abs sp_Abs_s x) w vs hp
theorem sp_Most_ok : GoodF Try.prog 25 (sumOf (aOne (cSP)) (fun x => sp_Most_s x) fun x => (o1 (cInt .u64)).enc (sp_Most x)) :=
  good_sum (callable_of Try.func25 (by kernel_rfl) (by kernel_rfl)) sp_Most_c
end Go.Proofs.Ytdkbeajkedffeaa
