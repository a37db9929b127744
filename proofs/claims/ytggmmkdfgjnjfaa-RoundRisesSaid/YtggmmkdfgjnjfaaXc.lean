/- Layer 2: contracts of the functions, part two. Conditions: as each theorem states. -/
import Derived.Test.YtggmmkdfgjnjfaaNd
import Derived.Test.YtggmmkdfgjnjfaaXb
namespace Go.Proofs.Ytggmmkdfgjnjfaa
open Go.Ev Go.Fb
def n_Div_L0_tm : Tm :=
  Tm.mk
    [none, none, none, none, some (false, [Sh.nil]), some (false, [Sh.nil]), some (false, [Sh.int IntKind.i64]), none,
      none, some (false, [Sh.int IntKind.i64]), some (false, [Sh.own 0]), some (false, [Sh.own 1]),
      some (false, [Sh.own 2]), some (false, [Sh.int IntKind.i64]), none, none, none, none, some (false, [Sh.bool]), none,
      none, none, some (false, [Sh.bool]), none, none, none, none, none, none, some (false, [Sh.bool]), none, none, none,
      none, none, none, none, none, none, none, none, none, none, none, none, none, none, none, none, none, none, none,
      none, none, none, none, none, none, none, none, none, none, none, none, none, none, none, none, none, none, none,
      none, none, none, none, none, none, none, none, none, none, none, none, none, none, none, none, none, none, none,
      none, none, none]
    [Hs.growi 148 IntKind.u32, Hs.growi 148 IntKind.u32, Hs.growi 148 IntKind.u32] false
def n_Div_L0_of : List Pv → Option ((Int × Int × Bool × Bool × Bool × (List Int)) × (Int × (List Int) × (List Int)))
  | [.i v6, .i v9, .i v13, .b v18, .b v22, .b v29, .il h0, .il h1, .il h2] => some ((v6, v9, v18, v22, v29, h1), (v13, h0, h2))
  | _ => none
def n_Div_L0_to (p : Int × Int × Bool × Bool × Bool × (List Int)) (x : Int × (List Int) × (List Int)) : List Pv := [.i p.1, .i p.2.1, .i x.1, .b p.2.2.1, .b p.2.2.2.1, .b p.2.2.2.2.1, .il x.2.1, .il p.2.2.2.2.2, .il x.2.2]
theorem n_Div_L0_ot (l : List Pv) (p : Int × Int × Bool × Bool × Bool × (List Int)) (x : Int × (List Int) × (List Int)) (h : n_Div_L0_of l = some (p, x)) : n_Div_L0_to p x = l := by
  unfold n_Div_L0_of at h
  split at h
  · cases h; rfl
  · cases h
def n_Div_L0_dec (s : St) : Option ((Int × Int × Bool × Bool × Bool × (List Int)) × (Int × (List Int) × (List Int))) := (n_Div_L0_tm.dec s).bind n_Div_L0_of
def n_Div_L0_I (p : Int × Int × Bool × Bool × Bool × (List Int)) (x : Int × (List Int) × (List Int)) : St := n_Div_L0_tm.enc (n_Div_L0_to p x)
theorem n_Div_L0_ev (F : Nat → Prop) (n_trim : (List Int) → (List Int)) (n_trim_s : (List Int) → Bool) (n_Cmp : (List Int) → (List Int) → Int) (n_Cmp_s : (List Int) → (List Int) → Bool) (s_Clone : List Int → List Int) (s_Clone_s : List Int → Bool) (n_short : List Int → Int → List Int × List Int) (n_short_s : List Int → Int → Bool) (bits_LZ32 : Int → Int) (n_shifted : (List Int) → Int → Int → List Int) (n_shifted_s : (List Int) → Int → Int → Bool) (n_step : List Int → Nat → Nat → (List Int) → (Int) × List Int) (n_step_s : List Int → Nat → Nat → (List Int) → Bool) (n_Shr : (List Int) → Int → (List Int)) (n_Shr_s : (List Int) → Int → Bool) (v6 : Int) (v9 : Int) (v18 : Bool) (v22 : Bool) (v29 : Bool) (h1 : List Int) (v13 : Int) (h0 : List Int) (h2 : List Int) (Q : ((Int × Int × Bool × Bool × Bool × (List Int)) × (Int × (List Int) × (List Int))) ⊕ ((Int × Int × Bool × Bool × Bool × (List Int)) × (Int × (List Int) × (List Int))) → Prop) : evC Try.prog (mkC ([(157, (.w (aliasW (aOne (cInts .u32)) (fun x => n_trim_s x) fun x => (o1 (cInts .u32)).enc (n_trim x)))), (53, .s (sumOf (aCons (cInts .u32) (aOne (cInts .u32))) (fun x => n_Cmp_s x.1 x.2) fun x => (o1 (cInt .i64)).enc (n_Cmp x.1 x.2))), (158, .s (sumOf (aOne (cInts .u32)) (fun x => s_Clone_s x) fun x => (o1 (cInts .u32)).enc (s_Clone x))), (159, .s (sumOf (aCons (cInts .u32) (aOne (cInt .u32))) (fun x => n_short_s x.1 x.2) fun x => (o2 (cInts .u32) (cInts .u32)).enc (n_short x.1 x.2))), (160, .s (sumT (aOne (cInt .u32)) fun x => (o1 (cInt .i64)).enc (bits_LZ32 x))), (161, (.w (ownW .u32 148 (aCons (cInts .u32) (aCons (cInt .i64) (aOne (cInt .i64)))) (fun x => n_shifted_s x.1 x.2.1 x.2.2) fun x => n_shifted x.1 x.2.1 x.2.2))), (162, (.w (lentW .u32 148 (aOne (cInts .u32)) (fun xs lo n x => n_step_s xs lo n x) (fun xs lo n x => (o1 (cInt .u32)).enc (n_step xs lo n x).1) (fun xs lo n x => (n_step xs lo n x).2)))), (59, .s (sumOf (aCons (cInts .u32) (aOne (cInt .i64))) (fun x => n_Shr_s x.1 x.2) fun x => (o1 (cInts .u32)).enc (n_Shr x.1 x.2)))]) F) noL 60 (lp Try.f57 0) (n_Div_L0_I (v6, v9, v18, v22, v29, h1) (v13, h0, h2)) (fun y s => onO Q (bkE 1 n_Div_L0_dec y s)) = (n_Div_L0_T n_step n_step_s v6 v9 v18 v22 v29 h1 v13 h0 h2).prop (onT (v6, v9, v18, v22, v29, h1) Q) := by kernel_rfl
set_option maxRecDepth 100000 in
theorem n_Div_L0_ls {F : Nat → Prop} {B : Nat} {w0 : World} {s : St} {k : X → St → Prop} (hk : (lsE 1 n_Div_L0_dec n_Div_L0_I n_Div_L0_ok n_Div_L0_v) s k) : EW Try.prog (mkC ([(157, (.w (aliasW (aOne (cInts .u32)) (fun x => n_trim_s x) fun x => (o1 (cInts .u32)).enc (n_trim x)))), (53, .s (sumOf (aCons (cInts .u32) (aOne (cInts .u32))) (fun x => n_Cmp_s x.1 x.2) fun x => (o1 (cInt .i64)).enc (n_Cmp x.1 x.2))), (158, .s (sumOf (aOne (cInts .u32)) (fun x => s_Clone_s x) fun x => (o1 (cInts .u32)).enc (s_Clone x))), (159, .s (sumOf (aCons (cInts .u32) (aOne (cInt .u32))) (fun x => n_short_s x.1 x.2) fun x => (o2 (cInts .u32) (cInts .u32)).enc (n_short x.1 x.2))), (160, .s (sumT (aOne (cInt .u32)) fun x => (o1 (cInt .i64)).enc (bits_LZ32 x))), (161, (.w (ownW .u32 148 (aCons (cInts .u32) (aCons (cInt .i64) (aOne (cInt .i64)))) (fun x => n_shifted_s x.1 x.2.1 x.2.2) fun x => n_shifted x.1 x.2.1 x.2.2))), (162, (.w (lentW .u32 148 (aOne (cInts .u32)) (fun xs lo n x => n_step_s xs lo n x) (fun xs lo n x => (o1 (cInt .u32)).enc (n_step xs lo n x).1) (fun xs lo n x => (n_step xs lo n x).2)))), (59, .s (sumOf (aCons (cInts .u32) (aOne (cInt .i64))) (fun x => n_Shr_s x.1 x.2) fun x => (o1 (cInts .u32)).enc (n_Shr x.1 x.2)))]) F) B w0 (.loop (lp Try.f57 0)) s k :=
  lsE_ok (fun _ _ _ h => weak_of n_Div_L0_ot (.inl rfl) h) (step := n_Div_L0_step) (fun p x Q h => evC_spec mixed (mkC_ok (AllGood.consW n_trim_ok (AllGood.cons n_Cmp_ok (AllGood.cons s_Clone_ok (AllGood.cons n_short_ok (AllGood.cons bits_LZ32_ok (AllGood.consW n_shifted_ok (AllGood.consW n_step_ok (AllGood.cons n_Shr_ok AllGood.nil)))))))) F) (L := noL) (u := 60) _ (loops_nil (by kernel_rfl)) _ _ (Eq.mpr (n_Div_L0_ev F n_trim n_trim_s n_Cmp n_Cmp_s s_Clone s_Clone_s n_short n_short_s bits_LZ32 n_shifted n_shifted_s n_step n_step_s n_Shr n_Shr_s p.1 p.2.1 p.2.2.1 p.2.2.2.1 p.2.2.2.2.1 p.2.2.2.2.2 x.1 x.2.1 x.2.2 Q) h)) (fun _ _ h => run_ok h) hk
theorem n_Div_ev (F : Nat → Prop) (n_trim : (List Int) → (List Int)) (n_trim_s : (List Int) → Bool) (n_Cmp : (List Int) → (List Int) → Int) (n_Cmp_s : (List Int) → (List Int) → Bool) (s_Clone : List Int → List Int) (s_Clone_s : List Int → Bool) (n_short : List Int → Int → List Int × List Int) (n_short_s : List Int → Int → Bool) (bits_LZ32 : Int → Int) (n_shifted : (List Int) → Int → Int → List Int) (n_shifted_s : (List Int) → Int → Int → Bool) (n_step : List Int → Nat → Nat → (List Int) → (Int) × List Int) (n_step_s : List Int → Nat → Nat → (List Int) → Bool) (n_Shr : (List Int) → Int → (List Int)) (n_Shr_s : (List Int) → Int → Bool) (n_Div_L0_ok : (Int × Int × Bool × Bool × Bool × (List Int)) → (Int × (List Int) × (List Int)) → Bool) (n_Div_L0_v : (Int × Int × Bool × Bool × Bool × (List Int)) → (Int × (List Int) × (List Int)) → Int × (List Int) × (List Int)) (a : List Int) (b : List Int) (Q : AV → Prop) : evF Try.prog (mkC ([(157, (.w (aliasW (aOne (cInts .u32)) (fun x => n_trim_s x) fun x => (o1 (cInts .u32)).enc (n_trim x)))), (53, .s (sumOf (aCons (cInts .u32) (aOne (cInts .u32))) (fun x => n_Cmp_s x.1 x.2) fun x => (o1 (cInt .i64)).enc (n_Cmp x.1 x.2))), (158, .s (sumOf (aOne (cInts .u32)) (fun x => s_Clone_s x) fun x => (o1 (cInts .u32)).enc (s_Clone x))), (159, .s (sumOf (aCons (cInts .u32) (aOne (cInt .u32))) (fun x => n_short_s x.1 x.2) fun x => (o2 (cInts .u32) (cInts .u32)).enc (n_short x.1 x.2))), (160, .s (sumT (aOne (cInt .u32)) fun x => (o1 (cInt .i64)).enc (bits_LZ32 x))), (161, (.w (ownW .u32 148 (aCons (cInts .u32) (aCons (cInt .i64) (aOne (cInt .i64)))) (fun x => n_shifted_s x.1 x.2.1 x.2.2) fun x => n_shifted x.1 x.2.1 x.2.2))), (162, (.w (lentW .u32 148 (aOne (cInts .u32)) (fun xs lo n x => n_step_s xs lo n x) (fun xs lo n x => (o1 (cInt .u32)).enc (n_step xs lo n x).1) (fun xs lo n x => (n_step xs lo n x).2)))), (59, .s (sumOf (aCons (cInts .u32) (aOne (cInt .i64))) (fun x => n_Shr_s x.1 x.2) fun x => (o1 (cInts .u32)).enc (n_Shr x.1 x.2)))]) F) (fun id => cond (Nat.beq 14 id) (some (lsE 1 n_Div_L0_dec n_Div_L0_I n_Div_L0_ok n_Div_L0_v)) (none) : Loops) 60 Try.f57 ((aCons (cInts .u32) (aOne (cInts .u32))).enc false (a, b)) Q = (n_Div_T n_trim n_trim_s n_Cmp n_Cmp_s s_Clone s_Clone_s n_short n_short_s bits_LZ32 n_shifted n_shifted_s n_Shr n_Shr_s n_Div_L0_ok n_Div_L0_v a b).prop (fun x => Q ((o3 (cInts .u32) (cInts .u32) (cInt .i64)).enc x)) := by kernel_rfl
theorem n_Div_c (x : (List Int) × (List Int)) (hs : n_Div_s x.1 x.2 = true) (w : World) (vs : Array Value) (hp : ArgsR ((aCons (cInts .u32) (aOne (cInts .u32))).enc false x) w vs) : Calls Try.prog 57 vs w (Ans ((o3 (cInts .u32) (cInts .u32) (cInt .i64)).enc (n_Div x.1 x.2)) w) :=
  contractT mixed (AllGood.consW n_trim_ok (AllGood.cons n_Cmp_ok (AllGood.cons s_Clone_ok (AllGood.cons n_short_ok (AllGood.cons bits_LZ32_ok (AllGood.consW n_shifted_ok (AllGood.consW n_step_ok (AllGood.cons n_Shr_ok AllGood.nil)))))))) Try.func57 (fun _ _ _ => loops_all (m := 1) (by kernel_rfl) (fun i hi => match i, hi with
    | 0, _ => (fun g hg s k hk => n_Div_L0_ls (cast (congrFun (congrFun (Option.some.inj (hg.symm.trans (by kernel_rfl))) s) k) hk))
    | (j + 1), hi => absurd hi (by omega))) hs (fun F => n_Div_ev F n_trim n_trim_s n_Cmp n_Cmp_s s_Clone s_Clone_s n_short n_short_s bits_LZ32 n_shifted n_shifted_s n_step n_step_s n_Shr n_Shr_s n_Div_L0_ok n_Div_L0_v x.1 x.2) w vs hp
theorem n_Div_ok : GoodF Try.prog 57 (sumOf (aCons (cInts .u32) (aOne (cInts .u32))) (fun x => n_Div_s x.1 x.2) fun x => (o3 (cInts .u32) (cInts .u32) (cInt .i64)).enc (n_Div x.1 x.2)) :=
  good_sum (callable_of Try.func57 (by kernel_rfl) (by kernel_rfl)) n_Div_c
def n_Gcd_L0_tm : Tm :=
  Tm.mk
    [some (false, [Sh.veci true IntKind.u32]), some (false, [Sh.veci true IntKind.u32]), none, none,
      some (false, [Sh.nil]), none, none, none, none, none, none, none, none, none, none, none, none, none, none, none,
      none, none, none, none, none, none, none]
    [] false
def n_Gcd_L0_of : List Pv → Option ((Unit) × ((List Int) × (List Int)))
  | [.il v0, .il v1] => some ((), (v0, v1))
  | _ => none
def n_Gcd_L0_to (_p : Unit) (x : (List Int) × (List Int)) : List Pv := [.il x.1, .il x.2]
theorem n_Gcd_L0_ot (l : List Pv) (p : Unit) (x : (List Int) × (List Int)) (h : n_Gcd_L0_of l = some (p, x)) : n_Gcd_L0_to p x = l := by
  unfold n_Gcd_L0_of at h
  split at h
  · cases h; rfl
  · cases h
def n_Gcd_L0_dec (s : St) : Option ((Unit) × ((List Int) × (List Int))) := (n_Gcd_L0_tm.dec s).bind n_Gcd_L0_of
def n_Gcd_L0_I (p : Unit) (x : (List Int) × (List Int)) : St := n_Gcd_L0_tm.enc (n_Gcd_L0_to p x)
theorem n_Gcd_L0_ev (F : Nat → Prop) (n_trim : (List Int) → (List Int)) (n_trim_s : (List Int) → Bool) (s_Clone : List Int → List Int) (s_Clone_s : List Int → Bool) (n_Div : (List Int) → (List Int) → (List Int) × (List Int) × Int) (n_Div_s : (List Int) → (List Int) → Bool) (v0 : List Int) (v1 : List Int) (Q : ((Unit) × ((List Int) × (List Int))) ⊕ ((Unit) × ((List Int) × (List Int))) → Prop) : evC Try.prog (mkC ([(157, (.w (aliasW (aOne (cInts .u32)) (fun x => n_trim_s x) fun x => (o1 (cInts .u32)).enc (n_trim x)))), (158, .s (sumOf (aOne (cInts .u32)) (fun x => s_Clone_s x) fun x => (o1 (cInts .u32)).enc (s_Clone x))), (57, .s (sumOf (aCons (cInts .u32) (aOne (cInts .u32))) (fun x => n_Div_s x.1 x.2) fun x => (o3 (cInts .u32) (cInts .u32) (cInt .i64)).enc (n_Div x.1 x.2)))]) F) noL 60 (lp Try.f55 0) (n_Gcd_L0_I () (v0, v1)) (fun y s => onO Q (bkE 0 n_Gcd_L0_dec y s)) = (n_Gcd_L0_T n_Div n_Div_s v0 v1).prop (onT () Q) := by kernel_rfl
set_option maxRecDepth 100000 in
theorem n_Gcd_L0_ls {F : Nat → Prop} {B : Nat} {w0 : World} {s : St} {k : X → St → Prop} (hk : (lsE 0 n_Gcd_L0_dec n_Gcd_L0_I n_Gcd_L0_ok n_Gcd_L0_v) s k) : EW Try.prog (mkC ([(157, (.w (aliasW (aOne (cInts .u32)) (fun x => n_trim_s x) fun x => (o1 (cInts .u32)).enc (n_trim x)))), (158, .s (sumOf (aOne (cInts .u32)) (fun x => s_Clone_s x) fun x => (o1 (cInts .u32)).enc (s_Clone x))), (57, .s (sumOf (aCons (cInts .u32) (aOne (cInts .u32))) (fun x => n_Div_s x.1 x.2) fun x => (o3 (cInts .u32) (cInts .u32) (cInt .i64)).enc (n_Div x.1 x.2)))]) F) B w0 (.loop (lp Try.f55 0)) s k :=
  lsE_ok (fun _ _ _ h => weak_of n_Gcd_L0_ot (.inl rfl) h) (step := n_Gcd_L0_step) (fun p x Q h => evC_spec mixed (mkC_ok (AllGood.consW n_trim_ok (AllGood.cons s_Clone_ok (AllGood.cons n_Div_ok AllGood.nil))) F) (L := noL) (u := 60) _ (loops_nil (by kernel_rfl)) _ _ (Eq.mpr (n_Gcd_L0_ev F n_trim n_trim_s s_Clone s_Clone_s n_Div n_Div_s x.1 x.2 Q) h)) (fun _ _ h => run_ok h) hk
theorem n_Gcd_ev (F : Nat → Prop) (n_trim : (List Int) → (List Int)) (n_trim_s : (List Int) → Bool) (s_Clone : List Int → List Int) (s_Clone_s : List Int → Bool) (n_Div : (List Int) → (List Int) → (List Int) × (List Int) × Int) (n_Div_s : (List Int) → (List Int) → Bool) (n_Gcd_L0_ok : Unit → ((List Int) × (List Int)) → Bool) (n_Gcd_L0_v : Unit → ((List Int) × (List Int)) → (List Int) × (List Int)) (a : List Int) (b : List Int) (Q : AV → Prop) : evF Try.prog (mkC ([(157, (.w (aliasW (aOne (cInts .u32)) (fun x => n_trim_s x) fun x => (o1 (cInts .u32)).enc (n_trim x)))), (158, .s (sumOf (aOne (cInts .u32)) (fun x => s_Clone_s x) fun x => (o1 (cInts .u32)).enc (s_Clone x))), (57, .s (sumOf (aCons (cInts .u32) (aOne (cInts .u32))) (fun x => n_Div_s x.1 x.2) fun x => (o3 (cInts .u32) (cInts .u32) (cInt .i64)).enc (n_Div x.1 x.2)))]) F) (fun id => cond (Nat.beq 2 id) (some (lsE 0 n_Gcd_L0_dec n_Gcd_L0_I n_Gcd_L0_ok n_Gcd_L0_v)) (none) : Loops) 60 Try.f55 ((aCons (cInts .u32) (aOne (cInts .u32))).enc false (a, b)) Q = (n_Gcd_T n_trim n_trim_s s_Clone s_Clone_s n_Gcd_L0_ok n_Gcd_L0_v a b).prop (fun x => Q ((o1 (cInts .u32)).enc x)) := by kernel_rfl
theorem n_Gcd_c (x : (List Int) × (List Int)) (hs : n_Gcd_s x.1 x.2 = true) (w : World) (vs : Array Value) (hp : ArgsR ((aCons (cInts .u32) (aOne (cInts .u32))).enc false x) w vs) : Calls Try.prog 55 vs w (Ans ((o1 (cInts .u32)).enc (n_Gcd x.1 x.2)) w) :=
  contractT mixed (AllGood.consW n_trim_ok (AllGood.cons s_Clone_ok (AllGood.cons n_Div_ok AllGood.nil))) Try.func55 (fun _ _ _ => loops_all (m := 1) (by kernel_rfl) (fun i hi => match i, hi with
    | 0, _ => (fun g hg s k hk => n_Gcd_L0_ls (cast (congrFun (congrFun (Option.some.inj (hg.symm.trans (by kernel_rfl))) s) k) hk))
    | (j + 1), hi => absurd hi (by omega))) hs (fun F => n_Gcd_ev F n_trim n_trim_s s_Clone s_Clone_s n_Div n_Div_s n_Gcd_L0_ok n_Gcd_L0_v x.1 x.2) w vs hp
theorem n_Gcd_ok : GoodF Try.prog 55 (sumOf (aCons (cInts .u32) (aOne (cInts .u32))) (fun x => n_Gcd_s x.1 x.2) fun x => (o1 (cInts .u32)).enc (n_Gcd x.1 x.2)) :=
  good_sum (callable_of Try.func55 (by kernel_rfl) (by kernel_rfl)) n_Gcd_c
def r2_Bits_L1_tm : Tm :=
  Tm.mk
    [some (false, [Sh.veci false IntKind.u32]), none, some (false, [Sh.nil]), some (false, [Sh.own 0]),
      some (false, [Sh.int IntKind.i64]), some (false, [Sh.int IntKind.i64]), some (false, [Sh.int IntKind.i64]),
      some (false, [Sh.veci false IntKind.u32]), some (false, [Sh.int IntKind.i64]), some (false, [Sh.bool]), none, none,
      none, none, none, none, none, none, none, none, none, none, none, none, none, none, none, none, none, none, none,
      none]
    [Hs.growb 4] false
def r2_Bits_L1_of : List Pv → Option (((List Int) × Int × Int × (List Int) × Int × Bool) × (Int × (List Bool)))
  | [.il v0, .i v4, .i v5, .i v6, .il v7, .i v8, .b v9, .bl h0] => some ((v0, v4, v6, v7, v8, v9), (v5, h0))
  | _ => none
def r2_Bits_L1_to (p : (List Int) × Int × Int × (List Int) × Int × Bool) (x : Int × (List Bool)) : List Pv := [.il p.1, .i p.2.1, .i x.1, .i p.2.2.1, .il p.2.2.2.1, .i p.2.2.2.2.1, .b p.2.2.2.2.2, .bl x.2]
theorem r2_Bits_L1_ot (l : List Pv) (p : (List Int) × Int × Int × (List Int) × Int × Bool) (x : Int × (List Bool)) (h : r2_Bits_L1_of l = some (p, x)) : r2_Bits_L1_to p x = l := by
  unfold r2_Bits_L1_of at h
  split at h
  · cases h; rfl
  · cases h
def r2_Bits_L1_dec (s : St) : Option (((List Int) × Int × Int × (List Int) × Int × Bool) × (Int × (List Bool))) := (r2_Bits_L1_tm.dec s).bind r2_Bits_L1_of
def r2_Bits_L1_I (p : (List Int) × Int × Int × (List Int) × Int × Bool) (x : Int × (List Bool)) : St := r2_Bits_L1_tm.enc (r2_Bits_L1_to p x)
theorem r2_Bits_L1_ev (F : Nat → Prop) (r1_Len : (List Bool) → Int) (r1_Len_s : (List Bool) → Bool) (v0 : List Int) (v4 : Int) (v6 : Int) (v7 : List Int) (v8 : Int) (v9 : Bool) (v5 : Int) (h0 : List Bool) (Q : (((List Int) × Int × Int × (List Int) × Int × Bool) × (Int × (List Bool))) ⊕ (((List Int) × Int × Int × (List Int) × Int × Bool) × (Int × (List Bool))) → Prop) : evC Try.prog (mkC ([(73, .s (sumOf (aOne (cBools)) (fun x => r1_Len_s x) fun x => (o1 (cInt .i64)).enc (r1_Len x)))]) F) noL 60 (lp Try.f45 1) (r2_Bits_L1_I (v0, v4, v6, v7, v8, v9) (v5, h0)) (fun y s => onO Q (bkE 2 r2_Bits_L1_dec y s)) = (r2_Bits_L1_T  v0 v4 v6 v7 v8 v9 v5 h0).prop (onT (v0, v4, v6, v7, v8, v9) Q) := by kernel_rfl
set_option maxRecDepth 100000 in
theorem r2_Bits_L1_ls {F : Nat → Prop} {B : Nat} {w0 : World} {s : St} {k : X → St → Prop} (hk : (lsE 2 r2_Bits_L1_dec r2_Bits_L1_I r2_Bits_L1_ok r2_Bits_L1_v) s k) : EW Try.prog (mkC ([(73, .s (sumOf (aOne (cBools)) (fun x => r1_Len_s x) fun x => (o1 (cInt .i64)).enc (r1_Len x)))]) F) B w0 (.loop (lp Try.f45 1)) s k :=
  lsE_ok (fun _ _ _ h => weak_of r2_Bits_L1_ot (.inl rfl) h) (step := r2_Bits_L1_step) (fun p x Q h => evC_spec mixed (mkC_ok (AllGood.cons r1_Len_ok AllGood.nil) F) (L := noL) (u := 60) _ (loops_nil (by kernel_rfl)) _ _ (Eq.mpr (r2_Bits_L1_ev F r1_Len r1_Len_s p.1 p.2.1 p.2.2.1 p.2.2.2.1 p.2.2.2.2.1 p.2.2.2.2.2 x.1 x.2 Q) h)) (fun _ _ h => run_ok h) hk
def r2_Bits_L0_tm : Tm :=
  Tm.mk
    [some (false, [Sh.veci false IntKind.u32]), none, some (false, [Sh.nil]), some (false, [Sh.own 0]),
      some (false, [Sh.int IntKind.i64]), none, none, none, none, none, none, none, none, none, none, none, none, none,
      none, none, none, none, none, none, none, none, none, none, none, none, none, none]
    [Hs.growb 4] false
def r2_Bits_L0_of : List Pv → Option (((List Int)) × (Int × (List Bool)))
  | [.il v0, .i v4, .bl h0] => some (v0, (v4, h0))
  | _ => none
def r2_Bits_L0_to (p : (List Int)) (x : Int × (List Bool)) : List Pv := [.il p, .i x.1, .bl x.2]
theorem r2_Bits_L0_ot (l : List Pv) (p : (List Int)) (x : Int × (List Bool)) (h : r2_Bits_L0_of l = some (p, x)) : r2_Bits_L0_to p x = l := by
  unfold r2_Bits_L0_of at h
  split at h
  · cases h; rfl
  · cases h
def r2_Bits_L0_dec (s : St) : Option (((List Int)) × (Int × (List Bool))) := (r2_Bits_L0_tm.dec s).bind r2_Bits_L0_of
def r2_Bits_L0_I (p : (List Int)) (x : Int × (List Bool)) : St := r2_Bits_L0_tm.enc (r2_Bits_L0_to p x)
theorem r2_Bits_L0_ev (F : Nat → Prop) (r1_Len : (List Bool) → Int) (r1_Len_s : (List Bool) → Bool) (r2_Bits_L1_ok : ((List Int) × Int × Int × (List Int) × Int × Bool) → (Int × (List Bool)) → Bool) (r2_Bits_L1_v : ((List Int) × Int × Int × (List Int) × Int × Bool) → (Int × (List Bool)) → Int × (List Bool)) (v0 : List Int) (v4 : Int) (h0 : List Bool) (Q : (((List Int)) × (Int × (List Bool))) ⊕ (((List Int)) × (Int × (List Bool))) → Prop) : evC Try.prog (mkC ([(73, .s (sumOf (aOne (cBools)) (fun x => r1_Len_s x) fun x => (o1 (cInt .i64)).enc (r1_Len x)))]) F) (fun id => cond (Nat.beq 6 id) (some (lsE 2 r2_Bits_L1_dec r2_Bits_L1_I r2_Bits_L1_ok r2_Bits_L1_v)) (none) : Loops) 60 (lp Try.f45 0) (r2_Bits_L0_I v0 (v4, h0)) (fun y s => onO Q (bkE 0 r2_Bits_L0_dec y s)) = (r2_Bits_L0_T r2_Bits_L1_ok r2_Bits_L1_v v0 v4 h0).prop (onT v0 Q) := by kernel_rfl
set_option maxRecDepth 100000 in
theorem r2_Bits_L0_ls {F : Nat → Prop} {B : Nat} {w0 : World} {s : St} {k : X → St → Prop} (hk : (lsE 0 r2_Bits_L0_dec r2_Bits_L0_I r2_Bits_L0_ok r2_Bits_L0_v) s k) : EW Try.prog (mkC ([(73, .s (sumOf (aOne (cBools)) (fun x => r1_Len_s x) fun x => (o1 (cInt .i64)).enc (r1_Len x)))]) F) B w0 (.loop (lp Try.f45 0)) s k :=
  lsE_ok (fun _ _ _ h => weak_of r2_Bits_L0_ot (.inl rfl) h) (step := r2_Bits_L0_step) (fun p x Q h => evC_spec mixed (mkC_ok (AllGood.cons r1_Len_ok AllGood.nil) F) (L := (fun id => cond (Nat.beq 6 id) (some (lsE 2 r2_Bits_L1_dec r2_Bits_L1_I r2_Bits_L1_ok r2_Bits_L1_v)) (none) : Loops)) (u := 60) _ ((by kernel_rfl : [lp Try.f45 1] = loopsIn (lp Try.f45 0)) ▸ (loops_cons (fun g hg s k hk => r2_Bits_L1_ls (cast (congrFun (congrFun (Option.some.inj (hg.symm.trans (by kernel_rfl))) s) k) hk)) (fun _ h => nomatch h))) _ _ (Eq.mpr (r2_Bits_L0_ev F r1_Len r1_Len_s r2_Bits_L1_ok r2_Bits_L1_v p x.1 x.2 Q) h)) (fun _ _ h => run_ok h) hk
theorem r2_Bits_ev (F : Nat → Prop) (r1_Len : (List Bool) → Int) (r1_Len_s : (List Bool) → Bool) (r2_Bits_L1_ok : ((List Int) × Int × Int × (List Int) × Int × Bool) → (Int × (List Bool)) → Bool) (r2_Bits_L1_v : ((List Int) × Int × Int × (List Int) × Int × Bool) → (Int × (List Bool)) → Int × (List Bool)) (r2_Bits_L0_ok : ((List Int)) → (Int × (List Bool)) → Bool) (r2_Bits_L0_v : ((List Int)) → (Int × (List Bool)) → Int × (List Bool)) (a : List Int) (Q : AV → Prop) : evF Try.prog (mkC ([(73, .s (sumOf (aOne (cBools)) (fun x => r1_Len_s x) fun x => (o1 (cInt .i64)).enc (r1_Len x)))]) F) (fun id => cond (Nat.beq 3 id) (some (lsE 0 r2_Bits_L0_dec r2_Bits_L0_I r2_Bits_L0_ok r2_Bits_L0_v)) (cond (Nat.beq 6 id) (some (lsE 2 r2_Bits_L1_dec r2_Bits_L1_I r2_Bits_L1_ok r2_Bits_L1_v)) (none)) : Loops) 60 Try.f45 ((aOne (cInts .u32)).enc false a) Q = (r2_Bits_T r1_Len r1_Len_s r2_Bits_L0_ok r2_Bits_L0_v a).prop (fun x => Q ((o1 (cBools)).enc x)) := by kernel_rfl
theorem r2_Bits_c (x : (List Int)) (hs : r2_Bits_s x = true) (w : World) (vs : Array Value) (hp : ArgsR ((aOne (cInts .u32)).enc false x) w vs) : Calls Try.prog 45 vs w (Ans ((o1 (cBools)).enc (r2_Bits x)) w) :=
  contractT mixed (AllGood.cons r1_Len_ok AllGood.nil) Try.func45 (fun _ _ _ => loops_all (m := 2) (by kernel_rfl) (fun i hi => match i, hi with
    | 0, _ => (fun g hg s k hk => r2_Bits_L0_ls (cast (congrFun (congrFun (Option.some.inj (hg.symm.trans (by kernel_rfl))) s) k) hk))
    | 1, _ => (fun g hg s k hk => r2_Bits_L1_ls (cast (congrFun (congrFun (Option.some.inj (hg.symm.trans (by kernel_rfl))) s) k) hk))
    | (j + 2), hi => absurd hi (by omega))) hs (fun F => r2_Bits_ev F r1_Len r1_Len_s r2_Bits_L1_ok r2_Bits_L1_v r2_Bits_L0_ok r2_Bits_L0_v x) w vs hp
theorem r2_Bits_ok : GoodF Try.prog 45 (sumOf (aOne (cInts .u32)) (fun x => r2_Bits_s x) fun x => (o1 (cBools)).enc (r2_Bits x)) :=
  good_sum (callable_of Try.func45 (by kernel_rfl) (by kernel_rfl)) r2_Bits_c
def r2_Gcd_L0_tm : Tm :=
  Tm.mk
    [some (false, [Sh.vecb true]), some (false, [Sh.vecb true]), none, none, some (false, [Sh.nil]), none, none, none,
      none, none, none, none, none, none, none, none, none, none, none]
    [] false
def r2_Gcd_L0_of : List Pv → Option ((Unit) × ((List Bool) × (List Bool)))
  | [.bl v0, .bl v1] => some ((), (v0, v1))
  | _ => none
def r2_Gcd_L0_to (_p : Unit) (x : (List Bool) × (List Bool)) : List Pv := [.bl x.1, .bl x.2]
theorem r2_Gcd_L0_ot (l : List Pv) (p : Unit) (x : (List Bool) × (List Bool)) (h : r2_Gcd_L0_of l = some (p, x)) : r2_Gcd_L0_to p x = l := by
  unfold r2_Gcd_L0_of at h
  split at h
  · cases h; rfl
  · cases h
def r2_Gcd_L0_dec (s : St) : Option ((Unit) × ((List Bool) × (List Bool))) := (r2_Gcd_L0_tm.dec s).bind r2_Gcd_L0_of
def r2_Gcd_L0_I (p : Unit) (x : (List Bool) × (List Bool)) : St := r2_Gcd_L0_tm.enc (r2_Gcd_L0_to p x)
theorem r2_Gcd_L0_ev (F : Nat → Prop) (r1_Len : (List Bool) → Int) (r1_Len_s : (List Bool) → Bool) (r1_Div : (List Bool) → (List Bool) → (List Bool) × (List Bool)) (r1_Div_s : (List Bool) → (List Bool) → Bool) (v0 : List Bool) (v1 : List Bool) (Q : ((Unit) × ((List Bool) × (List Bool))) ⊕ ((Unit) × ((List Bool) × (List Bool))) → Prop) : evC Try.prog (mkC ([(73, .s (sumOf (aOne (cBools)) (fun x => r1_Len_s x) fun x => (o1 (cInt .i64)).enc (r1_Len x))), (58, .s (sumOf (aCons (cBools) (aOne (cBools))) (fun x => r1_Div_s x.1 x.2) fun x => (o2 (cBools) (cBools)).enc (r1_Div x.1 x.2)))]) F) noL 60 (lp Try.f56 0) (r2_Gcd_L0_I () (v0, v1)) (fun y s => onO Q (bkE 0 r2_Gcd_L0_dec y s)) = (r2_Gcd_L0_T r1_Len r1_Len_s r1_Div r1_Div_s v0 v1).prop (onT () Q) := by kernel_rfl
set_option maxRecDepth 100000 in
theorem r2_Gcd_L0_ls {F : Nat → Prop} {B : Nat} {w0 : World} {s : St} {k : X → St → Prop} (hk : (lsE 0 r2_Gcd_L0_dec r2_Gcd_L0_I r2_Gcd_L0_ok r2_Gcd_L0_v) s k) : EW Try.prog (mkC ([(73, .s (sumOf (aOne (cBools)) (fun x => r1_Len_s x) fun x => (o1 (cInt .i64)).enc (r1_Len x))), (58, .s (sumOf (aCons (cBools) (aOne (cBools))) (fun x => r1_Div_s x.1 x.2) fun x => (o2 (cBools) (cBools)).enc (r1_Div x.1 x.2)))]) F) B w0 (.loop (lp Try.f56 0)) s k :=
  lsE_ok (fun _ _ _ h => weak_of r2_Gcd_L0_ot (.inl rfl) h) (step := r2_Gcd_L0_step) (fun p x Q h => evC_spec mixed (mkC_ok (AllGood.cons r1_Len_ok (AllGood.cons r1_Div_ok AllGood.nil)) F) (L := noL) (u := 60) _ (loops_nil (by kernel_rfl)) _ _ (Eq.mpr (r2_Gcd_L0_ev F r1_Len r1_Len_s r1_Div r1_Div_s x.1 x.2 Q) h)) (fun _ _ h => run_ok h) hk
theorem r2_Gcd_ev (F : Nat → Prop) (r1_Len : (List Bool) → Int) (r1_Len_s : (List Bool) → Bool) (r1_Div : (List Bool) → (List Bool) → (List Bool) × (List Bool)) (r1_Div_s : (List Bool) → (List Bool) → Bool) (r2_Gcd_L0_ok : Unit → ((List Bool) × (List Bool)) → Bool) (r2_Gcd_L0_v : Unit → ((List Bool) × (List Bool)) → (List Bool) × (List Bool)) (a : List Bool) (b : List Bool) (Q : AV → Prop) : evF Try.prog (mkC ([(73, .s (sumOf (aOne (cBools)) (fun x => r1_Len_s x) fun x => (o1 (cInt .i64)).enc (r1_Len x))), (58, .s (sumOf (aCons (cBools) (aOne (cBools))) (fun x => r1_Div_s x.1 x.2) fun x => (o2 (cBools) (cBools)).enc (r1_Div x.1 x.2)))]) F) (fun id => cond (Nat.beq 1 id) (some (lsE 0 r2_Gcd_L0_dec r2_Gcd_L0_I r2_Gcd_L0_ok r2_Gcd_L0_v)) (none) : Loops) 60 Try.f56 ((aCons (cBools) (aOne (cBools))).enc true (a, b)) Q = (r2_Gcd_T r2_Gcd_L0_ok r2_Gcd_L0_v a b).prop (fun x => Q ((o1 (cBools)).enc x)) := by kernel_rfl
theorem r2_Gcd_c (x : (List Bool) × (List Bool)) (hs : r2_Gcd_s x.1 x.2 = true) (w : World) (F : Nat → Prop) (hF : ∀ n, w.heap.size ≤ n → F n) (vs : Array Value) (hp : ArgsF F ((aCons (cBools) (aOne (cBools))).enc true x) w vs) : Calls Try.prog 56 vs w (AnsF F ((o1 (cBools)).enc (r2_Gcd x.1 x.2)) w) :=
  contractA mixed (AllGood.cons r1_Len_ok (AllGood.cons r1_Div_ok AllGood.nil)) Try.func56 (fun _ _ _ => loops_all (m := 1) (by kernel_rfl) (fun i hi => match i, hi with
    | 0, _ => (fun g hg s k hk => r2_Gcd_L0_ls (cast (congrFun (congrFun (Option.some.inj (hg.symm.trans (by kernel_rfl))) s) k) hk))
    | (j + 1), hi => absurd hi (by omega))) hs (fun F => r2_Gcd_ev F r1_Len r1_Len_s r1_Div r1_Div_s r2_Gcd_L0_ok r2_Gcd_L0_v x.1 x.2) w F hF vs hp
theorem r2_Gcd_ok : GoodW Try.prog 56 (aliasW (aCons (cBools) (aOne (cBools))) (fun x => r2_Gcd_s x.1 x.2) fun x => (o1 (cBools)).enc (r2_Gcd x.1 x.2)) :=
  good_alias (callable_of Try.func56 (by kernel_rfl) (by kernel_rfl)) fun x hs w F hF vs hp => r2_Gcd_c x hs w F hF vs hp
end Go.Proofs.Ytggmmkdfgjnjfaa
