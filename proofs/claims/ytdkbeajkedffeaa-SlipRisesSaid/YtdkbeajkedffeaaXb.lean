/- Layer 2: contracts of the functions, part one. Conditions: as each theorem states. -/
import Derived.Test.YtdkbeajkedffeaaEd
import Derived.Test.YtdkbeajkedffeaaWd
import Derived.Test.YtdkbeajkedffeaaXa
import Derived.Test.YtdkbeajkedffeaaNd
import Derived.RangeFuncNested
import Derived.RangeFuncBound
import Derived.RangeFuncCalls
import Derived.RangeFuncLeaves
import Derived.Shelf.Abstract
import Derived.Shelf.RegionOpen
import Derived.WalkKit
import Derived.OwnWalkIn
import Derived.TacticsInMore
import Derived.LoopNIn
import Derived.LoopIn
namespace Go.Proofs.Ytdkbeajkedffeaa
open Go.Ev Go.Fb
theorem bits_Len32_ev (F : Nat → Prop)  (x : Int) (Q : AV → Prop) : evF Try.prog (mkC ([]) F) noL 60 Try.f133 ((aOne (cInt .u32)).enc false x) Q = (bits_Len32_T  x).prop (fun x => Q ((o1 (cInt .i64)).enc x)) := by kernel_rfl
theorem bits_Len32_safe (x : Int) : (bits_Len32_t x).safe = true := by
  have e : (len8.size : Int) = 256 := by kernel_rfl
  have h : ∀ n : Int, (decide (0 ≤ IntKind.u8.wrap n) && decide (IntKind.u8.wrap n < (len8.size : Int))) = true := fun n => by
    rw [e]
    simp only [IntKind.wrap, IntKind.bits, IntKind.signed, Bool.and_eq_true, decide_eq_true_eq]
    simp
    omega
  simp only [bits_Len32_t, bits_Len32_T, Tr.safe, h, Bool.true_and, Bool.cond_self]
theorem bits_Len32_c (x : Int) (w : World) (vs : Array Value) (hp : ArgsR ((aOne (cInt .u32)).enc false x) w vs) : Calls Try.prog 133 vs w (Ans ((o1 (cInt .i64)).enc (bits_Len32 x)) w) :=
  contractT mixed AllGood.nil Try.func133 (fun _ _ _ _ _ => noL_ok) (bits_Len32_safe x) (fun F => bits_Len32_ev F  x) w vs hp
theorem bits_Len32_ok : GoodF Try.prog 133 (sumT (aOne (cInt .u32)) fun x => (o1 (cInt .i64)).enc (bits_Len32 x)) :=
  good_sumT (callable_of Try.func133 (by kernel_rfl) (by kernel_rfl)) bits_Len32_c
theorem bits_LZ32_ev (F : Nat → Prop) (bits_Len32 : Int → Int) (x : Int) (Q : AV → Prop) : evF Try.prog (mkC ([(133, .s (sumT (aOne (cInt .u32)) fun x => (o1 (cInt .i64)).enc (bits_Len32 x)))]) F) noL 60 Try.f136 ((aOne (cInt .u32)).enc false x) Q = (bits_LZ32_T bits_Len32 x).prop (fun x => Q ((o1 (cInt .i64)).enc x)) := by kernel_rfl
theorem bits_LZ32_c (x : Int) (w : World) (vs : Array Value) (hp : ArgsR ((aOne (cInt .u32)).enc false x) w vs) : Calls Try.prog 136 vs w (Ans ((o1 (cInt .i64)).enc (bits_LZ32 x)) w) :=
  contractT mixed (AllGood.cons bits_Len32_ok AllGood.nil) Try.func136 (fun _ _ _ _ _ => noL_ok) (Tr.safe_of (t := bits_LZ32_t x) rfl) (fun F => bits_LZ32_ev F bits_Len32 x) w vs hp
theorem bits_LZ32_ok : GoodF Try.prog 136 (sumT (aOne (cInt .u32)) fun x => (o1 (cInt .i64)).enc (bits_LZ32 x)) :=
  good_sumT (callable_of Try.func136 (by kernel_rfl) (by kernel_rfl)) bits_LZ32_c
def n_trim_L0_tm : Tm :=
  Tm.mk
    [some (false, [Sh.veci true IntKind.u32]), none, some (false, [Sh.nil]), none, none, none, none, none, none, none,
      none, none, none, none, none, none, none, none, none, none, none]
    [] false
def n_trim_L0_of : List Pv → Option ((Unit) × ((List Int)))
  | [.il v0] => some ((), v0)
  | _ => none
def n_trim_L0_to (_p : Unit) (x : (List Int)) : List Pv := [.il x]
theorem n_trim_L0_ot (l : List Pv) (p : Unit) (x : (List Int)) (h : n_trim_L0_of l = some (p, x)) : n_trim_L0_to p x = l := by
  unfold n_trim_L0_of at h
  split at h
  · cases h; rfl
  · cases h
def n_trim_L0_dec (s : St) : Option ((Unit) × ((List Int))) := (n_trim_L0_tm.dec s).bind n_trim_L0_of
def n_trim_L0_I (p : Unit) (x : (List Int)) : St := n_trim_L0_tm.enc (n_trim_L0_to p x)
theorem n_trim_L0_ev (F : Nat → Prop)  (v0 : List Int) (Q : ((Unit) × ((List Int))) ⊕ ((Unit) × ((List Int))) → Prop) : evC Try.prog (mkC ([]) F) noL 60 (lp Try.f121 0) (n_trim_L0_I () v0) (fun y s => onO Q (bkE 0 n_trim_L0_dec y s)) = (n_trim_L0_T  v0).prop (onT () Q) := by kernel_rfl
set_option maxRecDepth 100000 in
theorem n_trim_L0_ls {F : Nat → Prop} {B : Nat} {w0 : World} {s : St} {k : X → St → Prop} (hk : (lsE 0 n_trim_L0_dec n_trim_L0_I n_trim_L0_ok n_trim_L0_v) s k) : EW Try.prog (mkC ([]) F) B w0 (.loop (lp Try.f121 0)) s k :=
  lsE_ok (fun _ _ _ h => weak_of n_trim_L0_ot (.inl rfl) h) (step := n_trim_L0_step) (fun p x Q h => evC_spec mixed (mkC_ok AllGood.nil F) (L := noL) (u := 60) _ (loops_nil (by kernel_rfl)) _ _ (Eq.mpr (n_trim_L0_ev F  x Q) h)) (fun _ _ h => run_ok h) hk
theorem n_trim_ev (F : Nat → Prop) (n_trim_L0_ok : Unit → ((List Int)) → Bool) (n_trim_L0_v : Unit → ((List Int)) → (List Int)) (a : List Int) (Q : AV → Prop) : evF Try.prog (mkC ([]) F) (fun id => cond (Nat.beq 1 id) (some (lsE 0 n_trim_L0_dec n_trim_L0_I n_trim_L0_ok n_trim_L0_v)) (none) : Loops) 60 Try.f121 ((aOne (cInts .u32)).enc true a) Q = (n_trim_T n_trim_L0_ok n_trim_L0_v a).prop (fun x => Q ((o1 (cInts .u32)).enc x)) := by kernel_rfl
theorem n_trim_c (x : (List Int)) (hs : n_trim_s x = true) (w : World) (F : Nat → Prop) (hF : ∀ n, w.heap.size ≤ n → F n) (vs : Array Value) (hp : ArgsF F ((aOne (cInts .u32)).enc true x) w vs) : Calls Try.prog 121 vs w (AnsF F ((o1 (cInts .u32)).enc (n_trim x)) w) :=
  contractA mixed AllGood.nil Try.func121 (fun _ _ _ => loops_all (m := 1) (by kernel_rfl) (fun i hi => match i, hi with
    | 0, _ => (fun g hg s k hk => n_trim_L0_ls (cast (congrFun (congrFun (Option.some.inj (hg.symm.trans (by kernel_rfl))) s) k) hk))
    | (j + 1), hi => absurd hi (by omega))) hs (fun F => n_trim_ev F n_trim_L0_ok n_trim_L0_v x) w F hF vs hp
theorem n_trim_ok : GoodW Try.prog 121 (aliasW (aOne (cInts .u32)) (fun x => n_trim_s x) fun x => (o1 (cInts .u32)).enc (n_trim x)) :=
  good_alias (callable_of Try.func121 (by kernel_rfl) (by kernel_rfl)) fun x hs w F hF vs hp => n_trim_c x hs w F hF vs hp
theorem n_New_ev (F : Nat → Prop) (n_trim : (List Int) → (List Int)) (n_trim_s : (List Int) → Bool) (x : Int) (Q : AV → Prop) : evF Try.prog (mkC ([(121, (.w (aliasW (aOne (cInts .u32)) (fun x => n_trim_s x) fun x => (o1 (cInts .u32)).enc (n_trim x))))]) F) noL 60 Try.f116 ((aOne (cInt .u64)).enc false x) Q = (n_New_T n_trim n_trim_s x).prop (fun x => Q ((o1 (cInts .u32)).enc x)) := by kernel_rfl
theorem n_New_c (x : Int) (hs : n_New_s x = true) (w : World) (vs : Array Value) (hp : ArgsR ((aOne (cInt .u64)).enc false x) w vs) : Calls Try.prog 116 vs w (Ans ((o1 (cInts .u32)).enc (n_New x)) w) :=
  contractT mixed (AllGood.consW n_trim_ok AllGood.nil) Try.func116 (fun _ _ _ _ _ => noL_ok) hs (fun F => n_New_ev F n_trim n_trim_s x) w vs hp
theorem n_New_ok : GoodF Try.prog 116 (sumOf (aOne (cInt .u64)) (fun x => n_New_s x) fun x => (o1 (cInts .u32)).enc (n_New x)) :=
  good_sum (callable_of Try.func116 (by kernel_rfl) (by kernel_rfl)) n_New_c
theorem n_at_ev (F : Nat → Prop)  (a : List Int) (i : Int) (Q : AV → Prop) : evF Try.prog (mkC ([]) F) noL 60 Try.f122 ((aCons (cInts .u32) (aOne (cInt .i64))).enc false (a, i)) Q = (n_at_T  a i).prop (fun x => Q ((o1 (cInt .u64)).enc x)) := by kernel_rfl
theorem n_at_c (x : (List Int) × Int) (hs : n_at_s x.1 x.2 = true) (w : World) (vs : Array Value) (hp : ArgsR ((aCons (cInts .u32) (aOne (cInt .i64))).enc false x) w vs) : Calls Try.prog 122 vs w (Ans ((o1 (cInt .u64)).enc (n_at x.1 x.2)) w) :=
  contractT mixed AllGood.nil Try.func122 (fun _ _ _ _ _ => noL_ok) hs (fun F => n_at_ev F  x.1 x.2) w vs hp
theorem n_at_ok : GoodF Try.prog 122 (sumOf (aCons (cInts .u32) (aOne (cInt .i64))) (fun x => n_at_s x.1 x.2) fun x => (o1 (cInt .u64)).enc (n_at x.1 x.2)) :=
  good_sum (callable_of Try.func122 (by kernel_rfl) (by kernel_rfl)) n_at_c
def n_Cmp_L0_tm : Tm :=
  Tm.mk
    [some (false, [Sh.veci false IntKind.u32]), some (false, [Sh.veci false IntKind.u32]), none, none,
      some (false, [Sh.int IntKind.i64]), some (false, [Sh.int IntKind.i64]), none, none, none, none, none, none, none,
      none, none, none, none, none, none, none, none, none, none, none, none, none, none, none, none, none]
    [] false
def n_Cmp_L0_of : List Pv → Option (((List Int) × (List Int) × Int) × (Int))
  | [.il v0, .il v1, .i v4, .i v5] => some ((v0, v1, v4), v5)
  | _ => none
def n_Cmp_L0_to (p : (List Int) × (List Int) × Int) (x : Int) : List Pv := [.il p.1, .il p.2.1, .i p.2.2, .i x]
theorem n_Cmp_L0_ot (l : List Pv) (p : (List Int) × (List Int) × Int) (x : Int) (h : n_Cmp_L0_of l = some (p, x)) : n_Cmp_L0_to p x = l := by
  unfold n_Cmp_L0_of at h
  split at h
  · cases h; rfl
  · cases h
def n_Cmp_L0_dec (s : St) : Option (((List Int) × (List Int) × Int) × (Int)) := (n_Cmp_L0_tm.dec s).bind n_Cmp_L0_of
def n_Cmp_L0_I (p : (List Int) × (List Int) × Int) (x : Int) : St := n_Cmp_L0_tm.enc (n_Cmp_L0_to p x)
def n_Cmp_L0_tmR : Tm :=
  Tm.mk
    [none, none, none, none, some (false, [Sh.int IntKind.i64]), none, none, none, none, none, none, none, none, none,
      none, none, none, none, none, none, none, none, none, none, none, none, none, none, none, none]
    [] false
def n_Cmp_L0_ofR : List Pv → Option (Int)
  | [.i v4] => some v4
  | _ => none
def n_Cmp_L0_toR (r : Int) : List Pv := [.i r]
theorem n_Cmp_L0_otR (l : List Pv) (r : Int) (h : n_Cmp_L0_ofR l = some r) : n_Cmp_L0_toR r = l := by
  unfold n_Cmp_L0_ofR at h
  split at h
  · cases h; rfl
  · cases h
def n_Cmp_L0_decR (s : St) : Option (Int) := (n_Cmp_L0_tmR.dec s).bind n_Cmp_L0_ofR
def n_Cmp_L0_R (r : Int) : St := n_Cmp_L0_tmR.enc (n_Cmp_L0_toR r)
theorem n_Cmp_L0_ev (F : Nat → Prop) (n_at : (List Int) → Int → Int) (n_at_s : (List Int) → Int → Bool) (v0 : List Int) (v1 : List Int) (v4 : Int) (v5 : Int) (Q : (((List Int) × (List Int) × Int) × (Int)) ⊕ ((((List Int) × (List Int) × Int) × (Int)) ⊕ (Int)) → Prop) : evC Try.prog (mkC ([(122, .s (sumOf (aCons (cInts .u32) (aOne (cInt .i64))) (fun x => n_at_s x.1 x.2) fun x => (o1 (cInt .u64)).enc (n_at x.1 x.2)))]) F) noL 60 (lp Try.f93 0) (n_Cmp_L0_I (v0, v1, v4) v5) (fun y s => onO Q (bkB 0 n_Cmp_L0_dec n_Cmp_L0_decR y s)) = (n_Cmp_L0_T n_at n_at_s v0 v1 v4 v5).prop (onB (v0, v1, v4) Q) := by kernel_rfl
set_option maxRecDepth 100000 in
theorem n_Cmp_L0_ls {F : Nat → Prop} {B : Nat} {w0 : World} {s : St} {k : X → St → Prop} (hk : (lsB 0 n_Cmp_L0_dec n_Cmp_L0_I n_Cmp_L0_R n_Cmp_L0_ok n_Cmp_L0_rt n_Cmp_L0_v n_Cmp_L0_rv) s k) : EW Try.prog (mkC ([(122, .s (sumOf (aCons (cInts .u32) (aOne (cInt .i64))) (fun x => n_at_s x.1 x.2) fun x => (o1 (cInt .u64)).enc (n_at x.1 x.2)))]) F) B w0 (.loop (lp Try.f93 0)) s k :=
  lsB_ok (fun _ _ _ h => weak_of n_Cmp_L0_ot (.inl rfl) h) (fun _ _ h => weak_ofR n_Cmp_L0_otR (.inl rfl) h) (step := n_Cmp_L0_step) (fun p x Q h => evC_spec mixed (mkC_ok (AllGood.cons n_at_ok AllGood.nil) F) (L := noL) (u := 60) _ (loops_nil (by kernel_rfl)) _ _ (Eq.mpr (n_Cmp_L0_ev F n_at n_at_s p.1 p.2.1 p.2.2 x Q) h)) (fun _ _ h => run_okB h) hk
theorem n_Cmp_ev (F : Nat → Prop) (n_at : (List Int) → Int → Int) (n_at_s : (List Int) → Int → Bool) (n_Cmp_L0_ok : ((List Int) × (List Int) × Int) → Int → Bool) (n_Cmp_L0_rt : ((List Int) × (List Int) × Int) → Int → Bool) (n_Cmp_L0_v : ((List Int) × (List Int) × Int) → Int → Int) (n_Cmp_L0_rv : ((List Int) × (List Int) × Int) → Int → Int) (a : List Int) (b : List Int) (Q : AV → Prop) : evF Try.prog (mkC ([(122, .s (sumOf (aCons (cInts .u32) (aOne (cInt .i64))) (fun x => n_at_s x.1 x.2) fun x => (o1 (cInt .u64)).enc (n_at x.1 x.2)))]) F) (fun id => cond (Nat.beq 2 id) (some (lsB 0 n_Cmp_L0_dec n_Cmp_L0_I n_Cmp_L0_R n_Cmp_L0_ok n_Cmp_L0_rt n_Cmp_L0_v n_Cmp_L0_rv)) (none) : Loops) 60 Try.f93 ((aCons (cInts .u32) (aOne (cInts .u32))).enc false (a, b)) Q = (n_Cmp_T n_Cmp_L0_ok n_Cmp_L0_rt n_Cmp_L0_rv a b).prop (fun x => Q ((o1 (cInt .i64)).enc x)) := by kernel_rfl
theorem n_Cmp_c (x : (List Int) × (List Int)) (hs : n_Cmp_s x.1 x.2 = true) (w : World) (vs : Array Value) (hp : ArgsR ((aCons (cInts .u32) (aOne (cInts .u32))).enc false x) w vs) : Calls Try.prog 93 vs w (Ans ((o1 (cInt .i64)).enc (n_Cmp x.1 x.2)) w) :=
  contractT mixed (AllGood.cons n_at_ok AllGood.nil) Try.func93 (fun _ _ _ => loops_all (m := 1) (by kernel_rfl) (fun i hi => match i, hi with
    | 0, _ => (fun g hg s k hk => n_Cmp_L0_ls (cast (congrFun (congrFun (Option.some.inj (hg.symm.trans (by kernel_rfl))) s) k) hk))
    | (j + 1), hi => absurd hi (by omega))) hs (fun F => n_Cmp_ev F n_at n_at_s n_Cmp_L0_ok n_Cmp_L0_rt n_Cmp_L0_v n_Cmp_L0_rv x.1 x.2) w vs hp
theorem n_Cmp_ok : GoodF Try.prog 93 (sumOf (aCons (cInts .u32) (aOne (cInts .u32))) (fun x => n_Cmp_s x.1 x.2) fun x => (o1 (cInt .i64)).enc (n_Cmp x.1 x.2)) :=
  good_sum (callable_of Try.func93 (by kernel_rfl) (by kernel_rfl)) n_Cmp_c
def n_Mul_L1_tm : Tm :=
  Tm.mk
    [none, some (false, [Sh.veci false IntKind.u32]), none, none, some (false, [Sh.nil]), some (false, [Sh.own 0]),
      some (false, [Sh.int IntKind.i64]), some (false, [Sh.int IntKind.u32]), some (false, [Sh.int IntKind.u64]), none,
      none, none, none, none, none, none, none, some (false, [Sh.veci false IntKind.u32]),
      some (false, [Sh.int IntKind.i64]), some (false, [Sh.int IntKind.i64]), some (false, [Sh.bool]),
      some (false, [Sh.int IntKind.i64]), none, some (false, [Sh.int IntKind.u32]),
      some (false, [Sh.veci false IntKind.u32]), some (false, [Sh.int IntKind.i64]), some (false, [Sh.int IntKind.i64]),
      none, none, none, none, none, none, none, none, none, none, none, none, none, none, none, none, none, none, none,
      none, none, none, none, none, none, none, none, none, none, none, none, none, none, none, none, none, none, none,
      none, none]
    [Hs.growi 118 IntKind.u32] false
def n_Mul_L1_of : List Pv → Option (((List Int) × Int × Int × (List Int) × Int × Int × Bool × Int × Int × (List Int) × Int) × (Int × Int × (List Int)))
  | [.il v1, .i v6, .i v7, .i v8, .il v17, .i v18, .i v19, .b v20, .i v21, .i v23, .il v24, .i v25, .i v26, .il h0] => some ((v1, v6, v7, v17, v18, v19, v20, v21, v23, v24, v25), (v8, v26, h0))
  | _ => none
def n_Mul_L1_to (p : (List Int) × Int × Int × (List Int) × Int × Int × Bool × Int × Int × (List Int) × Int) (x : Int × Int × (List Int)) : List Pv := [.il p.1, .i p.2.1, .i p.2.2.1, .i x.1, .il p.2.2.2.1, .i p.2.2.2.2.1, .i p.2.2.2.2.2.1, .b p.2.2.2.2.2.2.1, .i p.2.2.2.2.2.2.2.1, .i p.2.2.2.2.2.2.2.2.1, .il p.2.2.2.2.2.2.2.2.2.1, .i p.2.2.2.2.2.2.2.2.2.2, .i x.2.1, .il x.2.2]
theorem n_Mul_L1_ot (l : List Pv) (p : (List Int) × Int × Int × (List Int) × Int × Int × Bool × Int × Int × (List Int) × Int) (x : Int × Int × (List Int)) (h : n_Mul_L1_of l = some (p, x)) : n_Mul_L1_to p x = l := by
  unfold n_Mul_L1_of at h
  split at h
  · cases h; rfl
  · cases h
def n_Mul_L1_dec (s : St) : Option (((List Int) × Int × Int × (List Int) × Int × Int × Bool × Int × Int × (List Int) × Int) × (Int × Int × (List Int))) := (n_Mul_L1_tm.dec s).bind n_Mul_L1_of
def n_Mul_L1_I (p : (List Int) × Int × Int × (List Int) × Int × Int × Bool × Int × Int × (List Int) × Int) (x : Int × Int × (List Int)) : St := n_Mul_L1_tm.enc (n_Mul_L1_to p x)
theorem n_Mul_L1_ev (F : Nat → Prop) (n_trim : (List Int) → (List Int)) (n_trim_s : (List Int) → Bool) (v1 : List Int) (v6 : Int) (v7 : Int) (v17 : List Int) (v18 : Int) (v19 : Int) (v20 : Bool) (v21 : Int) (v23 : Int) (v24 : List Int) (v25 : Int) (v8 : Int) (v26 : Int) (h0 : List Int) (Q : (((List Int) × Int × Int × (List Int) × Int × Int × Bool × Int × Int × (List Int) × Int) × (Int × Int × (List Int))) ⊕ (((List Int) × Int × Int × (List Int) × Int × Int × Bool × Int × Int × (List Int) × Int) × (Int × Int × (List Int))) → Prop) : evC Try.prog (mkC ([(121, (.w (aliasW (aOne (cInts .u32)) (fun x => n_trim_s x) fun x => (o1 (cInts .u32)).enc (n_trim x))))]) F) noL 60 (lp Try.f92 1) (n_Mul_L1_I (v1, v6, v7, v17, v18, v19, v20, v21, v23, v24, v25) (v8, v26, h0)) (fun y s => onO Q (bkE 2 n_Mul_L1_dec y s)) = (n_Mul_L1_T  v1 v6 v7 v17 v18 v19 v20 v21 v23 v24 v25 v8 v26 h0).prop (onT (v1, v6, v7, v17, v18, v19, v20, v21, v23, v24, v25) Q) := by kernel_rfl
set_option maxRecDepth 100000 in
theorem n_Mul_L1_ls {F : Nat → Prop} {B : Nat} {w0 : World} {s : St} {k : X → St → Prop} (hk : (lsE 2 n_Mul_L1_dec n_Mul_L1_I n_Mul_L1_ok n_Mul_L1_v) s k) : EW Try.prog (mkC ([(121, (.w (aliasW (aOne (cInts .u32)) (fun x => n_trim_s x) fun x => (o1 (cInts .u32)).enc (n_trim x))))]) F) B w0 (.loop (lp Try.f92 1)) s k :=
  lsE_ok (fun _ _ _ h => weak_of n_Mul_L1_ot (.inl rfl) h) (step := n_Mul_L1_step) (fun p x Q h => evC_spec mixed (mkC_ok (AllGood.consW n_trim_ok AllGood.nil) F) (L := noL) (u := 60) _ (loops_nil (by kernel_rfl)) _ _ (Eq.mpr (n_Mul_L1_ev F n_trim n_trim_s p.1 p.2.1 p.2.2.1 p.2.2.2.1 p.2.2.2.2.1 p.2.2.2.2.2.1 p.2.2.2.2.2.2.1 p.2.2.2.2.2.2.2.1 p.2.2.2.2.2.2.2.2.1 p.2.2.2.2.2.2.2.2.2.1 p.2.2.2.2.2.2.2.2.2.2 x.1 x.2.1 x.2.2 Q) h)) (fun _ _ h => run_ok h) hk
def n_Mul_L0_tm : Tm :=
  Tm.mk
    [none, some (false, [Sh.veci false IntKind.u32]), none, none, some (false, [Sh.nil]), some (false, [Sh.own 0]), none,
      none, none, none, none, none, none, none, none, none, none, some (false, [Sh.veci false IntKind.u32]),
      some (false, [Sh.int IntKind.i64]), some (false, [Sh.int IntKind.i64]), none, none, none, none, none, none, none,
      none, none, none, none, none, none, none, none, none, none, none, none, none, none, none, none, none, none, none,
      none, none, none, none, none, none, none, none, none, none, none, none, none, none, none, none, none, none, none,
      none, none]
    [Hs.growi 118 IntKind.u32] false
def n_Mul_L0_of : List Pv → Option (((List Int) × (List Int) × Int) × (Int × (List Int)))
  | [.il v1, .il v17, .i v18, .i v19, .il h0] => some ((v1, v17, v18), (v19, h0))
  | _ => none
def n_Mul_L0_to (p : (List Int) × (List Int) × Int) (x : Int × (List Int)) : List Pv := [.il p.1, .il p.2.1, .i p.2.2, .i x.1, .il x.2]
theorem n_Mul_L0_ot (l : List Pv) (p : (List Int) × (List Int) × Int) (x : Int × (List Int)) (h : n_Mul_L0_of l = some (p, x)) : n_Mul_L0_to p x = l := by
  unfold n_Mul_L0_of at h
  split at h
  · cases h; rfl
  · cases h
def n_Mul_L0_dec (s : St) : Option (((List Int) × (List Int) × Int) × (Int × (List Int))) := (n_Mul_L0_tm.dec s).bind n_Mul_L0_of
def n_Mul_L0_I (p : (List Int) × (List Int) × Int) (x : Int × (List Int)) : St := n_Mul_L0_tm.enc (n_Mul_L0_to p x)
theorem n_Mul_L0_ev (F : Nat → Prop) (n_trim : (List Int) → (List Int)) (n_trim_s : (List Int) → Bool) (n_Mul_L1_ok : ((List Int) × Int × Int × (List Int) × Int × Int × Bool × Int × Int × (List Int) × Int) → (Int × Int × (List Int)) → Bool) (n_Mul_L1_v : ((List Int) × Int × Int × (List Int) × Int × Int × Bool × Int × Int × (List Int) × Int) → (Int × Int × (List Int)) → Int × Int × (List Int)) (v1 : List Int) (v17 : List Int) (v18 : Int) (v19 : Int) (h0 : List Int) (Q : (((List Int) × (List Int) × Int) × (Int × (List Int))) ⊕ (((List Int) × (List Int) × Int) × (Int × (List Int))) → Prop) : evC Try.prog (mkC ([(121, (.w (aliasW (aOne (cInts .u32)) (fun x => n_trim_s x) fun x => (o1 (cInts .u32)).enc (n_trim x))))]) F) (fun id => cond (Nat.beq 7 id) (some (lsE 2 n_Mul_L1_dec n_Mul_L1_I n_Mul_L1_ok n_Mul_L1_v)) (none) : Loops) 60 (lp Try.f92 0) (n_Mul_L0_I (v1, v17, v18) (v19, h0)) (fun y s => onO Q (bkE 0 n_Mul_L0_dec y s)) = (n_Mul_L0_T n_Mul_L1_ok n_Mul_L1_v v1 v17 v18 v19 h0).prop (onT (v1, v17, v18) Q) := by kernel_rfl
set_option maxRecDepth 100000 in
theorem n_Mul_L0_ls {F : Nat → Prop} {B : Nat} {w0 : World} {s : St} {k : X → St → Prop} (hk : (lsE 0 n_Mul_L0_dec n_Mul_L0_I n_Mul_L0_ok n_Mul_L0_v) s k) : EW Try.prog (mkC ([(121, (.w (aliasW (aOne (cInts .u32)) (fun x => n_trim_s x) fun x => (o1 (cInts .u32)).enc (n_trim x))))]) F) B w0 (.loop (lp Try.f92 0)) s k :=
  lsE_ok (fun _ _ _ h => weak_of n_Mul_L0_ot (.inl rfl) h) (step := n_Mul_L0_step) (fun p x Q h => evC_spec mixed (mkC_ok (AllGood.consW n_trim_ok AllGood.nil) F) (L := (fun id => cond (Nat.beq 7 id) (some (lsE 2 n_Mul_L1_dec n_Mul_L1_I n_Mul_L1_ok n_Mul_L1_v)) (none) : Loops)) (u := 60) _ ((by kernel_rfl : [lp Try.f92 1] = loopsIn (lp Try.f92 0)) ▸ (loops_cons (fun g hg s k hk => n_Mul_L1_ls (cast (congrFun (congrFun (Option.some.inj (hg.symm.trans (by kernel_rfl))) s) k) hk)) (fun _ h => nomatch h))) _ _ (Eq.mpr (n_Mul_L0_ev F n_trim n_trim_s n_Mul_L1_ok n_Mul_L1_v p.1 p.2.1 p.2.2 x.1 x.2 Q) h)) (fun _ _ h => run_ok h) hk
theorem n_Mul_ev (F : Nat → Prop) (n_trim : (List Int) → (List Int)) (n_trim_s : (List Int) → Bool) (n_Mul_L1_ok : ((List Int) × Int × Int × (List Int) × Int × Int × Bool × Int × Int × (List Int) × Int) → (Int × Int × (List Int)) → Bool) (n_Mul_L1_v : ((List Int) × Int × Int × (List Int) × Int × Int × Bool × Int × Int × (List Int) × Int) → (Int × Int × (List Int)) → Int × Int × (List Int)) (n_Mul_L0_ok : ((List Int) × (List Int) × Int) → (Int × (List Int)) → Bool) (n_Mul_L0_v : ((List Int) × (List Int) × Int) → (Int × (List Int)) → Int × (List Int)) (a : List Int) (b : List Int) (Q : AV → Prop) : evF Try.prog (mkC ([(121, (.w (aliasW (aOne (cInts .u32)) (fun x => n_trim_s x) fun x => (o1 (cInts .u32)).enc (n_trim x))))]) F) (fun id => cond (Nat.beq 3 id) (some (lsE 0 n_Mul_L0_dec n_Mul_L0_I n_Mul_L0_ok n_Mul_L0_v)) (cond (Nat.beq 7 id) (some (lsE 2 n_Mul_L1_dec n_Mul_L1_I n_Mul_L1_ok n_Mul_L1_v)) (none)) : Loops) 60 Try.f92 ((aCons (cInts .u32) (aOne (cInts .u32))).enc false (a, b)) Q = (n_Mul_T n_trim n_trim_s n_Mul_L0_ok n_Mul_L0_v a b).prop (fun x => Q ((o1 (cInts .u32)).enc x)) := by kernel_rfl
theorem n_Mul_c (x : (List Int) × (List Int)) (hs : n_Mul_s x.1 x.2 = true) (w : World) (vs : Array Value) (hp : ArgsR ((aCons (cInts .u32) (aOne (cInts .u32))).enc false x) w vs) : Calls Try.prog 92 vs w (Ans ((o1 (cInts .u32)).enc (n_Mul x.1 x.2)) w) :=
  contractT mixed (AllGood.consW n_trim_ok AllGood.nil) Try.func92 (fun _ _ _ => loops_all (m := 2) (by kernel_rfl) (fun i hi => match i, hi with
    | 0, _ => (fun g hg s k hk => n_Mul_L0_ls (cast (congrFun (congrFun (Option.some.inj (hg.symm.trans (by kernel_rfl))) s) k) hk))
    | 1, _ => (fun g hg s k hk => n_Mul_L1_ls (cast (congrFun (congrFun (Option.some.inj (hg.symm.trans (by kernel_rfl))) s) k) hk))
    | (j + 2), hi => absurd hi (by omega))) hs (fun F => n_Mul_ev F n_trim n_trim_s n_Mul_L1_ok n_Mul_L1_v n_Mul_L0_ok n_Mul_L0_v x.1 x.2) w vs hp
theorem n_Mul_ok : GoodF Try.prog 92 (sumOf (aCons (cInts .u32) (aOne (cInts .u32))) (fun x => n_Mul_s x.1 x.2) fun x => (o1 (cInts .u32)).enc (n_Mul x.1 x.2)) :=
  good_sum (callable_of Try.func92 (by kernel_rfl) (by kernel_rfl)) n_Mul_c
theorem n_Len_ev (F : Nat → Prop) (n_trim : (List Int) → (List Int)) (n_trim_s : (List Int) → Bool) (bits_Len32 : Int → Int) (a : List Int) (Q : AV → Prop) : evF Try.prog (mkC ([(121, (.w (aliasW (aOne (cInts .u32)) (fun x => n_trim_s x) fun x => (o1 (cInts .u32)).enc (n_trim x)))), (133, .s (sumT (aOne (cInt .u32)) fun x => (o1 (cInt .i64)).enc (bits_Len32 x)))]) F) noL 60 Try.f118 ((aOne (cInts .u32)).enc false a) Q = (n_Len_T n_trim n_trim_s bits_Len32 a).prop (fun x => Q ((o1 (cInt .i64)).enc x)) := by kernel_rfl
theorem n_Len_c (x : (List Int)) (hs : n_Len_s x = true) (w : World) (vs : Array Value) (hp : ArgsR ((aOne (cInts .u32)).enc false x) w vs) : Calls Try.prog 118 vs w (Ans ((o1 (cInt .i64)).enc (n_Len x)) w) :=
  contractT mixed (AllGood.consW n_trim_ok (AllGood.cons bits_Len32_ok AllGood.nil)) Try.func118 (fun _ _ _ _ _ => noL_ok) hs (fun F => n_Len_ev F n_trim n_trim_s bits_Len32 x) w vs hp
theorem n_Len_ok : GoodF Try.prog 118 (sumOf (aOne (cInts .u32)) (fun x => n_Len_s x) fun x => (o1 (cInt .i64)).enc (n_Len x)) :=
  good_sum (callable_of Try.func118 (by kernel_rfl) (by kernel_rfl)) n_Len_c
def n_Shl_L0_tm : Tm :=
  Tm.mk
    [none, some (false, [Sh.int IntKind.i64]), none, none, some (false, [Sh.nil]), some (false, [Sh.int IntKind.i64]),
      none, some (false, [Sh.own 0]), some (false, [Sh.int IntKind.u64]), none, none, none, none, none, none,
      some (false, [Sh.bool]), none, none, some (false, [Sh.bool]), none, none, none, none, none, none, none, none, none,
      none, none, none, none, some (false, [Sh.veci false IntKind.u32]), some (false, [Sh.int IntKind.i64]),
      some (false, [Sh.int IntKind.i64]), none, none, none, none, none, none, none, none, none, none, none, none, none,
      none, none, none, none, none, none, none, none, none, none, none]
    [Hs.growi 118 IntKind.u32] false
def n_Shl_L0_of : List Pv → Option ((Int × Int × Bool × Bool × (List Int) × Int) × (Int × Int × (List Int)))
  | [.i v1, .i v5, .i v8, .b v15, .b v18, .il v32, .i v33, .i v34, .il h0] => some ((v1, v5, v15, v18, v32, v33), (v8, v34, h0))
  | _ => none
def n_Shl_L0_to (p : Int × Int × Bool × Bool × (List Int) × Int) (x : Int × Int × (List Int)) : List Pv := [.i p.1, .i p.2.1, .i x.1, .b p.2.2.1, .b p.2.2.2.1, .il p.2.2.2.2.1, .i p.2.2.2.2.2, .i x.2.1, .il x.2.2]
theorem n_Shl_L0_ot (l : List Pv) (p : Int × Int × Bool × Bool × (List Int) × Int) (x : Int × Int × (List Int)) (h : n_Shl_L0_of l = some (p, x)) : n_Shl_L0_to p x = l := by
  unfold n_Shl_L0_of at h
  split at h
  · cases h; rfl
  · cases h
def n_Shl_L0_dec (s : St) : Option ((Int × Int × Bool × Bool × (List Int) × Int) × (Int × Int × (List Int))) := (n_Shl_L0_tm.dec s).bind n_Shl_L0_of
def n_Shl_L0_I (p : Int × Int × Bool × Bool × (List Int) × Int) (x : Int × Int × (List Int)) : St := n_Shl_L0_tm.enc (n_Shl_L0_to p x)
theorem n_Shl_L0_ev (F : Nat → Prop) (n_Len : (List Int) → Int) (n_Len_s : (List Int) → Bool) (n_trim : (List Int) → (List Int)) (n_trim_s : (List Int) → Bool) (v1 : Int) (v5 : Int) (v15 : Bool) (v18 : Bool) (v32 : List Int) (v33 : Int) (v8 : Int) (v34 : Int) (h0 : List Int) (Q : ((Int × Int × Bool × Bool × (List Int) × Int) × (Int × Int × (List Int))) ⊕ ((Int × Int × Bool × Bool × (List Int) × Int) × (Int × Int × (List Int))) → Prop) : evC Try.prog (mkC ([(118, .s (sumOf (aOne (cInts .u32)) (fun x => n_Len_s x) fun x => (o1 (cInt .i64)).enc (n_Len x))), (121, (.w (aliasW (aOne (cInts .u32)) (fun x => n_trim_s x) fun x => (o1 (cInts .u32)).enc (n_trim x))))]) F) noL 60 (lp Try.f117 0) (n_Shl_L0_I (v1, v5, v15, v18, v32, v33) (v8, v34, h0)) (fun y s => onO Q (bkE 1 n_Shl_L0_dec y s)) = (n_Shl_L0_T  v1 v5 v15 v18 v32 v33 v8 v34 h0).prop (onT (v1, v5, v15, v18, v32, v33) Q) := by kernel_rfl
set_option maxRecDepth 100000 in
theorem n_Shl_L0_ls {F : Nat → Prop} {B : Nat} {w0 : World} {s : St} {k : X → St → Prop} (hk : (lsE 1 n_Shl_L0_dec n_Shl_L0_I n_Shl_L0_ok n_Shl_L0_v) s k) : EW Try.prog (mkC ([(118, .s (sumOf (aOne (cInts .u32)) (fun x => n_Len_s x) fun x => (o1 (cInt .i64)).enc (n_Len x))), (121, (.w (aliasW (aOne (cInts .u32)) (fun x => n_trim_s x) fun x => (o1 (cInts .u32)).enc (n_trim x))))]) F) B w0 (.loop (lp Try.f117 0)) s k :=
  lsE_ok (fun _ _ _ h => weak_of n_Shl_L0_ot (.inl rfl) h) (step := n_Shl_L0_step) (fun p x Q h => evC_spec mixed (mkC_ok (AllGood.cons n_Len_ok (AllGood.consW n_trim_ok AllGood.nil)) F) (L := noL) (u := 60) _ (loops_nil (by kernel_rfl)) _ _ (Eq.mpr (n_Shl_L0_ev F n_Len n_Len_s n_trim n_trim_s p.1 p.2.1 p.2.2.1 p.2.2.2.1 p.2.2.2.2.1 p.2.2.2.2.2 x.1 x.2.1 x.2.2 Q) h)) (fun _ _ h => run_ok h) hk
theorem n_Shl_ev (F : Nat → Prop) (n_Len : (List Int) → Int) (n_Len_s : (List Int) → Bool) (n_trim : (List Int) → (List Int)) (n_trim_s : (List Int) → Bool) (n_Shl_L0_ok : (Int × Int × Bool × Bool × (List Int) × Int) → (Int × Int × (List Int)) → Bool) (n_Shl_L0_v : (Int × Int × Bool × Bool × (List Int) × Int) → (Int × Int × (List Int)) → Int × Int × (List Int)) (a : List Int) (n : Int) (Q : AV → Prop) : evF Try.prog (mkC ([(118, .s (sumOf (aOne (cInts .u32)) (fun x => n_Len_s x) fun x => (o1 (cInt .i64)).enc (n_Len x))), (121, (.w (aliasW (aOne (cInts .u32)) (fun x => n_trim_s x) fun x => (o1 (cInts .u32)).enc (n_trim x))))]) F) (fun id => cond (Nat.beq 10 id) (some (lsE 1 n_Shl_L0_dec n_Shl_L0_I n_Shl_L0_ok n_Shl_L0_v)) (none) : Loops) 60 Try.f117 ((aCons (cInts .u32) (aOne (cInt .i64))).enc false (a, n)) Q = (n_Shl_T n_Len n_Len_s n_trim n_trim_s n_Shl_L0_ok n_Shl_L0_v a n).prop (fun x => Q ((o2 (cInts .u32) (cInt .i64)).enc x)) := by kernel_rfl
theorem n_Shl_c (x : (List Int) × Int) (hs : n_Shl_s x.1 x.2 = true) (w : World) (vs : Array Value) (hp : ArgsR ((aCons (cInts .u32) (aOne (cInt .i64))).enc false x) w vs) : Calls Try.prog 117 vs w (Ans ((o2 (cInts .u32) (cInt .i64)).enc (n_Shl x.1 x.2)) w) :=
  contractT mixed (AllGood.cons n_Len_ok (AllGood.consW n_trim_ok AllGood.nil)) Try.func117 (fun _ _ _ => loops_all (m := 1) (by kernel_rfl) (fun i hi => match i, hi with
    | 0, _ => (fun g hg s k hk => n_Shl_L0_ls (cast (congrFun (congrFun (Option.some.inj (hg.symm.trans (by kernel_rfl))) s) k) hk))
    | (j + 1), hi => absurd hi (by omega))) hs (fun F => n_Shl_ev F n_Len n_Len_s n_trim n_trim_s n_Shl_L0_ok n_Shl_L0_v x.1 x.2) w vs hp
theorem n_Shl_ok : GoodF Try.prog 117 (sumOf (aCons (cInts .u32) (aOne (cInt .i64))) (fun x => n_Shl_s x.1 x.2) fun x => (o2 (cInts .u32) (cInt .i64)).enc (n_Shl x.1 x.2)) :=
  good_sum (callable_of Try.func117 (by kernel_rfl) (by kernel_rfl)) n_Shl_c
def n_Shr_L0_tm : Tm :=
  Tm.mk
    [none, some (false, [Sh.int IntKind.i64]), none, none, some (false, [Sh.nil]),
      some (false, [Sh.veci false IntKind.u32]), some (false, [Sh.own 0]), none, none, none, none, none, none, none,
      some (false, [Sh.bool]), none, none, none, none, none, some (false, [Sh.int IntKind.i64]),
      some (false, [Sh.int IntKind.i64]), none, none, none, none, none, none, none, none, none, none, none, none, none,
      none, none, none, none, none, none, none, none]
    [Hs.growi 118 IntKind.u32] false
def n_Shr_L0_of : List Pv → Option ((Int × (List Int) × Bool × Int) × (Int × (List Int)))
  | [.i v1, .il v5, .b v14, .i v20, .i v21, .il h0] => some ((v1, v5, v14, v20), (v21, h0))
  | _ => none
def n_Shr_L0_to (p : Int × (List Int) × Bool × Int) (x : Int × (List Int)) : List Pv := [.i p.1, .il p.2.1, .b p.2.2.1, .i p.2.2.2, .i x.1, .il x.2]
theorem n_Shr_L0_ot (l : List Pv) (p : Int × (List Int) × Bool × Int) (x : Int × (List Int)) (h : n_Shr_L0_of l = some (p, x)) : n_Shr_L0_to p x = l := by
  unfold n_Shr_L0_of at h
  split at h
  · cases h; rfl
  · cases h
def n_Shr_L0_dec (s : St) : Option ((Int × (List Int) × Bool × Int) × (Int × (List Int))) := (n_Shr_L0_tm.dec s).bind n_Shr_L0_of
def n_Shr_L0_I (p : Int × (List Int) × Bool × Int) (x : Int × (List Int)) : St := n_Shr_L0_tm.enc (n_Shr_L0_to p x)
theorem n_Shr_L0_ev (F : Nat → Prop) (n_at : (List Int) → Int → Int) (n_at_s : (List Int) → Int → Bool) (n_trim : (List Int) → (List Int)) (n_trim_s : (List Int) → Bool) (v1 : Int) (v5 : List Int) (v14 : Bool) (v20 : Int) (v21 : Int) (h0 : List Int) (Q : ((Int × (List Int) × Bool × Int) × (Int × (List Int))) ⊕ ((Int × (List Int) × Bool × Int) × (Int × (List Int))) → Prop) : evC Try.prog (mkC ([(122, .s (sumOf (aCons (cInts .u32) (aOne (cInt .i64))) (fun x => n_at_s x.1 x.2) fun x => (o1 (cInt .u64)).enc (n_at x.1 x.2))), (121, (.w (aliasW (aOne (cInts .u32)) (fun x => n_trim_s x) fun x => (o1 (cInts .u32)).enc (n_trim x))))]) F) noL 60 (lp Try.f139 0) (n_Shr_L0_I (v1, v5, v14, v20) (v21, h0)) (fun y s => onO Q (bkE 0 n_Shr_L0_dec y s)) = (n_Shr_L0_T n_at n_at_s v1 v5 v14 v20 v21 h0).prop (onT (v1, v5, v14, v20) Q) := by kernel_rfl
set_option maxRecDepth 100000 in
theorem n_Shr_L0_ls {F : Nat → Prop} {B : Nat} {w0 : World} {s : St} {k : X → St → Prop} (hk : (lsE 0 n_Shr_L0_dec n_Shr_L0_I n_Shr_L0_ok n_Shr_L0_v) s k) : EW Try.prog (mkC ([(122, .s (sumOf (aCons (cInts .u32) (aOne (cInt .i64))) (fun x => n_at_s x.1 x.2) fun x => (o1 (cInt .u64)).enc (n_at x.1 x.2))), (121, (.w (aliasW (aOne (cInts .u32)) (fun x => n_trim_s x) fun x => (o1 (cInts .u32)).enc (n_trim x))))]) F) B w0 (.loop (lp Try.f139 0)) s k :=
  lsE_ok (fun _ _ _ h => weak_of n_Shr_L0_ot (.inl rfl) h) (step := n_Shr_L0_step) (fun p x Q h => evC_spec mixed (mkC_ok (AllGood.cons n_at_ok (AllGood.consW n_trim_ok AllGood.nil)) F) (L := noL) (u := 60) _ (loops_nil (by kernel_rfl)) _ _ (Eq.mpr (n_Shr_L0_ev F n_at n_at_s n_trim n_trim_s p.1 p.2.1 p.2.2.1 p.2.2.2 x.1 x.2 Q) h)) (fun _ _ h => run_ok h) hk
theorem n_Shr_ev (F : Nat → Prop) (n_at : (List Int) → Int → Int) (n_at_s : (List Int) → Int → Bool) (n_trim : (List Int) → (List Int)) (n_trim_s : (List Int) → Bool) (n_Shr_L0_ok : (Int × (List Int) × Bool × Int) → (Int × (List Int)) → Bool) (n_Shr_L0_v : (Int × (List Int) × Bool × Int) → (Int × (List Int)) → Int × (List Int)) (a : List Int) (n : Int) (Q : AV → Prop) : evF Try.prog (mkC ([(122, .s (sumOf (aCons (cInts .u32) (aOne (cInt .i64))) (fun x => n_at_s x.1 x.2) fun x => (o1 (cInt .u64)).enc (n_at x.1 x.2))), (121, (.w (aliasW (aOne (cInts .u32)) (fun x => n_trim_s x) fun x => (o1 (cInts .u32)).enc (n_trim x))))]) F) (fun id => cond (Nat.beq 7 id) (some (lsE 0 n_Shr_L0_dec n_Shr_L0_I n_Shr_L0_ok n_Shr_L0_v)) (none) : Loops) 60 Try.f139 ((aCons (cInts .u32) (aOne (cInt .i64))).enc false (a, n)) Q = (n_Shr_T n_trim n_trim_s n_Shr_L0_ok n_Shr_L0_v a n).prop (fun x => Q ((o1 (cInts .u32)).enc x)) := by kernel_rfl
theorem n_Shr_c (x : (List Int) × Int) (hs : n_Shr_s x.1 x.2 = true) (w : World) (vs : Array Value) (hp : ArgsR ((aCons (cInts .u32) (aOne (cInt .i64))).enc false x) w vs) : Calls Try.prog 139 vs w (Ans ((o1 (cInts .u32)).enc (n_Shr x.1 x.2)) w) :=
  contractT mixed (AllGood.cons n_at_ok (AllGood.consW n_trim_ok AllGood.nil)) Try.func139 (fun _ _ _ => loops_all (m := 1) (by kernel_rfl) (fun i hi => match i, hi with
    | 0, _ => (fun g hg s k hk => n_Shr_L0_ls (cast (congrFun (congrFun (Option.some.inj (hg.symm.trans (by kernel_rfl))) s) k) hk))
    | (j + 1), hi => absurd hi (by omega))) hs (fun F => n_Shr_ev F n_at n_at_s n_trim n_trim_s n_Shr_L0_ok n_Shr_L0_v x.1 x.2) w vs hp
theorem n_Shr_ok : GoodF Try.prog 139 (sumOf (aCons (cInts .u32) (aOne (cInt .i64))) (fun x => n_Shr_s x.1 x.2) fun x => (o1 (cInts .u32)).enc (n_Shr x.1 x.2)) :=
  good_sum (callable_of Try.func139 (by kernel_rfl) (by kernel_rfl)) n_Shr_c
def n_shifted_L0_tm : Tm :=
  Tm.mk
    [some (false, [Sh.veci false IntKind.u32]), some (false, [Sh.int IntKind.i64]), none, none, none, none,
      some (false, [Sh.nil]), some (false, [Sh.own 0]), none, none, none, none, none, some (false, [Sh.int IntKind.i64]),
      some (false, [Sh.int IntKind.i64]), none, none, none, none, none, none, none, none, none, none, none, none, none,
      none, none, none, none, none, none, none, none, none, none, none, none]
    [Hs.growi 118 IntKind.u32] false
def n_shifted_L0_of : List Pv → Option (((List Int) × Int × Int) × (Int × (List Int)))
  | [.il v0, .i v1, .i v13, .i v14, .il h0] => some ((v0, v1, v13), (v14, h0))
  | _ => none
def n_shifted_L0_to (p : (List Int) × Int × Int) (x : Int × (List Int)) : List Pv := [.il p.1, .i p.2.1, .i p.2.2, .i x.1, .il x.2]
theorem n_shifted_L0_ot (l : List Pv) (p : (List Int) × Int × Int) (x : Int × (List Int)) (h : n_shifted_L0_of l = some (p, x)) : n_shifted_L0_to p x = l := by
  unfold n_shifted_L0_of at h
  split at h
  · cases h; rfl
  · cases h
def n_shifted_L0_dec (s : St) : Option (((List Int) × Int × Int) × (Int × (List Int))) := (n_shifted_L0_tm.dec s).bind n_shifted_L0_of
def n_shifted_L0_I (p : (List Int) × Int × Int) (x : Int × (List Int)) : St := n_shifted_L0_tm.enc (n_shifted_L0_to p x)
theorem n_shifted_L0_ev (F : Nat → Prop) (n_at : (List Int) → Int → Int) (n_at_s : (List Int) → Int → Bool) (v0 : List Int) (v1 : Int) (v13 : Int) (v14 : Int) (h0 : List Int) (Q : (((List Int) × Int × Int) × (Int × (List Int))) ⊕ (((List Int) × Int × Int) × (Int × (List Int))) → Prop) : evC Try.prog (mkC ([(122, .s (sumOf (aCons (cInts .u32) (aOne (cInt .i64))) (fun x => n_at_s x.1 x.2) fun x => (o1 (cInt .u64)).enc (n_at x.1 x.2)))]) F) noL 60 (lp Try.f137 0) (n_shifted_L0_I (v0, v1, v13) (v14, h0)) (fun y s => onO Q (bkE 0 n_shifted_L0_dec y s)) = (n_shifted_L0_T n_at n_at_s v0 v1 v13 v14 h0).prop (onT (v0, v1, v13) Q) := by kernel_rfl
set_option maxRecDepth 100000 in
theorem n_shifted_L0_ls {F : Nat → Prop} {B : Nat} {w0 : World} {s : St} {k : X → St → Prop} (hk : (lsE 0 n_shifted_L0_dec n_shifted_L0_I n_shifted_L0_ok n_shifted_L0_v) s k) : EW Try.prog (mkC ([(122, .s (sumOf (aCons (cInts .u32) (aOne (cInt .i64))) (fun x => n_at_s x.1 x.2) fun x => (o1 (cInt .u64)).enc (n_at x.1 x.2)))]) F) B w0 (.loop (lp Try.f137 0)) s k :=
  lsE_ok (fun _ _ _ h => weak_of n_shifted_L0_ot (.inl rfl) h) (step := n_shifted_L0_step) (fun p x Q h => evC_spec mixed (mkC_ok (AllGood.cons n_at_ok AllGood.nil) F) (L := noL) (u := 60) _ (loops_nil (by kernel_rfl)) _ _ (Eq.mpr (n_shifted_L0_ev F n_at n_at_s p.1 p.2.1 p.2.2 x.1 x.2 Q) h)) (fun _ _ h => run_ok h) hk
theorem n_shifted_ev (F : Nat → Prop) (n_at : (List Int) → Int → Int) (n_at_s : (List Int) → Int → Bool) (n_shifted_L0_ok : ((List Int) × Int × Int) → (Int × (List Int)) → Bool) (n_shifted_L0_v : ((List Int) × Int × Int) → (Int × (List Int)) → Int × (List Int)) (a : List Int) (n : Int) (size : Int) (Q : List Int → Prop) : evFO Try.prog (mkC ([(122, .s (sumOf (aCons (cInts .u32) (aOne (cInt .i64))) (fun x => n_at_s x.1 x.2) fun x => (o1 (cInt .u64)).enc (n_at x.1 x.2)))]) F) (fun id => cond (Nat.beq 3 id) (some (lsE 0 n_shifted_L0_dec n_shifted_L0_I n_shifted_L0_ok n_shifted_L0_v)) (none) : Loops) 60 Try.f137 ((aCons (cInts .u32) (aCons (cInt .i64) (aOne (cInt .i64)))).enc false (a, n, size)) .u32 118 Q = (n_shifted_T n_shifted_L0_ok n_shifted_L0_v a n size).prop (fun x => Q x) := by kernel_rfl
theorem n_shifted_c (x : (List Int) × Int × Int) (hs : n_shifted_s x.1 x.2.1 x.2.2 = true) (w : World) (vs : Array Value) (hp : ArgsR ((aCons (cInts .u32) (aCons (cInt .i64) (aOne (cInt .i64)))).enc false x) w vs) : Calls Try.prog 137 vs w (OwnR .u32 118 (n_shifted x.1 x.2.1 x.2.2) w) :=
  contractO mixed (AllGood.cons n_at_ok AllGood.nil) Try.func137 (fun _ _ _ => loops_all (m := 1) (by kernel_rfl) (fun i hi => match i, hi with
    | 0, _ => (fun g hg s k hk => n_shifted_L0_ls (cast (congrFun (congrFun (Option.some.inj (hg.symm.trans (by kernel_rfl))) s) k) hk))
    | (j + 1), hi => absurd hi (by omega))) hs (fun F => n_shifted_ev F n_at n_at_s n_shifted_L0_ok n_shifted_L0_v x.1 x.2.1 x.2.2) w vs hp
theorem n_shifted_ok : GoodW Try.prog 137 (ownW .u32 118 (aCons (cInts .u32) (aCons (cInt .i64) (aOne (cInt .i64)))) (fun x => n_shifted_s x.1 x.2.1 x.2.2) fun x => n_shifted x.1 x.2.1 x.2.2) :=
  good_own (callable_of Try.func137 (by kernel_rfl) (by kernel_rfl)) fun x hs w vs hp => n_shifted_c x hs w vs hp
def n_step_L0_tm : Tm :=
  Tm.mk
    [some (false, [Sh.sub 0 1]), some (false, [Sh.veci false IntKind.u32]), none, none,
      some (false, [Sh.int IntKind.u32]), some (false, [Sh.int IntKind.i64]), none, some (false, [Sh.int IntKind.u64]),
      some (false, [Sh.int IntKind.u64]), some (false, [Sh.int IntKind.u64]), none, none, none, none, none, none, none,
      none, none, none, none, none, none, none, none, none, none, none, none, none, none, none, none, none, none, none,
      none, none, none, none, none, none, none, none, none, none, none, none, none, none, none, none, none, none, none,
      none, none, none, none, none, none, none, none, none, none, none, none, none, none, none, none, none, none, none,
      none, none, none, none, none, none, none, none, none, none, none, none, none, none, none, none, none, none, none,
      none, none, none, none, none, none, none, none, none, none, none, none, none, none, none, none, none, none, none,
      none, none, none, none, none, none, none, none, none, none, none, none, none, none, none, none, none, none, none,
      none, none, none, none, none, none, none, none, none, none, none, none, none, none, none]
    [Hs.growi 118 IntKind.u32] true
def n_step_L0_of : List Pv → Option ((Nat × Nat × (List Int) × Int × Int × Int × (List Int)) × (Int × Int))
  | [.n v0_0, .n v0_1, .il v1, .i v4, .i v5, .i v7, .i v8, .i v9, .il h0] => some ((v0_0, v0_1, v1, v4, v5, v7, h0), (v8, v9))
  | _ => none
def n_step_L0_to (p : Nat × Nat × (List Int) × Int × Int × Int × (List Int)) (x : Int × Int) : List Pv := [.n p.1, .n p.2.1, .il p.2.2.1, .i p.2.2.2.1, .i p.2.2.2.2.1, .i p.2.2.2.2.2.1, .i x.1, .i x.2, .il p.2.2.2.2.2.2]
theorem n_step_L0_ot (l : List Pv) (p : Nat × Nat × (List Int) × Int × Int × Int × (List Int)) (x : Int × Int) (h : n_step_L0_of l = some (p, x)) : n_step_L0_to p x = l := by
  unfold n_step_L0_of at h
  split at h
  · cases h; rfl
  · cases h
def n_step_L0_dec (s : St) : Option ((Nat × Nat × (List Int) × Int × Int × Int × (List Int)) × (Int × Int)) := (n_step_L0_tm.dec s).bind n_step_L0_of
def n_step_L0_I (p : Nat × Nat × (List Int) × Int × Int × Int × (List Int)) (x : Int × Int) : St := n_step_L0_tm.enc (n_step_L0_to p x)
theorem n_step_L0_ev (v0 : Value)  (v0_0 : Nat) (v0_1 : Nat) (v1 : List Int) (v4 : Int) (v5 : Int) (v7 : Int) (h0 : List Int) (v8 : Int) (v9 : Int) (Q : ((Nat × Nat × (List Int) × Int × Int × Int × (List Int)) × (Int × Int)) ⊕ ((Nat × Nat × (List Int) × Int × Int × Int × (List Int)) × (Int × Int)) → Prop) : evC Try.prog (mkB ([]) v0) noL 60 (lp Try.f138 0) (n_step_L0_I (v0_0, v0_1, v1, v4, v5, v7, h0) (v8, v9)) (fun y s => onO Q (bkE 0 n_step_L0_dec y s)) = (n_step_L0_T  v0_0 v0_1 v1 v4 v5 v7 h0 v8 v9).prop (onT (v0_0, v0_1, v1, v4, v5, v7, h0) Q) := by kernel_rfl
set_option maxRecDepth 100000 in
theorem n_step_L0_ls {v0 : Value} {B : Nat} {w0 : World} {s : St} {k : X → St → Prop} (hk : (lsE 0 n_step_L0_dec n_step_L0_I n_step_L0_ok n_step_L0_v) s k) : EW Try.prog (mkB ([]) v0) B w0 (.loop (lp Try.f138 0)) s k :=
  lsE_ok (fun _ _ _ h => weak_of n_step_L0_ot (.inr rfl) h) (step := n_step_L0_step) (fun p x Q h => evC_spec mixed (mkB_ok AllGood.nil v0) (L := noL) (u := 60) _ (loops_nil (by kernel_rfl)) _ _ (Eq.mpr (n_step_L0_ev v0  p.1 p.2.1 p.2.2.1 p.2.2.2.1 p.2.2.2.2.1 p.2.2.2.2.2.1 p.2.2.2.2.2.2 x.1 x.2 Q) h)) (fun _ _ h => run_ok h) hk
def n_step_L1_tm : Tm :=
  Tm.mk
    [some (false, [Sh.sub 0 1]), some (false, [Sh.veci false IntKind.u32]), none, none,
      some (false, [Sh.int IntKind.u32]), some (false, [Sh.int IntKind.i64]), none, none,
      some (false, [Sh.int IntKind.u64]), none, some (false, [Sh.int IntKind.u64]), some (false, [Sh.int IntKind.u64]),
      none, none, none, none, none, none, none, none, none, none, none, none, none, none, none, none, none, none, none,
      none, none, none, none, none, none, none, none, none, none, none, none, none, none, none, none, none, none, none,
      none, none, none, none, none, none, none, none, none, none, none, none, none, none, none, none, none, none, none,
      none, none, none, none, some (false, [Sh.int IntKind.i64]), some (false, [Sh.int IntKind.i64]), none, none, none,
      none, none, none, none, none, none, none, none, none, none, none, none, none, none, none, none, none, none, none,
      none, none, none, none, none, none, none, none, none, none, none, none, none, none, none, none, none, none, none,
      none, none, none, none, none, none, none, none, none, none, none, none, none, none, none, none, none, none, none,
      none, none, none, none, none, none, none, none, none, none, none]
    [Hs.growi 118 IntKind.u32] true
def n_step_L1_of : List Pv → Option ((Nat × Nat × (List Int) × Int × Int × Int × Int) × (Int × Int × Int × (List Int)))
  | [.n v0_0, .n v0_1, .il v1, .i v4, .i v5, .i v8, .i v10, .i v11, .i v73, .i v74, .il h0] => some ((v0_0, v0_1, v1, v4, v5, v8, v73), (v10, v11, v74, h0))
  | _ => none
def n_step_L1_to (p : Nat × Nat × (List Int) × Int × Int × Int × Int) (x : Int × Int × Int × (List Int)) : List Pv := [.n p.1, .n p.2.1, .il p.2.2.1, .i p.2.2.2.1, .i p.2.2.2.2.1, .i p.2.2.2.2.2.1, .i x.1, .i x.2.1, .i p.2.2.2.2.2.2, .i x.2.2.1, .il x.2.2.2]
theorem n_step_L1_ot (l : List Pv) (p : Nat × Nat × (List Int) × Int × Int × Int × Int) (x : Int × Int × Int × (List Int)) (h : n_step_L1_of l = some (p, x)) : n_step_L1_to p x = l := by
  unfold n_step_L1_of at h
  split at h
  · cases h; rfl
  · cases h
def n_step_L1_dec (s : St) : Option ((Nat × Nat × (List Int) × Int × Int × Int × Int) × (Int × Int × Int × (List Int))) := (n_step_L1_tm.dec s).bind n_step_L1_of
def n_step_L1_I (p : Nat × Nat × (List Int) × Int × Int × Int × Int) (x : Int × Int × Int × (List Int)) : St := n_step_L1_tm.enc (n_step_L1_to p x)
theorem n_step_L1_ev (v0 : Value) (n_step_L0_ok : (Nat × Nat × (List Int) × Int × Int × Int × (List Int)) → (Int × Int) → Bool) (n_step_L0_v : (Nat × Nat × (List Int) × Int × Int × Int × (List Int)) → (Int × Int) → Int × Int) (v0_0 : Nat) (v0_1 : Nat) (v1 : List Int) (v4 : Int) (v5 : Int) (v8 : Int) (v73 : Int) (v10 : Int) (v11 : Int) (v74 : Int) (h0 : List Int) (Q : ((Nat × Nat × (List Int) × Int × Int × Int × Int) × (Int × Int × Int × (List Int))) ⊕ ((Nat × Nat × (List Int) × Int × Int × Int × Int) × (Int × Int × Int × (List Int))) → Prop) : evC Try.prog (mkB ([]) v0) (fun id => cond (Nat.beq 5 id) (some (lsE 0 n_step_L0_dec n_step_L0_I n_step_L0_ok n_step_L0_v)) (none) : Loops) 60 (lp Try.f138 1) (n_step_L1_I (v0_0, v0_1, v1, v4, v5, v8, v73) (v10, v11, v74, h0)) (fun y s => onO Q (bkE 2 n_step_L1_dec y s)) = (n_step_L1_T  v0_0 v0_1 v1 v4 v5 v8 v73 v10 v11 v74 h0).prop (onT (v0_0, v0_1, v1, v4, v5, v8, v73) Q) := by kernel_rfl
set_option maxRecDepth 100000 in
theorem n_step_L1_ls {v0 : Value} {B : Nat} {w0 : World} {s : St} {k : X → St → Prop} (hk : (lsE 2 n_step_L1_dec n_step_L1_I n_step_L1_ok n_step_L1_v) s k) : EW Try.prog (mkB ([]) v0) B w0 (.loop (lp Try.f138 1)) s k :=
  lsE_ok (fun _ _ _ h => weak_of n_step_L1_ot (.inr rfl) h) (step := n_step_L1_step) (fun p x Q h => evC_spec mixed (mkB_ok AllGood.nil v0) (L := (fun id => cond (Nat.beq 5 id) (some (lsE 0 n_step_L0_dec n_step_L0_I n_step_L0_ok n_step_L0_v)) (none) : Loops)) (u := 60) _ (loops_nil (by kernel_rfl)) _ _ (Eq.mpr (n_step_L1_ev v0 n_step_L0_ok n_step_L0_v p.1 p.2.1 p.2.2.1 p.2.2.2.1 p.2.2.2.2.1 p.2.2.2.2.2.1 p.2.2.2.2.2.2 x.1 x.2.1 x.2.2.1 x.2.2.2 Q) h)) (fun _ _ h => run_ok h) hk
def n_step_L2_tm : Tm :=
  Tm.mk
    [some (false, [Sh.sub 0 1]), some (false, [Sh.veci false IntKind.u32]), none, none,
      some (false, [Sh.int IntKind.u32]), some (false, [Sh.int IntKind.i64]), none, none,
      some (false, [Sh.int IntKind.u64]), none, none, none, none, none, some (false, [Sh.int IntKind.u64]), none, none,
      none, none, none, none, none, none, none, none, none, none, none, none, none, none, none, none, none, none, none,
      none, none, none, none, none, none, none, none, none, none, none, none, none, none, none, none, none, none, none,
      none, none, none, none, none, none, none, none, none, none, none, none, none, none, none, none, none, none, none,
      none, none, none, none, none, none, none, none, none, none, none, none, none, none, none, none, none, none, none,
      none, none, none, none, none, none, none, none, none, none, none, none, none, none, none, none, none,
      some (false, [Sh.bool]), none, none, none, some (false, [Sh.int IntKind.i64]), some (false, [Sh.int IntKind.i64]),
      none, none, none, none, none, none, none, none, none, none, none, none, none, none, none, none, none, none, none,
      none, none, none, none, none, none, none, none, none, none, none]
    [Hs.growi 118 IntKind.u32] true
def n_step_L2_of : List Pv → Option ((Nat × Nat × (List Int) × Int × Int × Int × Bool × Int) × (Int × Int × (List Int)))
  | [.n v0_0, .n v0_1, .il v1, .i v4, .i v5, .i v8, .i v14, .b v110, .i v114, .i v115, .il h0] => some ((v0_0, v0_1, v1, v4, v5, v8, v110, v114), (v14, v115, h0))
  | _ => none
def n_step_L2_to (p : Nat × Nat × (List Int) × Int × Int × Int × Bool × Int) (x : Int × Int × (List Int)) : List Pv := [.n p.1, .n p.2.1, .il p.2.2.1, .i p.2.2.2.1, .i p.2.2.2.2.1, .i p.2.2.2.2.2.1, .i x.1, .b p.2.2.2.2.2.2.1, .i p.2.2.2.2.2.2.2, .i x.2.1, .il x.2.2]
theorem n_step_L2_ot (l : List Pv) (p : Nat × Nat × (List Int) × Int × Int × Int × Bool × Int) (x : Int × Int × (List Int)) (h : n_step_L2_of l = some (p, x)) : n_step_L2_to p x = l := by
  unfold n_step_L2_of at h
  split at h
  · cases h; rfl
  · cases h
def n_step_L2_dec (s : St) : Option ((Nat × Nat × (List Int) × Int × Int × Int × Bool × Int) × (Int × Int × (List Int))) := (n_step_L2_tm.dec s).bind n_step_L2_of
def n_step_L2_I (p : Nat × Nat × (List Int) × Int × Int × Int × Bool × Int) (x : Int × Int × (List Int)) : St := n_step_L2_tm.enc (n_step_L2_to p x)
theorem n_step_L2_ev (v0 : Value) (n_step_L0_ok : (Nat × Nat × (List Int) × Int × Int × Int × (List Int)) → (Int × Int) → Bool) (n_step_L0_v : (Nat × Nat × (List Int) × Int × Int × Int × (List Int)) → (Int × Int) → Int × Int) (n_step_L1_ok : (Nat × Nat × (List Int) × Int × Int × Int × Int) → (Int × Int × Int × (List Int)) → Bool) (n_step_L1_v : (Nat × Nat × (List Int) × Int × Int × Int × Int) → (Int × Int × Int × (List Int)) → Int × Int × Int × (List Int)) (v0_0 : Nat) (v0_1 : Nat) (v1 : List Int) (v4 : Int) (v5 : Int) (v8 : Int) (v110 : Bool) (v114 : Int) (v14 : Int) (v115 : Int) (h0 : List Int) (Q : ((Nat × Nat × (List Int) × Int × Int × Int × Bool × Int) × (Int × Int × (List Int))) ⊕ ((Nat × Nat × (List Int) × Int × Int × Int × Bool × Int) × (Int × Int × (List Int))) → Prop) : evC Try.prog (mkB ([]) v0) (fun id => cond (Nat.beq 11 id) (some (lsE 2 n_step_L1_dec n_step_L1_I n_step_L1_ok n_step_L1_v)) (cond (Nat.beq 5 id) (some (lsE 0 n_step_L0_dec n_step_L0_I n_step_L0_ok n_step_L0_v)) (none)) : Loops) 60 (lp Try.f138 2) (n_step_L2_I (v0_0, v0_1, v1, v4, v5, v8, v110, v114) (v14, v115, h0)) (fun y s => onO Q (bkE 4 n_step_L2_dec y s)) = (n_step_L2_T  v0_0 v0_1 v1 v4 v5 v8 v110 v114 v14 v115 h0).prop (onT (v0_0, v0_1, v1, v4, v5, v8, v110, v114) Q) := by kernel_rfl
set_option maxRecDepth 100000 in
theorem n_step_L2_ls {v0 : Value} {B : Nat} {w0 : World} {s : St} {k : X → St → Prop} (hk : (lsE 4 n_step_L2_dec n_step_L2_I n_step_L2_ok n_step_L2_v) s k) : EW Try.prog (mkB ([]) v0) B w0 (.loop (lp Try.f138 2)) s k :=
  lsE_ok (fun _ _ _ h => weak_of n_step_L2_ot (.inr rfl) h) (step := n_step_L2_step) (fun p x Q h => evC_spec mixed (mkB_ok AllGood.nil v0) (L := (fun id => cond (Nat.beq 11 id) (some (lsE 2 n_step_L1_dec n_step_L1_I n_step_L1_ok n_step_L1_v)) (cond (Nat.beq 5 id) (some (lsE 0 n_step_L0_dec n_step_L0_I n_step_L0_ok n_step_L0_v)) (none)) : Loops)) (u := 60) _ (loops_nil (by kernel_rfl)) _ _ (Eq.mpr (n_step_L2_ev v0 n_step_L0_ok n_step_L0_v n_step_L1_ok n_step_L1_v p.1 p.2.1 p.2.2.1 p.2.2.2.1 p.2.2.2.2.1 p.2.2.2.2.2.1 p.2.2.2.2.2.2.1 p.2.2.2.2.2.2.2 x.1 x.2.1 x.2.2 Q) h)) (fun _ _ h => run_ok h) hk
theorem n_step_ev (v0 : Value) (n_step_L0_ok : (Nat × Nat × (List Int) × Int × Int × Int × (List Int)) → (Int × Int) → Bool) (n_step_L0_v : (Nat × Nat × (List Int) × Int × Int × Int × (List Int)) → (Int × Int) → Int × Int) (n_step_L1_ok : (Nat × Nat × (List Int) × Int × Int × Int × Int) → (Int × Int × Int × (List Int)) → Bool) (n_step_L1_v : (Nat × Nat × (List Int) × Int × Int × Int × Int) → (Int × Int × Int × (List Int)) → Int × Int × Int × (List Int)) (n_step_L2_ok : (Nat × Nat × (List Int) × Int × Int × Int × Bool × Int) → (Int × Int × (List Int)) → Bool) (n_step_L2_v : (Nat × Nat × (List Int) × Int × Int × Int × Bool × Int) → (Int × Int × (List Int)) → Int × Int × (List Int)) (xs : List Int) (lo n : Nat) (den : List Int) (Q : AV → VL → Prop) : evFB Try.prog (mkB ([]) v0) (fun id => cond (Nat.beq 24 id) (some (lsE 4 n_step_L2_dec n_step_L2_I n_step_L2_ok n_step_L2_v)) (cond (Nat.beq 11 id) (some (lsE 2 n_step_L1_dec n_step_L1_I n_step_L1_ok n_step_L1_v)) (cond (Nat.beq 5 id) (some (lsE 0 n_step_L0_dec n_step_L0_I n_step_L0_ok n_step_L0_v)) (none))) : Loops) 60 Try.f138 (.one false [.sub 0 1 lo n] :: ((aOne (cInts .u32)).enc false den)) 118 (.int .u32 xs) Q = (n_step_T n_step_L0_ok n_step_L0_v n_step_L1_ok n_step_L1_v n_step_L2_ok n_step_L2_v xs lo n den).prop (fun x => Q ((o1 (cInt .u32)).enc x.1) (.int .u32 x.2)) := by kernel_rfl
theorem n_step_c (xs : List Int) (lo n : Nat) (x : (List Int)) (hs : n_step_s xs lo n x = true) (w : World) (v0 : Value) (vs : Array Value) (ho : w.ownsRow 0 118 1 v0 xs.length (VL.int .u32 xs).vals) (hp : LentA v0 lo n ((aOne (cInts .u32)).enc false x) w vs) : Calls Try.prog 138 vs w (LentR .u32 118 v0 ((o1 (cInt .u32)).enc (n_step xs lo n x).1) (n_step xs lo n x).2 w) :=
  contractB mixed AllGood.nil Try.func138 (fun _ _ _ => loops_all (m := 3) (by kernel_rfl) (fun i hi => match i, hi with
    | 0, _ => (fun g hg s k hk => n_step_L0_ls (cast (congrFun (congrFun (Option.some.inj (hg.symm.trans (by kernel_rfl))) s) k) hk))
    | 1, _ => (fun g hg s k hk => n_step_L1_ls (cast (congrFun (congrFun (Option.some.inj (hg.symm.trans (by kernel_rfl))) s) k) hk))
    | 2, _ => (fun g hg s k hk => n_step_L2_ls (cast (congrFun (congrFun (Option.some.inj (hg.symm.trans (by kernel_rfl))) s) k) hk))
    | (j + 3), hi => absurd hi (by omega))) (enc := (o1 (cInt .u32)).enc) (t := n_step_t xs lo n x) hs (fun v0 Q => n_step_ev v0 n_step_L0_ok n_step_L0_v n_step_L1_ok n_step_L1_v n_step_L2_ok n_step_L2_v xs lo n x Q) w v0 ho vs hp
theorem n_step_ok : GoodW Try.prog 138 (lentW .u32 118 (aOne (cInts .u32)) (fun xs lo n x => n_step_s xs lo n x) (fun xs lo n x => (o1 (cInt .u32)).enc (n_step xs lo n x).1) (fun xs lo n x => (n_step xs lo n x).2)) :=
  good_lent (callable_of Try.func138 (by kernel_rfl) (by kernel_rfl)) fun xs lo n x hs _ w v0 vs ho hp => n_step_c xs lo n x hs w v0 vs ho hp
end Go.Proofs.Ytdkbeajkedffeaa
namespace Go.Proofs.Ytdkbeajkedffeaa
open Go.RowKit Go.Shelf Go.Ev Go.Fb
attribute [local go_sem] Oper.semAt_some
def bwf (n : Nat) : List (Fin n) := (List.finRange n).reverse
theorem bwf_get {n k : Nat} (hk : k < n) : (bwf n)[k]? = some ⟨n - 1 - k, by omega⟩ := by
  simp [bwf, hk]
theorem bwf_len (n : Nat) : (bwf n).length = n := by simp [bwf]
theorem bwf_take {n k : Nat} (hk : k < n) : (bwf n).take (k + 1) = (bwf n).take k ++ [⟨n - 1 - k, by omega⟩] := by
  rw [List.take_add_one, bwf_get hk]; rfl
theorem bwf_bwd (zs : List Int) : (bwf zs.length).map (fun j => ((j.val : Int), zs.getD j.val 0)) = bwd zs := by
  unfold bwf bwd
  rw [List.map_reverse, List.map_reverse]
  congr 1
  apply List.ext_getElem
  · simp
  · intro i h1 h2
    simp at h1
    simp [h1]
def Kp2 (G : Nat → Prop) (W W' : World) : Prop := ∀ k, G k → W'.heap[k]? = W.heap[k]?
theorem Kp2.refl (G : Nat → Prop) (W : World) : Kp2 G W W := fun _ _ => rfl
theorem Kp2.trans {G : Nat → Prop} {A B C : World} (h : Kp2 G A B) (k : Kp2 G B C) : Kp2 G A C := fun n hn => (k n hn).trans (h n hn)
theorem Kp2.cell {G : Nat → Prop} {A B : World} (h : Kp2 G A B) {p : Addr} (hp : G p.block) : B.cell? p = A.cell? p := World.cell?_of_block (w := A) (h p.block hp)
theorem Kp2.put {G : Nat → Prop} {w : World} (hG : ∀ k, G k → k < w.heap.size) (W : World) (l : Nat) (o o' : Obj) (hl : w.heap.size ≤ l) (_ : W.heap[l]? = some o) (_ : o.isCells = false) (_ : o.isWalk = false) : Kp2 G W (W.putObj l o') :=
  fun k hk => World.putObj_heap_other (fun e => by have := hG k hk; omega)
set_option maxRecDepth 100000 in
set_option maxHeartbeats 2000000 in
theorem back1_in (F : Fence) (n : Nat) (h7 : F.fn 151) (hro : F.round = none) (hn : 1 ≤ n) (l Bs po b off cap : Nat) (zs : List Int) (hreach : zs.length ≤ 70368744177664) (G : Nat → Prop) (hb : G b) (J Jx : List (Fin zs.length) → World → Prop)
    (hY : ∀ pre x W, J pre W → pre.length < zs.length → YieldAt F (n - 1) Try.prog l #[.int .i64 (x.val : Int), .int .u32 (zs.getD x.val 0)] W fun e W' =>
      (e = .returned (.bool true) ∧ J (pre ++ [x]) W' ∧ Kp2 G W W') ∨ (e = .returned (.bool false) ∧ Jx (pre ++ [x]) W'))
    (W : World) (hBn : G Bs) (hBs : W.cell? ⟨Bs, po, none⟩ = some (.slice (some ⟨b, off, none⟩) zs.length cap)) (hc : ∀ j, j < zs.length → W.cell? ⟨b, off + j, none⟩ = some (.int .u32 (zs.getD j 0))) (h0 : J [] W) :
    CallsIn F n Try.prog 151 #[.func (.yield l) #[] #[], .pointer (some ⟨Bs, po, none⟩)] W fun e W' => (∃ v, e = .returned v) ∧
      ((∃ ys, ys = bwf zs.length ∧ J ys W') ∨ (∃ pre, (∃ k, pre = (bwf zs.length).take k) ∧ Jx pre W')) := by
  refine callsIn_of_wp Try.func151 rfl h7 ?_ hro
  simp only [Try.ntmps151, List.size_toArray, List.length_cons, List.length_nil, Nat.reduceAdd, Nat.reduceSub, Array.replicate_succ, Array.replicate_zero, List.push_toArray, List.append_toArray, List.nil_append, List.cons_append]
  have hlen : (zs.length : Int) ≤ 70368744177664 := by omega
  gi_wp2
  gi_loopw [3] (fun i wr => ∃ k : Nat, k ≤ zs.length ∧ i = .int .i64 ((zs.length : Int) - 1 - k) ∧ J ((bwf zs.length).take k) wr ∧ Kp2 G W wr)
    (fun i _ => (intOf i + 1).toNat)
  case atStart => exact ⟨0, Nat.zero_le _, by simp, h0, Kp2.refl _ _⟩
  case round =>
    obtain ⟨k, hk, rfl, hJs, hnx⟩ := hrel
    have hBs' := (hnx.cell (p := ⟨Bs, po, none⟩) hBn).trans hBs
    by_cases hlt : k < zs.length
    · have hcx : wr.cell? ⟨b, off + (zs.length - 1 - k), none⟩ = some (.int .u32 (zs.getD (zs.length - 1 - k) 0)) := (hnx.cell (p := ⟨b, off + (zs.length - 1 - k), none⟩) hb).trans (hc _ (by omega))
      have hk1 : zs.length - 1 - k < zs.length := by omega
      obtain ⟨fn, tmps, assign, body, hy, hR⟩ := hY _ ⟨zs.length - 1 - k, hk1⟩ wr hJs (by rw [List.length_take, bwf_len]; omega)
      obtain ⟨⟨j, hjl⟩, hjf⟩ : ∃ jf : Fin zs.length, (⟨zs.length - 1 - k, hk1⟩ : Fin zs.length) = jf := ⟨_, rfl⟩
      have hj : zs.length - 1 - k = j := congrArg Fin.val hjf
      have hHf : Hid ((⟨zs.length - 1 - k, hk1⟩ : Fin zs.length) = ⟨j, hjl⟩) := hjf
      rw [hjf] at hy hR
      dsimp only at hy
      have hji : (zs.length : Int) - 1 - k = (j : Int) := by omega
      rw [hj] at hcx
      rw [hji]
      have hjl' : (j : Int) < (zs.length : Int) := by omega
      clear hj hjf
      obtain ⟨xj, hxj⟩ : ∃ xj, zs.getD j 0 = xj := ⟨_, rfl⟩
      rw [hxj] at hcx hy
      have hHx : Hid (zs.getD j 0 = xj) := hxj
      clear hxj
      gi_wp2
      refine hR.mono ?_
      rintro e W3 (⟨rfl, hJ3, hk3⟩ | ⟨rfl, hJx3⟩)
      · gi_wp2
        go_roundw
        case rel =>
          refine ⟨k + 1, by omega, ?_, ?_, hnx.trans hk3⟩
          · congr 1; omega
          · rw [bwf_take hlt, hHf.out]; exact hJ3
        case measure => simp [intOf]
      · gi_wp2
        refine bodyPost_ret (results_none rfl _ _ _) rfl ?_
        exact ⟨⟨_, rfl⟩, .inr ⟨_, ⟨k + 1, by rw [bwf_take hlt, hHf.out]⟩, hJx3⟩⟩
    · obtain rfl : k = zs.length := by omega
      gi_wp2
      go_end0
      refine ⟨⟨_, rfl⟩, .inl ⟨_, rfl, ?_⟩⟩
      rwa [List.take_of_length_le (by rw [bwf_len]; omega)] at hJs
set_option maxRecDepth 100000 in
set_option maxHeartbeats 2000000 in
theorem back1_nil (F : Fence) (n : Nat) (h7 : F.fn 151) (hro : F.round = none) (l Bs po cap : Nat) (ao : Option Addr) {α : Type} (J : List α → World → Prop) (W : World) (hBs : W.cell? ⟨Bs, po, none⟩ = some (.slice ao 0 cap)) (h0 : J [] W) :
    CallsIn F n Try.prog 151 #[.func (.yield l) #[] #[], .pointer (some ⟨Bs, po, none⟩)] W fun e W' => (∃ v, e = .returned v) ∧ J [] W' := by
  refine callsIn_of_wp Try.func151 rfl h7 ?_ hro
  simp only [Try.ntmps151, List.size_toArray, List.length_cons, List.length_nil, Nat.reduceAdd, Nat.reduceSub, Array.replicate_succ, Array.replicate_zero, List.push_toArray, List.append_toArray, List.nil_append, List.cons_append]
  gi_wp2
  gi_loopw [3] (fun i wr => i = .int .i64 (-1) ∧ J [] wr) (fun _ _ => 0)
  case atStart => exact ⟨rfl, h0⟩
  case round =>
    obtain ⟨rfl, hJs⟩ := hrel
    gi_wp2
    go_end0
    exact ⟨⟨_, rfl⟩, hJs⟩
theorem back_stops (F : Fence) (n : Nat) (h7 : F.fn 151) (hro : F.round = none) (hn : 1 ≤ n) (Bs po cap : Nat) (ao : Option Addr) (zs : List Int) (hreach : zs.length ≤ 70368744177664) (G : Nat → Prop) (w : World) (hBs : w.cell? ⟨Bs, po, none⟩ = some (.slice ao zs.length cap)) (hG : ∀ k, G k → k < w.heap.size) (hB : G Bs)
    (hl : zs.length = 0 ∨ ∃ b off, ao = some ⟨b, off, none⟩ ∧ G b ∧ ∀ j, j < zs.length → w.cell? ⟨b, off + j, none⟩ = some (.int .u32 (zs.getD j 0))) :
    SeqStopsK F n Try.prog 151 #[.pointer (some ⟨Bs, po, none⟩)] (fun x : Fin zs.length => #[Value.int .i64 (x.val : Int), .int .u32 (zs.getD x.val 0)]) (Kp2 G) (fun ys => ys = bwf zs.length) (fun pre => ∃ k, pre = (bwf zs.length).take k) zs.length w := fun l J Jx W hW _ _ hY h0 => by
  have hc' := (hW.cell (p := ⟨Bs, po, none⟩) (hG _ hB)).trans hBs
  rcases hl with h | ⟨b, off, rfl, hb, hcs⟩
  · obtain rfl := List.eq_nil_of_length_eq_zero h
    exact (back1_nil F n h7 hro l Bs po cap ao J W hc' h0).mono fun e W' ⟨he, hj⟩ => ⟨he, .inl ⟨_, rfl, hj⟩⟩
  · exact back1_in F n h7 hro hn l Bs po b off cap zs hreach G hb J Jx hY W hB hc' (fun j hj => (hW.cell (p := ⟨b, off + j, none⟩) (hG _ hb)).trans (hcs j hj)) h0
set_option maxHeartbeats 1000000 in
theorem backward_c (ao : Option Addr) (len cap : Nat) (w : World) : Calls Try.prog 147 #[.slice ao len cap] w fun e w' => e = .returned (.func (.func 151) #[] #[.pointer (some ⟨w.heap.size, 0, none⟩)]) ∧ w' = w.alloc (.cells #[.slice ao len cap] 58) := by
  refine (callsIn_wide (n := 3)).1 ?_
  refine callsIn_of_wp Try.func147 rfl trivial ?_ rfl
  simp only [Try.ntmps147, List.size_toArray, List.length_cons, List.length_nil, Nat.reduceAdd, Nat.reduceSub, Array.replicate_succ, Array.replicate_zero, List.push_toArray, List.append_toArray, List.nil_append, List.cons_append]
  gi_wp2
  go_ret
  exact ⟨rfl, rfl⟩
theorem back_ok : GoodW Try.prog 147 (aliasW (aOne (cInts .u32)) (fun _ => true) fun x => .one false [.clv 151 [.int .u32 x]]) :=
  good_alias (callable_of Try.func147 (by kernel_rfl) (by kernel_rfl)) fun x _ w F hF vs hp => by
    obtain ⟨v0, vs', hvs, hv0, hr⟩ := AllR.uncons hp
    have := hr.unnil
    subst this
    have hvs : vs = #[v0] := by apply Array.ext'; simpa using hvs
    subst hvs
    have hs : ∃ ao cap, v0 = .slice ao x.length cap := by
      obtain ⟨ao, cap, h, _⟩ := hv0 (mkC [] fun _ => True) ⟨fun _ => none, fun _ => none, fun _ => False, fun _ => True, fun _ => False⟩ fun n _ => ⟨id, fun _ => trivial⟩
      exact ⟨ao, cap, h⟩
    obtain ⟨ao, cap, rfl⟩ := hs
    refine (backward_c ao x.length cap w).mono ?_
    rintro e w' ⟨rfl, rfl⟩
    refine ⟨_, rfl, fun C E hE => ?_, (Below.refl _ w).alloc (Nat.le_refl _) _⟩
    refine ⟨[.pointer (some ⟨w.heap.size, 0, none⟩)], rfl, AllR.cons ⟨w.heap.size, 0, .slice ao x.length cap, rfl, (hE _ (hF _ (Nat.le_refl _))).1, by simp, by unfold World.cell?; rw [heap_alloc_new]; rfl, ?_⟩ AllR.nil⟩
    have h1 : VecG (E.G true) w true (.int .u32 x) (.slice ao x.length cap) := hv0 C E hE
    exact (VecG.mono h1 (fun b _ hb => ⟨hb.1, fun e => by cases e⟩) (by simp) (fun b o u _ hu => by rw [cell_heap (Below.heap_alloc _ _ _ (cell_lt hu))]; exact hu)).flag
end Go.Proofs.Ytdkbeajkedffeaa
namespace Go.Proofs.Ytdkbeajkedffeaa
open Go.RowKit Go.Ev Go.Fb
def clL : Code → Code | .seq a _ => a | c => c
def clR : Code → Code | .seq _ b => b | c => c
def clT : Code → Code | .cond _ a _ => a | c => c
noncomputable def cl0 : Code := Try.f134.body.getD .skip
noncomputable def clc0 : Code := clL cl0
noncomputable def clc2 : Code := clT (clR (clL (clR cl0)))
noncomputable def clc3 : Code := clR (clR cl0)
theorem cl_eq : Try.f134.body = some (.seq clc0 (.seq (.seq (.region 1 #[{ dst := some 3, op := .move (.tmp 0), type := 58, pos := "slices.go:357", after := #[], guard := none },
    { dst := some 4, op := .binOp .eql 58 (.tmp 3) (.const (.slice none 0 0)) 58, type := 4, pos := "slices.go:357", after := #[{ on := 0, ground := .data }], guard := none }] false) (.cond (.tmp 4) clc2 .skip)) clc3)) := by kernel_rfl
def clS (a : List Int) (c : Bool) : St := ⟨[.one false [.vec false (.int .u32 a)], undefA, .one false [.val (.slice none 0 0)], .one false [.top], .one false [.bool c], undefA, undefA, undefA], [none]⟩
def clS0 (a : List Int) : St := ⟨[.one false [.vec false (.int .u32 a)], undefA, .one false [.val (.slice none 0 0)], undefA, undefA, undefA, undefA, undefA], [none]⟩
def finR (Q : AV → Prop) (y : Ev.X) (s : St) : Prop := match y with
  | .ret => fin Try.prog Try.f134.results.toList Try.f134.resultTypes.toList Q .ret s
  | _ => False
def preK (P : Program) (C : Ctx) (c : Code) (s : St) (K : Ev.X → St → Prop) : Prop := forceAs s.slots fun sl => forceH s.heap fun h => evC P C noL 60 c ⟨sl, h⟩ K
theorem preK_eq {P : Program} {C : Ctx} {c : Code} {s : St} {K : Ev.X → St → Prop} : preK P C c s K = evC P C noL 60 c s K := by
  unfold preK; rw [forceAs_eq, forceH_eq]
theorem cl0_ev (F : Nat → Prop) (a : List Int) (K : Ev.X → St → Prop) : preK Try.prog (mkC [] F) clc0 (Ev.start [.one false [.vec false (.int .u32 a)]] 8) K = K .nrm (clS0 a) := by kernel_rfl
theorem cl3_ev (F : Nat → Prop) (a : List Int) (Q : AV → Prop) : preK Try.prog (mkC [] F) clc3 (clS a false) (finR Q) =
    cond (decide ((([] : List Int).length + a.length) * 4 ≤ 140737488355328)) (Q ((o1 (cInts .u32)).enc ([] ++ a))) False := by kernel_rfl
theorem cl2_ev (F : Nat → Prop) (a : List Int) (Q : AV → Prop) : preK Try.prog (mkC [] F) clc2 (clS a true) (finR Q) = Q ((o1 (cInts .u32)).enc []) := by kernel_rfl
theorem cl_noL : loopsIn clc0 = [] ∧ loopsIn clc2 = [] ∧ loopsIn clc3 = [] := ⟨by kernel_rfl, by kernel_rfl, by kernel_rfl⟩
theorem cl1_wp {Q : Exit → Act → World → Prop} {ao : Option Addr} {len cap : Nat} {a : Act} {w : World} (hsz : a.tmps.size = 8) (e0 : a.eval (.tmp 0) = .slice ao len cap) (h : Q .normal ((a.put (some 3) (.slice ao len cap)).put (some 4) (.bool (ao.isNone))) w) :
    (Code.region 1 #[{ dst := some 3, op := .move (.tmp 0), type := 58, pos := "slices.go:357", after := #[], guard := none },
    { dst := some 4, op := .binOp .eql 58 (.tmp 3) (.const (.slice none 0 0)) 58, type := 4, pos := "slices.go:357", after := #[{ on := 0, ground := .data }], guard := none }] false).wp Try.prog Q a w := by
  refine wp_region ?_
  show wpOps Try.prog _ Q [0, 1] a w
  have e1 : (a.put (some 3) (.slice ao len cap)).eval (.tmp 3) = .slice ao len cap := by simp [Act.eval, Act.put, hsz]
  have e2 : ∀ v, (a.put (some 3) v).eval (.const (.slice none 0 0)) = .slice none 0 0 := fun v => rfl
  simp only [wpOps, List.getElem?_toArray, List.getElem?_cons_zero, List.getElem?_cons_succ]
  rw [if_pos (by simp [Region.wanted])]
  refine .inl ?_
  unfold Oper.wp
  have r0 : (execOp a.eval { dst := some 3, op := .move (.tmp 0), type := 58, pos := "slices.go:357", after := #[], guard := none }).run Try.prog w = .ok (.value (.slice ao len cap)) w := by
    simp only [execOp, e0]
    rfl
  rw [r0]
  rw [Oper.upon_value]
  rw [if_pos (by simp [Region.wanted])]
  refine .inl ?_
  dsimp only
  have r1 : (execOp (a.put (some 3) (.slice ao len cap)).eval { dst := some 4, op := .binOp .eql 58 (.tmp 3) (.const (.slice none 0 0)) 58, type := 4, pos := "slices.go:357", after := #[{ on := 0, ground := .data }], guard := none }).run Try.prog w = .ok (.value (.bool ao.isNone)) w := by
    simp only [execOp, e1, e2]
    have hq := Go.Lib.run_eql_slice_nil (P := Try.prog) w 58 118 ao len cap 0 0 Try.underlying58
    cases ao <;> simp [go_sem, hq]
  rw [r1]
  exact h
theorem s_Clone_c (x : List Int) (hs : s_Clone_s x = true) (w : World) (vs : Array Value) (hp : ArgsR ((aOne (cInts .u32)).enc false x) w vs) : Calls Try.prog 134 vs w (Ans ((o1 (cInts .u32)).enc (s_Clone x)) w) := by
  obtain ⟨v0, vs', hvs, hv0, hr⟩ := AllR.uncons hp
  have := hr.unnil
  subst this
  have hvs : vs = #[v0] := by apply Array.ext'; simpa using hvs
  subst hvs
  let F : Nat → Prop := fun n => w.heap.size ≤ n
  have hC : CtxOK Try.prog (mkC [] F) := mkC_ok AllGood.nil F
  have hv1 : AV.rel (mkC [] F) (ES F) w (.one false [.vec false (.int .u32 x)]) v0 := hv0 _ _ fun n _ => ⟨fun h => h, fun e => by cases e⟩
  have hrel : Rel (mkC [] F) w.heap.size w (ES F) (Ev.start [.one false [.vec false (.int .u32 x)]] 8) { tmps := #[v0] ++ Array.replicate (8 - (#[v0] : Array Value).size) undef, defers := [] } w := by
    refine { slots := start_slots (vs := #[v0]) (AllR.cons hv1 AllR.nil), defers := rfl, heap := ?_, free := fun _ _ => ⟨rfl, rfl⟩, lo := fun n h => h.elim, inj := ?_, below := BelowX.refl _ _ _, base := Nat.le_refl _, ok := ⟨fun _ h => h, fun _ h => h.elim, rfl, rfl, fun v hv => by cases hv⟩ }
    · intro k b hk; simp [Ev.start] at hk
    · intro k k' b b' n hk; simp [Ev.start] at hk
  refine calls_of_wp Try.func134 cl_eq ?_
  rw [Try.ntmps134]
  generalize ({ tmps := #[v0] ++ Array.replicate (8 - (#[v0] : Array Value).size) undef, defers := [] } : Act) = a0 at hrel ⊢
  -- what is behind the function's end
  have fin_ok : ∀ (c : Code) (c' : Bool) (E : Env) (a : Act) (W : World), Rel (mkC [] F) w.heap.size w E (clS x c') a W → evC Try.prog (mkC [] F) noL 60 c (clS x c') (finR fun v => v = (o1 (cInts .u32)).enc x) → loopsIn c = [] →
      c.wp Try.prog (fun e a' W' => e = .ret ∧ bodyPost Try.prog Try.f134 (Ans ((o1 (cInts .u32)).enc x) w) .ret a' W') a W := by
    intro c c' E a W hR hev hl
    refine wp_mono (evC_spec mixed hC c (hl ▸ fun _ h => nomatch h) _ _ hev E a W hR) ?_
    rintro e a' w' ⟨y, E', s', rfl, hr', hk⟩
    cases y with
    | nrm => exact hk.elim
    | ex id => exact hk.elim
    | ret =>
    have hk : fin Try.prog Try.f134.results.toList Try.f134.resultTypes.toList (fun v => v = (o1 (cInts .u32)).enc x) .ret s' := hk
    obtain ⟨_, r, hres, rfl⟩ := fin_spec hk
    unfold resOut at hres
    simp only [Option.bind_eq_some_iff] at hres
    obtain ⟨r0, hr0, hout⟩ := hres
    obtain ⟨u, hu, hur⟩ := resS_spec (P := Try.prog) hr' hr0
    have hnX : ∀ n, ¬ E'.X n := fun n hn => by rw [hr'.ok.eX] at hn; exact hn
    have hO : InG true F w' ((o1 (cInts .u32)).enc x) u := by
      have := outA_spec (P := Try.prog) (rd_rel hr' (fun _ => true)) (fun n hn => ⟨by
        rcases (hr'.lo n hn).1 with h1 | h1
        · exact hr'.ok.F n h1
        · exact absurd h1 (hnX n), (hr'.lo n hn).2⟩) hout hur
      rwa [hr'.ok.eF] at this
    exact ⟨rfl, hr'.defers, u, hu, u, rfl, hO, hr'.below.to hnX⟩
  have h0 : evC Try.prog (mkC [] F) noL 60 clc0 (Ev.start [.one false [.vec false (.int .u32 x)]] 8) (fun y s => y = .nrm ∧ s = clS0 x) := by
    rw [← preK_eq, cl0_ev]; exact ⟨rfl, rfl⟩
  refine wp_seq (wp_mono (evC_spec mixed hC clc0 (cl_noL.1 ▸ fun _ h => nomatch h) _ _ h0 _ a0 w hrel) ?_)
  rintro e a1 w1 ⟨y, E1, s1, rfl, hr1, rfl, rfl⟩
  obtain ⟨ao, cap, hv, hcap, hnil, _⟩ : VecG _ _ _ _ _ := hr1.eval (x := .tmp 0) (v := .one false [.vec false (.int .u32 x)]) rfl
  have hv : a1.eval (.tmp 0) = .slice ao x.length cap := hv
  have hsz : a1.tmps.size = 8 := by
    have := hr1.slots.1
    simpa [clS0] using this.symm
  have hr2 : ∀ c, Rel (mkC [] F) w.heap.size w E1 (clS x c) ((a1.put (some 3) (.slice ao x.length cap)).put (some 4) (.bool c)) w1 := fun c =>
    (hr1.put (v := .one false [.top]) (u := .slice ao x.length cap) trivial (some 3)).put (v := .one false [.bool c]) (u := .bool c) rfl (some 4)
  refine wp_seq (wp_seq (cl1_wp hsz hv ?_))
  have e4 : ∀ c, ((a1.put (some 3) (.slice ao x.length cap)).put (some 4) (.bool c)).eval (.tmp 4) = .bool c := fun c => by simp [Act.eval, Act.put, hsz]
  cases ao with
  | none =>
    refine wp_cond_true (e4 true) (wp_mono (fin_ok clc2 true E1 _ w1 (hr2 true) ?_ cl_noL.2.1) ?_)
    · rw [← preK_eq, cl2_ev]
      have h0 : cap = 0 := hnil rfl
      have hcap : x.length ≤ cap := hcap
      rw [h0] at hcap
      rw [List.eq_nil_of_length_eq_zero (Nat.le_zero.1 hcap)]
    · rintro e a' W' ⟨rfl, h⟩; exact h
  | some ad =>
    refine wp_cond_false (e4 false) (wp_skip ?_)
    refine wp_mono (fin_ok clc3 false E1 _ w1 (hr2 false) ?_ cl_noL.2.2) ?_
    · rw [← preK_eq, cl3_ev]
      have e : decide ((([] : List Int).length + x.length) * 4 ≤ 140737488355328) = true := by
        have := of_decide_eq_true hs
        simp; omega
      rw [e]
      rfl
    · rintro e a' W' ⟨rfl, h⟩; exact h
theorem s_Clone_ok : GoodF Try.prog 134 (sumOf (aOne (cInts .u32)) (fun x => s_Clone_s x) fun x => (o1 (cInts .u32)).enc (s_Clone x)) :=
  good_sum (callable_of Try.func134 (by kernel_rfl) (by kernel_rfl)) s_Clone_c
end Go.Proofs.Ytdkbeajkedffeaa
namespace Go.Proofs.Ytdkbeajkedffeaa
open Go.RowKit Go.Ev Go.Fb
def codeL : Code → Code | .seq a _ => a | c => c
def codeR : Code → Code | .seq _ b => b | c => c
def codeB : Code → Code | .block _ c => c | c => c
def codeA : Code → Code | .rangeFunc _ _ a _ => a | c => c
def codeF : Code → Code | .rangeFunc _ _ _ b => b | c => c
def codeO : Code → Array Oper | .region _ o _ => o | _ => #[]
noncomputable def sh0 : Code := Try.f135.body.getD .skip
noncomputable def shc0 : Code := codeL sh0
noncomputable def shc1 : Code := codeL (codeR sh0)
noncomputable def shc2 : Code := codeL (codeR (codeR sh0))
noncomputable def shc3 : Code := codeL (codeL (codeR (codeR (codeR sh0))))
noncomputable def shB : Code := codeB (codeR (codeL (codeR (codeR (codeR sh0)))))
noncomputable def shA : Code := codeA shB
noncomputable def shR : Code := codeB (codeF shB)
noncomputable def shO : Array Oper := codeO (codeL (codeR (codeR (codeR (codeR sh0)))))
theorem sh0_eq : Try.f135.body = some (.seq shc0 (.seq shc1 (.seq shc2 (.seq (.seq shc3 (.block 0 (.rangeFunc (.tmp 14) #[15, 16] shA (.block 1 shR)))) (.seq (.region 9 shO true) .ret))))) := by kernel_rfl
noncomputable def shP : Code := .seq shc0 (.seq shc1 (.seq shc2 shc3))
abbrev shT0 : Tab := [(147, .w (aliasW (aOne (cInts .u32)) (fun _ => true) fun x => .one false [.clv 151 [.int .u32 x]]))]
abbrev shT1 : Tab := [(121, .w (aliasW (aOne (cInts .u32)) (fun x => n_trim_s x) fun x => (o1 (cInts .u32)).enc (n_trim x))), (116, .s (sumOf (aOne (cInt .u64)) (fun x => n_New_s x) fun x => (o1 (cInts .u32)).enc (n_New x)))]
def shH (b : Int) (q : List Int) (r : Int) : List (Option (Option Blk)) := [some (some (.cells 118 [.int .u32 b])), none, none, none, none, some (some (.grow 118 (.int .u32 q))), some (some (.cells 57 [.own 5])), none, some (some (.cells 22 [.int .u64 r]))]
def topA : AV := .one false [.top]
def shS (a : List Int) : List AV := [topA, topA, topA, .one false [.ptr 0 0], topA, topA, .one false [.ptr 6 0], .one false [.ptr 8 0], topA, topA, topA, topA, topA, topA, .one false [.clv 151 [.int .u32 a]]] ++ List.replicate 23 topA
def shS1 (a : List Int) (i x : Int) : List AV := [topA, topA, topA, .one false [.ptr 0 0], topA, topA, .one false [.ptr 6 0], .one false [.ptr 8 0], .one false [.int .i64 i], .one false [.int .u32 x], topA, topA, topA, topA, .one false [.clv 151 [.int .u32 a]]] ++ List.replicate 23 topA
def preE (P : Program) (C : Ctx) (c : Code) (s : St) (K : Ev.X → St → Prop) : Prop := forceAs s.slots fun sl => forceH s.heap fun h => evC P C noL 60 c ⟨sl, h⟩ K
theorem preE_eq {P : Program} {C : Ctx} {c : Code} {s : St} {K : Ev.X → St → Prop} : preE P C c s K = evC P C noL 60 c s K := by
  unfold preE; rw [forceAs_eq, forceH_eq]
def shL (a : List Int) (b : Int) : List AV :=
  [.one false [.vec false (.int .u32 a)], .one false [.int .u32 b], .one false [.und], .one false [.ptr 0 0], .one false [.val (.slice none 0 0)], .one false [.val (.slice none 0 0)], .one false [.ptr 6 0], .one false [.ptr 8 0],
   .one false [.und], .one false [.und], .one false [.vec false (.int .u32 a)], .one false [.int .i64 a.length], .one false [.own 5], .one false [.vec false (.int .u32 a)], .one false [.clv 151 [.int .u32 a]]] ++ List.replicate 23 undefA
theorem shP_ev (F X : Nat → Prop) (a : List Int) (b : Int) (K : Ev.X → St → Prop) : preE Try.prog (mkD shT0 F X) shP (Ev.start ((aCons (cInts .u32) (aOne (cInt .u32))).enc false (a, b)) 38) K =
    cond (decide ((a.length : Int) ≤ a.length) && decide (4 * (a.length : Int) ≤ 281474976710656)) (K .nrm ⟨shL a b, shH b (List.replicate (a.length : Int).toNat 0) 0 ++ List.replicate 3 none⟩) False := by kernel_rfl
def shW (r x : Int) : Int := bitsI BinOp.or IntKind.u64 (shlI IntKind.u64 r 32) (IntKind.u64.wrap x)
def shR1 (a : List Int) (b i x r : Int) : List AV := [topA, topA, topA, .one false [.ptr 0 0], topA, topA, .one false [.ptr 6 0], .one false [.ptr 8 0], .one false [.int .i64 i], .one false [.int .u32 x], topA, topA, topA, topA, .one false [.clv 151 [.int .u32 a]],
  topA, topA, .one false [.int .u64 r], .one false [.int .u64 (shlI IntKind.u64 r 32)], .one false [.int .u32 x], .one false [.int .u64 (IntKind.u64.wrap x)], .one false [.int .u64 (shW r x)], .one false [.own 5], .one false [.int .i64 i], .one false [.int .u64 (shW r x)],
  .one false [.int .u32 b], .one false [.int .u64 (IntKind.u64.wrap b)], .one false [.int .u64 (IntKind.u64.wrap ((shW r x).tdiv (IntKind.u64.wrap b)))], .one false [.int .u32 (IntKind.u32.wrap (IntKind.u64.wrap ((shW r x).tdiv (IntKind.u64.wrap b))))],
  .one false [.epo 5 1 i.toNat 0], .one false [.int .u64 (shW r x)], .one false [.int .u32 b], .one false [.int .u64 (IntKind.u64.wrap b)], .one false [.int .u64 ((shW r x).tmod (IntKind.u64.wrap b))], topA, topA, topA, topA]
theorem shR_ev (F X : Nat → Prop) (a : List Int) (b i x : Int) (q : List Int) (r : Int) (K : Ev.X → St → Prop) : preE Try.prog (mkD [] F X) shR ⟨shS1 a i x, shH b q r⟩ K =
    cond (!(IntKind.u64.wrap b == 0)) (cond (decide (0 ≤ i) && decide (i < (q.length : Int))) (cond (!(IntKind.u64.wrap b == 0))
      (K .nrm ⟨shR1 a b i x r, shH b (q.set i.toNat (IntKind.u32.wrap (IntKind.u64.wrap ((shW r x).tdiv (IntKind.u64.wrap b))))) ((shW r x).tmod (IntKind.u64.wrap b)) ++ List.replicate 20 none⟩) False) False) False := by kernel_rfl
def shlc : List (Option Nat) := [some 6, some 5, some 8, none, none, none]
def shSt (a : List Int) (b : Int) (q : List Int) (r : Int) : St := ⟨shS a, shH b q r⟩
theorem shO_ok (F X : Nat → Prop) (a : List Int) (b : Int) (q : List Int) (r : Int) : regOK Try.prog (mkD shT1 F X) shO (closure shO) shlc (shSt a b q r).heap.length = true := by kernel_rfl
theorem shO_ev (F X : Nat → Prop) (a : List Int) (b : Int) (q : List Int) (r : Int) (Q : AV → Prop) : (forceAs (shSt a b q r).slots fun sl => forceH (shSt a b q r).heap fun h => extK ⟨sl, h⟩ shO.size fun s' => evOps Try.prog (mkD shT1 F X) shO (alo shlc (fun i => (closure shO).getD i 0) (shSt a b q r).heap.length) (shSt a b q r).heap.length (List.range shO.size) s' fun s => fin Try.prog Try.f135.results.toList Try.f135.resultTypes.toList Q .ret s) =
    cond (n_trim_s q) (cond (n_New_s r) (Q ((o2 (cInts .u32) (cInts .u32)).enc (n_trim q, n_New r))) False) False := by kernel_rfl
def shK (Q : AV → Prop) (y : Ev.X) (s : St) : Prop := match y with
  | .nrm => fin Try.prog Try.f135.results.toList Try.f135.resultTypes.toList Q .ret s
  | _ => False
theorem extK_len {s : St} {n : Nat} {k : St → Prop} (h : forceAs s.slots fun sl => forceH s.heap fun hp => extK ⟨sl, hp⟩ n k) : extK s n k := by
  rw [forceAs_eq, forceH_eq] at h; exact h
set_option maxRecDepth 100000 in
theorem shO_run {F X : Nat → Prop} {a : List Int} {b : Int} {q : List Int} {r : Int} {Q : AV → Prop} (hC : CtxOK Try.prog (mkD shT1 F X)) (hnd : noDef shO = true) (ht : n_trim_s q = true) (hn : n_New_s r = true) (hQ : Q ((o2 (cInts .u32) (cInts .u32)).enc (n_trim q, n_New r))) {B : Nat} {w0 : World} {n : Nat} {ds : List Deferred} :
    EWi Try.prog (mkD shT1 F X) B w0 none n ds (.region 9 shO true) (dstsO shO) (shSt a b q r) (shK Q) := by
  have hev := shO_ev F X a b q r Q
  rw [ht, hn] at hev
  have hev2 := hev.mpr hQ
  have hex := extK_len hev2
  have hok := shO_ok F X a b q r
  generalize shSt a b q r = s at hex hok
  exact draw_in (lc := shlc) (k := shK Q) mixed hC hnd hok hex
theorem shS_get {a : List Int} : ∀ (t : Nat) (y : AV), (shS a)[t]? = some y → y = topA ∨ (t = 3 ∧ y = (.one false [.ptr 0 0] : AV)) ∨ (t = 6 ∧ y = (.one false [.ptr 6 0] : AV)) ∨ (t = 7 ∧ y = (.one false [.ptr 8 0] : AV)) ∨ (t = 14 ∧ y = (.one false [.clv 151 [.int .u32 a]] : AV))
  | 0, y, h => .inl (Option.some.inj h).symm
  | 1, y, h => .inl (Option.some.inj h).symm
  | 2, y, h => .inl (Option.some.inj h).symm
  | 3, y, h => .inr ((.inl ⟨rfl, (Option.some.inj h).symm⟩))
  | 4, y, h => .inl (Option.some.inj h).symm
  | 5, y, h => .inl (Option.some.inj h).symm
  | 6, y, h => .inr ((.inr (.inl ⟨rfl, (Option.some.inj h).symm⟩)))
  | 7, y, h => .inr ((.inr (.inr (.inl ⟨rfl, (Option.some.inj h).symm⟩))))
  | 8, y, h => .inl (Option.some.inj h).symm
  | 9, y, h => .inl (Option.some.inj h).symm
  | 10, y, h => .inl (Option.some.inj h).symm
  | 11, y, h => .inl (Option.some.inj h).symm
  | 12, y, h => .inl (Option.some.inj h).symm
  | 13, y, h => .inl (Option.some.inj h).symm
  | 14, y, h => .inr ((.inr (.inr (.inr ⟨rfl, (Option.some.inj h).symm⟩))))
  | t + 15, y, h => .inl (by
      have h : (List.replicate 23 topA)[t]? = some y := h
      rw [List.getElem?_replicate] at h
      split at h
      · exact (Option.some.inj h).symm
      · cases h)
theorem shS1_get {a : List Int} {i x : Int} : ∀ (t : Nat) (y : AV), (shS1 a i x)[t]? = some y → y = topA ∨ (t = 3 ∧ y = (.one false [.ptr 0 0] : AV)) ∨ (t = 6 ∧ y = (.one false [.ptr 6 0] : AV)) ∨ (t = 7 ∧ y = (.one false [.ptr 8 0] : AV)) ∨ (t = 8 ∧ y = (.one false [.int .i64 i] : AV)) ∨ (t = 9 ∧ y = (.one false [.int .u32 x] : AV)) ∨ (t = 14 ∧ y = (.one false [.clv 151 [.int .u32 a]] : AV))
  | 0, y, h => .inl (Option.some.inj h).symm
  | 1, y, h => .inl (Option.some.inj h).symm
  | 2, y, h => .inl (Option.some.inj h).symm
  | 3, y, h => .inr ((.inl ⟨rfl, (Option.some.inj h).symm⟩))
  | 4, y, h => .inl (Option.some.inj h).symm
  | 5, y, h => .inl (Option.some.inj h).symm
  | 6, y, h => .inr ((.inr (.inl ⟨rfl, (Option.some.inj h).symm⟩)))
  | 7, y, h => .inr ((.inr (.inr (.inl ⟨rfl, (Option.some.inj h).symm⟩))))
  | 8, y, h => .inr ((.inr (.inr (.inr (.inl ⟨rfl, (Option.some.inj h).symm⟩)))))
  | 9, y, h => .inr ((.inr (.inr (.inr (.inr (.inl ⟨rfl, (Option.some.inj h).symm⟩))))))
  | 10, y, h => .inl (Option.some.inj h).symm
  | 11, y, h => .inl (Option.some.inj h).symm
  | 12, y, h => .inl (Option.some.inj h).symm
  | 13, y, h => .inl (Option.some.inj h).symm
  | 14, y, h => .inr ((.inr (.inr (.inr (.inr (.inr ⟨rfl, (Option.some.inj h).symm⟩))))))
  | t + 15, y, h => .inl (by
      have h : (List.replicate 23 topA)[t]? = some y := h
      rw [List.getElem?_replicate] at h
      split at h
      · exact (Option.some.inj h).symm
      · cases h)
theorem shR_simple : simpleC shR = true := by kernel_rfl
theorem shR_dsts : (dsts shR).all (fun t => decide (17 ≤ t)) = true := by kernel_rfl
set_option maxRecDepth 100000 in
set_option maxHeartbeats 4000000 in
theorem sh_round {F : Nat → Prop} {n0 : Nat} {w0 : World} {a4 a1 : Act} {W : World} {E : Env} {a : List Int} {b i x : Int} {q : List Int} {r : Int} {l n : Nat} (hF : ∀ n, n0 ≤ n → F n) (hR : Rel (mkD [] F fun _ => False) n0 w0 E ⟨shS a, shH b q r⟩ a4 W)
    (hb : IntKind.u64.wrap b ≠ 0) (hi : 0 ≤ i) (hl : i < (q.length : Int)) (hd : a1.defers = []) (hsz : a1.tmps.size = a4.tmps.size) (hk : ∀ t, t ≠ 8 → t ≠ 9 → t ≠ 15 → t ≠ 16 → a1.tmps[t]? = a4.tmps[t]?) (h8 : a1.tmps[8]? = some (.int .i64 i)) (h9 : a1.tmps[9]? = some (.int .u32 x)) :
    (Code.block 1 shR).wpIn (FR (some l)) n Try.prog (fun e _ W' => e = .normal ∧ KeepsOthers W W' ∧ (∀ k, k < W.heap.size → ¬ E.A k → W'.heap[k]? = W.heap[k]?) ∧
      ∃ E', Rel (mkD [] F fun _ => False) n0 w0 E' ⟨shS a, shH b (n_short_st b (q, r) (i, x)).1 (n_short_st b (q, r) (i, x)).2⟩ a4 W') a1 W := by
  have hS1 : Rel (mkD [] F fun _ => False) n0 w0 E ⟨shS1 a i x, shH b q r⟩ a1 W := by
    refine hR.re (m := 0) (slots_keep hR.slots ?_ ?_) hd (by simp)
    · have := hR.slots.1
      simp at this
      rw [hsz, ← this]; rfl
    · intro t y hy
      rcases shS1_get t y hy with h | ⟨rfl, rfl⟩ | ⟨rfl, rfl⟩ | ⟨rfl, rfl⟩ | ⟨rfl, rfl⟩ | ⟨rfl, rfl⟩ | ⟨rfl, rfl⟩
      · exact .inl h
      · exact .inr (.inl ⟨rfl, (hk 3 (by decide) (by decide) (by decide) (by decide)).symm⟩)
      · exact .inr (.inl ⟨rfl, (hk 6 (by decide) (by decide) (by decide) (by decide)).symm⟩)
      · exact .inr (.inl ⟨rfl, (hk 7 (by decide) (by decide) (by decide) (by decide)).symm⟩)
      · exact .inr (.inr ⟨_, h8, rfl⟩)
      · exact .inr (.inr ⟨_, h9, rfl⟩)
      · exact .inr (.inl ⟨rfl, (hk 14 (by decide) (by decide) (by decide) (by decide)).symm⟩)
  have h2 := hS1.rebase (T' := [])
  have hkc := fun m (hm : keyed E ⟨shS1 a i x, shH b q r⟩ m) => keyed_cells hS1 hm
  generalize keyed E ⟨shS1 a i x, shH b q r⟩ = Y at h2 hkc
  have hev : evC Try.prog (mkD [] F Y) noL 60 shR ⟨shS1 a i x, shH b q r⟩ (fun y s => y = .nrm ∧ s = ⟨shR1 a b i x r, shH b (n_short_st b (q, r) (i, x)).1 (n_short_st b (q, r) (i, x)).2 ++ List.replicate 20 none⟩) := by
    rw [← preE_eq, shR_ev]
    have hb' : (!(IntKind.u64.wrap b == 0)) = true := by simp [hb]
    have hi' : (decide (0 ≤ i) && decide (i < (q.length : Int))) = true := by simp [hi, hl]
    rw [hb', hi']
    exact ⟨rfl, rfl⟩
  have hC : CtxOK Try.prog (mkD [] F Y) := mkD_ok AllGood.nil F Y
  have h3a := evC_in (P := Try.prog) (C := mkD [] F Y) (L := noL) (u := 60) (B := W.heap.size) (w0 := W) (r := some l) (n := n) (ds := []) mixed hC shR shR_simple ⟨shS1 a i x, shH b q r⟩ _ hev
  have h3b : EWi Try.prog (mkD [] F Y) W.heap.size W (some l) n [] shR (dsts shR) ⟨shS1 a i x, shH b q r⟩ (fun y s => match y with
    | .nrm => (fun (y : Ev.X) s => y = .nrm ∧ s = ⟨shR1 a b i x r, shH b (n_short_st b (q, r) (i, x)).1 (n_short_st b (q, r) (i, x)).2 ++ List.replicate 20 none⟩) .nrm s
    | _ => False) := EWi.mono h3a (fun y s h => by obtain ⟨rfl, rfl⟩ := h; exact ⟨rfl, rfl⟩)
  have h3 := EWi.blockN (id := 1) (k := fun y s => y = .nrm ∧ s = ⟨shR1 a b i x r, shH b (n_short_st b (q, r) (i, x)).1 (n_short_st b (q, r) (i, x)).2 ++ List.replicate 20 none⟩) h3b _ a1 W h2
  rw [plus_nil] at h3
  refine wpIn_mono h3 ?_
  rintro e a' W' ⟨y, E', s', a1', rfl, rfl, hr, hkeep, hy⟩
  obtain ⟨rfl, rfl⟩ := hy
  have hkp : ∀ t, t < 17 → a1'.tmps[t]? = a1.tmps[t]? := fun t ht => hkeep t fun hm => by
    have := of_decide_eq_true (List.all_eq_true.1 shR_dsts t hm)
    omega
  have hEX : ∀ m, E.X m → False := fun m hm => by rw [hR.ok.eX] at hm; exact hm
  have hYn : ∀ m, Y m → n0 ≤ m := fun m hm => by
    rcases (hS1.lo m (hkc m hm).1).1 with h | h
    · exact h
    · exact (hEX m h).elim
  have hb2 := hr.below
  rw [hr.ok.eX] at hb2
  refine ⟨rfl, ⟨hb2.size, fun k o hk' ho => ?_⟩, fun k hk' hA => hb2.block k hk' fun hY' => hA (hkc k hY').1, ?_⟩
  · rw [hb2.block k (heap_get_lt hk') fun hY' => by
      obtain ⟨_, vs, e, f, hc⟩ := hkc k hY'
      rw [hk'] at hc; cases hc; cases ho]
    exact hk'
  · have hbl := hR.below
    rw [hR.ok.eX] at hbl
    have h5 := hr.unbase (T' := []) hF hYn hbl hR.base
    refine ⟨_, h5.re (m := 20) (slots_keep h5.slots ?_ ?_) hR.defers rfl⟩
    · have := hR.slots.1
      simpa using this
    · intro t y hy
      rcases shS_get t y hy with h | ⟨rfl, rfl⟩ | ⟨rfl, rfl⟩ | ⟨rfl, rfl⟩ | ⟨rfl, rfl⟩
      · exact .inl h
      · exact .inr (.inl ⟨rfl, (hkp 3 (by decide)).trans (hk 3 (by decide) (by decide) (by decide) (by decide))⟩)
      · exact .inr (.inl ⟨rfl, (hkp 6 (by decide)).trans (hk 6 (by decide) (by decide) (by decide) (by decide))⟩)
      · exact .inr (.inl ⟨rfl, (hkp 7 (by decide)).trans (hk 7 (by decide) (by decide) (by decide) (by decide))⟩)
      · exact .inr (.inl ⟨rfl, (hkp 14 (by decide)).trans (hk 14 (by decide) (by decide) (by decide) (by decide))⟩)
def shF (a : List Int) (b : Int) (pre : List (Fin a.length)) : List Int × Int := (pre.map fun j => ((j.val : Int), a.getD j.val 0)).foldl (n_short_st b) (List.replicate a.length 0, 0)
theorem shF_snoc {a : List Int} {b : Int} {pre : List (Fin a.length)} {j : Fin a.length} : shF a b (pre ++ [j]) = n_short_st b (shF a b pre) ((j.val : Int), a.getD j.val 0) := by simp [shF, List.foldl_append]
theorem shF_len {a : List Int} {b : Int} {pre : List (Fin a.length)} : (shF a b pre).1.length = a.length := by
  have h : ∀ (l : List (Int × Int)) (s : List Int × Int), (l.foldl (n_short_st b) s).1.length = s.1.length := by
    intro l
    induction l with
    | nil => intro s; rfl
    | cons y l ih => intro s; rw [List.foldl_cons, ih]; simp [n_short_st]
  unfold shF
  rw [h]; simp
theorem shF_all {a : List Int} {b : Int} : shF a b (bwf a.length) = n_short_f a b := by
  unfold shF n_short_f
  rw [bwf_bwd]
theorem assign_in {F : Fence} {n : Nat} {P : Program} {id d t : Nat} {ty : TypeId} {pos : String} {Q : Exit → Act → World → Prop} {a : Act} {w : World} (h : Q .normal (a.put (some d) (a.eval (.tmp t))) w) :
    (Code.region id #[{ dst := some d, op := .assign (.tmp t), type := ty, pos := pos, after := #[], guard := none }] false).wpIn F n P Q a w := by
  refine wpIn_region ?_
  show wpOpsIn F n P _ Q [0] a w
  have e : Oper.semAt F.round a.eval { dst := some d, op := .assign (.tmp t), type := ty, pos := pos, after := #[], guard := none } = execOp a.eval { dst := some d, op := .assign (.tmp t), type := ty, pos := pos, after := #[], guard := none } := by
    cases F.round with
    | none => rfl
    | some l => exact Oper.semAt_some l _ _ (fun c h => by cases h)
  simp only [wpOpsIn, List.getElem?_toArray, List.getElem?_cons_zero]
  rw [if_pos (by simp [Region.wanted])]
  refine ⟨fun f hf => by simp [Oper.about] at hf, ?_⟩
  rw [e]
  exact h
theorem shA_eq2 : shA = .seq (.region 4 #[{ dst := some 8, op := .assign (.tmp 15), type := 3, pos := "nat.go:153", after := #[], guard := none }] false) (.region 5 #[{ dst := some 9, op := .assign (.tmp 16), type := 118, pos := "nat.go:153", after := #[], guard := none }] false) := by kernel_rfl
theorem step_in {P : Program} {C : Ctx} {B : Nat} {w0 : World} {r : Option Nat} {n : Nat} (hm : P.follows .mixedOrders = true) (hC : CtxOK P C) {c rest d : Code} {s : St} {K : Ev.X → St → Prop} (hs : simpleC c = true) (h : evC P C noL 60 (.seq c rest) s K) {Q : Exit → Act → World → Prop} {E : Env} {a : Act} {w : World}
    (hr : Rel C B w0 E s a w) (hx : ∀ y s', y ≠ .nrm → ¬ K y s') (next : ∀ E' a' w' s', Rel C B w0 E' s' a' w' → evC P C noL 60 rest s' K → d.wpIn (FR r) n P Q a' w') : (Code.seq c d).wpIn (FR r) n P Q a w := by
  have h1 := evC_in (B := B) (w0 := w0) (r := r) (n := n) (ds := []) hm hC c hs s _ h E a w hr
  rw [plus_nil] at h1
  refine wpIn_seq (wpIn_mono h1 ?_)
  rintro e a' w' ⟨y, E', s', a1, rfl, rfl, hr', _, hy⟩
  rw [plus_nil]
  cases y with
  | nrm => exact next _ _ _ _ hr' hy
  | ex id => exact (hx _ _ (by simp) hy).elim
  | ret => exact (hx _ _ (by simp) hy).elim
theorem last_in {P : Program} {C : Ctx} {B : Nat} {w0 : World} {r : Option Nat} {n : Nat} (hm : P.follows .mixedOrders = true) (hC : CtxOK P C) {c d : Code} {s : St} {K : Ev.X → St → Prop} (hs : simpleC c = true) (h : evC P C noL 60 c s K) {Q : Exit → Act → World → Prop} {E : Env} {a : Act} {w : World}
    (hr : Rel C B w0 E s a w) (hx : ∀ y s', y ≠ .nrm → ¬ K y s') (next : ∀ E' a' w' s', Rel C B w0 E' s' a' w' → K .nrm s' → d.wpIn (FR r) n P Q a' w') : (Code.seq c d).wpIn (FR r) n P Q a w := by
  have h1 := evC_in (B := B) (w0 := w0) (r := r) (n := n) (ds := []) hm hC c hs s _ h E a w hr
  rw [plus_nil] at h1
  refine wpIn_seq (wpIn_mono h1 ?_)
  rintro e a' w' ⟨y, E', s', a1, rfl, rfl, hr', _, hy⟩
  rw [plus_nil]
  cases y with
  | nrm => exact next _ _ _ _ hr' hy
  | ex id => exact (hx _ _ (by simp) hy).elim
  | ret => exact (hx _ _ (by simp) hy).elim
def shAct (a4 : Act) (v u : Value) : Act :=
  let A : Act := { tmps := (a4.tmps.setIfInBounds 15 v).setIfInBounds 16 u, defers := [] }
  let A' := A.put (some 8) (A.eval (.tmp 15))
  A'.put (some 9) (A'.eval (.tmp 16))
theorem shAct_facts {a4 : Act} {v u : Value} (h : a4.tmps.size = 38) : (shAct a4 v u).defers = [] ∧ (shAct a4 v u).tmps.size = a4.tmps.size ∧ (∀ t, t ≠ 8 → t ≠ 9 → t ≠ 15 → t ≠ 16 → (shAct a4 v u).tmps[t]? = a4.tmps[t]?) ∧ (shAct a4 v u).tmps[8]? = some v ∧ (shAct a4 v u).tmps[9]? = some u := by
  refine ⟨rfl, by simp [shAct, Act.put], fun t h1 h2 h3 h4 => ?_, ?_, ?_⟩
  · simp [shAct, Act.put, h1.symm, h2.symm, h3.symm, h4.symm]
  · simp [shAct, Act.put, Act.eval, h]
  · simp [shAct, Act.put, Act.eval, h]
theorem shc_simple : simpleC shc0 = true ∧ simpleC shc1 = true ∧ simpleC shc2 = true ∧ simpleC shc3 = true := ⟨by kernel_rfl, by kernel_rfl, by kernel_rfl, by kernel_rfl⟩
theorem shO_noDef : noDef shO = true := by kernel_rfl
set_option maxRecDepth 100000 in
set_option maxHeartbeats 4000000 in
theorem sh_loop {F : Nat → Prop} {w0 w4 : World} {a4 : Act} {E4 : Env} {a : List Int} {b : Int} (hF : ∀ n, w0.heap.size ≤ n ↔ F n) (hlen : a.length ≤ 70368744177664) (hb : IntKind.u64.wrap b ≠ 0)
    (h4 : Rel (mkD shT0 F fun _ => False) w0.heap.size w0 E4 ⟨shL a b, shH b (List.replicate a.length 0) 0 ++ List.replicate 3 none⟩ a4 w4) {Q : Exit → Act → World → Prop}
    (hQ : ∀ D E W, w0.heap.size ≤ D → W.heap[D]? = some (.deferred (some [])) → Rel (mkD [] F fun _ => False) w0.heap.size w0 E ⟨shS a, shH b (n_short_f a b).1 (n_short_f a b).2⟩ a4 W → Q .normal { a4 with defers := { target := .collected D, args := #[] } :: a4.defers } W) :
    (Code.block 0 (.rangeFunc (.tmp 14) #[15, 16] shA (.block 1 shR))).wpIn (FR none) 5 Try.prog Q a4 w4 := by
  have hsz : a4.tmps.size = 38 := by
    have := h4.slots.1
    simpa [shL] using this.symm
  have h14 : AV.rel (mkD shT0 F fun _ => False) E4 w4 (.one false [.clv 151 [.int .u32 a]]) (a4.eval (.tmp 14)) := h4.eval (x := .tmp 14) rfl
  obtain ⟨ps, hg, hps⟩ : ∃ ps : List Value, a4.eval (.tmp 14) = .func (.func 151) #[] ps.toArray ∧ AllR (PvcR E4 w4) [.int .u32 a] ps := h14
  obtain ⟨p, ps', rfl, hp, hr⟩ := hps.uncons
  have := hr.unnil
  subst this
  obtain ⟨Bs, po, u, rfl, hBA, hBl, hBc, hvec⟩ := hp
  obtain ⟨ao, cap, rfl, hcap, hnil, hcells⟩ := hvec
  have hlen' : (VL.int .u32 a).len = a.length := rfl
  rw [hlen'] at hcap hcells hBc
  let G : Nat → Prop := fun k => k < w4.heap.size ∧ (k = Bs ∨ (a.length ≠ 0 ∧ ∃ off, ao = some ⟨k, off, none⟩))
  have hGA : ∀ E W pre, Rel (mkD [] F fun _ => False) w0.heap.size w0 E ⟨shS a, shH b (shF a b pre).1 (shF a b pre).2⟩ a4 W → W.cell? ⟨Bs, po, none⟩ = some (.slice ao a.length cap) → ∀ k, G k → ¬ E.A k := by
    intro E W pre hR hc k hk
    have h14 : AV.rel (mkD [] F fun _ => False) E W (.one false [.clv 151 [.int .u32 a]]) (a4.eval (.tmp 14)) := hR.eval (x := .tmp 14) rfl
    rw [hg] at h14
    obtain ⟨ps, hg', hps⟩ : ∃ ps : List Value, _ = Value.func (.func 151) #[] ps.toArray ∧ AllR (PvcR E W) [.int .u32 a] ps := h14
    have : ps = [.pointer (some ⟨Bs, po, none⟩)] := by
      injection hg' with _ _ h3
      have := congrArg Array.toList h3
      simpa using this.symm
    subst this
    obtain ⟨p, ps', hpp, hp, _⟩ := hps.uncons
    cases hpp
    obtain ⟨B', o', u', hpe, hA', _, hc', hv'⟩ := hp
    cases hpe
    rw [hc] at hc'
    cases hc'
    rcases hk.2 with rfl | ⟨hne, off, rfl⟩
    · exact hA'
    · obtain ⟨ao', cap', he, _, _, hcs⟩ := hv'
      cases he
      rcases hcs with h0 | ⟨b', off', he, hG', _⟩
      · exact absurd h0 hne
      · cases he; exact hG'.1
  refine wpIn_block (wpIn_rangeFunc_ownF (F := FR none) rfl (by omega) (gf := 151) (lb := #[.pointer (some ⟨Bs, po, none⟩)]) hg trivial (enters_of Try.func151 (by kernel_rfl) rfl)
    (back_stops (FR none) (5 - 1) trivial rfl (by omega) Bs po cap ao a hlen G w4 hBc (fun k hk => hk.1) ⟨hBl, .inl rfl⟩ ?cells) Kp2.trans (Kp2.put fun k hk => hk.1) (Below.refl _ _) (fun _ => rfl)
    (fun pre W => ∃ E, Rel (mkD [] F fun _ => False) w0.heap.size w0 E ⟨shS a, shH b (shF a b pre).1 (shF a b pre).2⟩ a4 W ∧ W.cell? ⟨Bs, po, none⟩ = some (.slice ao a.length cap) ∧ w4.heap.size ≤ W.heap.size)
    (fun _ _ _ => False) ?hI ?hIx ?h0 (fun j => shAct a4 (.int .i64 (j.val : Int)) (.int .u32 (a.getD j.val 0))) ?assign ?body ?done ?stop)
  case cells =>
    rcases hcells with h | ⟨b', off, rfl, hG', hlt, hrd⟩
    · exact .inl h
    · by_cases hz : a.length = 0
      · exact .inl hz
      · refine .inr ⟨b', off, rfl, ⟨hlt, .inr ⟨hz, off, rfl⟩⟩, fun j hj => ?_⟩
        obtain ⟨v, hv, hc⟩ := hrd j hj 0 (.int .u32 (a.getD j 0)) rfl
        have hc : v = .int .u32 (a.getD j 0) := hc
        rw [← hc, ← hv]
        simp [VL.wd]
  case hI =>
    rintro s W W' row ⟨E, hE, hc, hsz'⟩ hg' hr'
    exact ⟨E, hE.turn hg' (fun r e => ⟨Nat.le_trans h4.base (hr' r e).1, (hr' r e).2⟩), cell_kept hc hg' (fun r e => (hr' r e).2), Nat.le_trans hsz' hg'.size⟩
  case hIx => exact fun _ _ _ _ _ h _ _ => h
  case h0 =>
    have hbl := h4.below
    rw [h4.ok.eX] at hbl
    have hEX : ∀ m, E4.X m → False := fun m hm => by rw [h4.ok.eX] at hm; exact hm
    have h5 := (h4.rebase (T' := [])).unbase (T' := []) (fun n hn => (hF n).1 hn) (fun m hm => by
      rcases (h4.lo m (keyed_cells h4 hm).1).1 with h | h
      · exact h
      · exact (hEX m h).elim) hbl h4.base
    refine ⟨_, h5.re (m := 3) (slots_keep h5.slots ?_ ?_) h4.defers rfl, hBc, Nat.le_refl _⟩
    · rw [hsz]; rfl
    · intro t y hy
      rcases shS_get t y hy with h | ⟨rfl, rfl⟩ | ⟨rfl, rfl⟩ | ⟨rfl, rfl⟩ | ⟨rfl, rfl⟩
      · exact .inl h
      · exact .inr (.inl ⟨rfl, rfl⟩)
      · exact .inr (.inl ⟨rfl, rfl⟩)
      · exact .inr (.inl ⟨rfl, rfl⟩)
      · exact .inr (.inl ⟨rfl, rfl⟩)
  case assign =>
    intro l j W K hK
    rw [shA_eq2]
    have e : (((#[15, 16] : Array Tmp).zip #[Value.int .i64 (j.val : Int), Value.int .u32 (a.getD j.val 0)]).foldl (fun t (p, v) => t.setIfInBounds p v) a4.tmps) = (a4.tmps.setIfInBounds 15 (Value.int .i64 (j.val : Int))).setIfInBounds 16 (Value.int .u32 (a.getD j.val 0)) := by simp
    rw [e]
    exact wpIn_seq (assign_in (wpIn_mono (assign_in (Q := fun e a w => e = .normal ∧ K a w) ⟨rfl, hK⟩) (by rintro e a w ⟨rfl, h⟩; exact h)))
  case body =>
    rintro l pre j W ⟨E, hE, hc, hsz'⟩ _
    have hf := shAct_facts (v := .int .i64 (j.val : Int)) (u := .int .u32 (a.getD j.val 0)) hsz
    refine wpIn_mono (sh_round (fun n hn => (hF n).1 hn) hE hb (i := (j.val : Int)) (x := a.getD j.val 0) (by omega) (by rw [shF_len]; have := j.isLt; omega) hf.1 hf.2.1 hf.2.2.1 hf.2.2.2.1 hf.2.2.2.2) ?_
    rintro e a' W' ⟨rfl, hko, hkeep, E', hE'⟩
    have hlt : ∀ k, G k → k < W.heap.size := fun k hk => Nat.lt_of_lt_of_le hk.1 hsz'
    refine ⟨hko, fun k hk => hkeep k (hlt k hk) (hGA E W pre hE hc k hk), E', ?_, ?_, Nat.le_trans hsz' hko.size⟩
    · rw [shF_snoc]; exact hE'
    · exact (World.cell?_of_block (w := W) (hkeep Bs (hlt Bs ⟨hBl, .inl rfl⟩) (hGA E W pre hE hc Bs ⟨hBl, .inl rfl⟩))).trans hc
  case done =>
    rintro D ys W hD rfl ⟨E, hE, _⟩ hK
    rw [shF_all] at hE
    exact hQ D E W (Nat.le_trans h4.base hD) hK hE
  case stop => intro D c pre W _ _ h; exact h.elim
set_option maxRecDepth 100000 in
set_option maxHeartbeats 400000 in
theorem n_short_c (x : List Int × Int) (hs : n_short_s x.1 x.2 = true) (w : World) (vs : Array Value) (hp : ArgsR ((aCons (cInts .u32) (aOne (cInt .u32))).enc false x) w vs) :
    Calls Try.prog 135 vs w (Ans ((o2 (cInts .u32) (cInts .u32)).enc (n_short x.1 x.2)) w) := by
  obtain ⟨a, b⟩ := x
  simp only [n_short_s, Bool.and_eq_true, Bool.not_eq_true', beq_eq_false_iff_ne, decide_eq_true_eq] at hs
  obtain ⟨hlen, hb, ht, hn⟩ := hs
  refine (callsIn_wide (n := 5)).1 ?_
  change CallsIn (FR none) 5 Try.prog 135 vs w _
  refine callsIn_of_wp_marks Try.func135 sh0_eq trivial ?_ rfl
  rw [Try.ntmps135]
  let F : Nat → Prop := fun n => w.heap.size ≤ n
  have hargs : AllR (AV.rel (mkD shT0 F fun _ => False) (ES F) w) ((aCons (cInts .u32) (aOne (cInt .u32))).enc false (a, b)) vs.toList := hp.mono fun x v _ h => h _ _ fun n _ => ⟨fun h => h, fun e => by cases e⟩
  have hrel : Rel (mkD shT0 F fun _ => False) w.heap.size w (ES F) (Ev.start ((aCons (cInts .u32) (aOne (cInt .u32))).enc false (a, b)) 38) { tmps := vs ++ Array.replicate (38 - vs.size) undef, defers := [] } w := by
    refine { slots := start_slots hargs, defers := rfl, heap := ?_, free := fun _ _ => ⟨rfl, rfl⟩, lo := fun n h => h.elim, inj := ?_, below := BelowX.refl _ _ _, base := Nat.le_refl _, ok := ⟨fun _ h => h, fun _ h => h.elim, rfl, rfl, fun v hv => by cases hv⟩ }
    · intro k b hk; simp [Ev.start] at hk
    · intro k k' b b' n hk; simp [Ev.start] at hk
  generalize ({ tmps := vs ++ Array.replicate (38 - vs.size) undef, defers := [] } : Act) = a0 at hrel ⊢
  have hK : evC Try.prog (mkD shT0 F fun _ => False) noL 60 shP (Ev.start ((aCons (cInts .u32) (aOne (cInt .u32))).enc false (a, b)) 38) (fun y s => y = .nrm ∧ s = ⟨shL a b, shH b (List.replicate a.length 0) 0 ++ List.replicate 3 none⟩) := by
    rw [← preE_eq, shP_ev]
    have e : (decide ((a.length : Int) ≤ a.length) && decide (4 * (a.length : Int) ≤ 281474976710656)) = true := by simp [hlen]
    rw [e]
    exact ⟨rfl, by rw [Int.toNat_natCast]⟩
  generalize Ev.start ((aCons (cInts .u32) (aOne (cInt .u32))).enc false (a, b)) 38 = s0 at hK hrel
  have hno : ∀ (y : Ev.X) (s' : St), y ≠ .nrm → ¬ (y = .nrm ∧ s' = ⟨shL a b, shH b (List.replicate a.length 0) 0 ++ List.replicate 3 none⟩) := fun y s' h h' => h h'.1
  have hC : CtxOK Try.prog (mkD shT0 F fun _ => False) := mkD_ok (AllGood.consW back_ok AllGood.nil) F _
  refine step_in mixed hC shc_simple.1 hK hrel hno fun E1 a1 w1 s1 hr1 hK1 => ?_
  refine step_in mixed hC shc_simple.2.1 hK1 hr1 hno fun E2 a2 w2 s2 hr2 hK2 => ?_
  refine step_in mixed hC shc_simple.2.2.1 hK2 hr2 hno fun E3 a3 w3 s3 hr3 hK3 => ?_
  refine wpIn_seq (last_in mixed hC shc_simple.2.2.2 hK3 hr3 hno fun E4 a4 w4 s4 hr4 hK4 => ?_)
  obtain ⟨_, rfl⟩ := hK4
  refine sh_loop (F := F) (fun n => Iff.rfl) (by omega) hb hr4 fun D E W hD hK hE => ?_
  show (Code.seq _ _).wpIn _ _ _ _ _ _
  have hbl := hE.below
  rw [hE.ok.eX] at hbl
  have hEX : ∀ m, E.X m → False := fun m hm => by rw [hE.ok.eX] at hm; exact hm
  have hreb := hE.rebase (T' := shT1)
  have hkc := fun m (hm : keyed E ⟨shS a, shH b (n_short_f a b).1 (n_short_f a b).2⟩ m) => keyed_cells hE hm
  have hYn : ∀ m, keyed E ⟨shS a, shH b (n_short_f a b).1 (n_short_f a b).2⟩ m → w.heap.size ≤ m := fun m hm => by
    rcases (hE.lo m (hkc m hm).1).1 with h | h
    · exact h
    · exact (hEX m h).elim
  generalize keyed E ⟨shS a, shH b (n_short_f a b).1 (n_short_f a b).2⟩ = Y at hreb hkc hYn
  have hC1 : CtxOK Try.prog (mkD shT1 F Y) := mkD_ok (AllGood.consW n_trim_ok (AllGood.cons n_New_ok AllGood.nil)) F Y
  have h6 := shO_run (Q := fun v => v = (o2 (cInts .u32) (cInts .u32)).enc (n_short a b)) (a := a) (b := b) (q := (n_short_f a b).1) (r := (n_short_f a b).2) (B := W.heap.size) (w0 := W) (n := 5) (ds := [{ target := .collected D, args := #[] }]) hC1 shO_noDef ht hn rfl _ a4 W hreb
  have hds : a4.defers = [] := hE.defers
  have hpl : plus a4 [{ target := .collected D, args := #[] }] = { a4 with defers := { target := .collected D, args := #[] } :: a4.defers } := by simp [plus, hds]
  rw [hpl] at h6
  refine wpIn_seq (wpIn_mono h6 ?_)
  rintro e a' W' ⟨y, E', s', a5, rfl, rfl, hr5, _, hy⟩
  cases y with
  | ex id => exact hy.elim
  | ret => exact hy.elim
  | nrm =>
  refine wpIn_ret ?_
  have hy : fin Try.prog Try.f135.results.toList Try.f135.resultTypes.toList (fun v => v = (o2 (cInts .u32) (cInts .u32)).enc (n_short a b)) .ret s' := hy
  obtain ⟨_, r, hres, rfl⟩ := fin_spec hy
  have hb5 := hr5.below
  rw [hr5.ok.eX] at hb5
  have hDl := heap_get_lt hK
  have hK5 : W'.heap[D]? = some (.deferred (some [])) := by
    rw [hb5.block D hDl fun hY => by
      obtain ⟨_, vs, e, f, hc⟩ := hkc D hY
      rw [hK] at hc; cases hc]
    exact hK
  have h7 := hr5.unbase (T' := []) (fun n hn => hn) hYn hbl hE.base
  have h8 := h7.turn (grownBy_putObj' W' D (.deferred none)) (fun r e => by cases e; exact ⟨hD, _, hK5, rfl⟩)
  have hdef : (plus a5 [{ target := .collected D, args := #[] }]).defers = [{ target := .collected D, args := #[] }] := by simp [plus, hr5.defers]
  show LeavesInM _ _ _ _ _ _ _ _ _
  rw [hdef]
  refine ⟨by simp, .inl ⟨D, _, rfl, run_takeDeferred hK5, ?_⟩⟩
  unfold resOut at hres
  simp only [Option.bind_eq_some_iff] at hres
  obtain ⟨r0, hr0, hout⟩ := hres
  obtain ⟨u, hu, hur⟩ := resS_spec (P := Try.prog) h8 hr0
  have hO : InG true F (W'.putObj D (.deferred none)) ((o2 (cInts .u32) (cInts .u32)).enc (n_short a b)) u := by
    have := outA_spec (P := Try.prog) (rd_rel h8 (fun _ => true)) (fun n hn => ⟨by
      rcases (h8.lo n hn).1 with h1 | h1
      · exact h8.ok.F n h1
      · exact h1.elim, (h8.lo n hn).2⟩) hout hur
    rwa [h8.ok.eF] at this
  refine ⟨u, hu, u, rfl, hO, ?_⟩
  exact h8.below.to (fun n hn => hn)
theorem n_short_ok : GoodF Try.prog 135 (sumOf (aCons (cInts .u32) (aOne (cInt .u32))) (fun x => n_short_s x.1 x.2) fun x => (o2 (cInts .u32) (cInts .u32)).enc (n_short x.1 x.2)) :=
  good_sum (callable_of Try.func135 (by kernel_rfl) (by kernel_rfl)) n_short_c
end Go.Proofs.Ytdkbeajkedffeaa
