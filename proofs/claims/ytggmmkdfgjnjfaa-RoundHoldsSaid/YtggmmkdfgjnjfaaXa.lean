/- Layer 1: contracts of the functions. Conditions: as each theorem states. -/
import Derived.Test.YtggmmkdfgjnjfaaEd
import Derived.Test.YtggmmkdfgjnjfaaWd
import Derived.Test.YtggmmkdfgjnjfaaRows
namespace Go.Proofs.Ytggmmkdfgjnjfaa
open Go.Ev Go.Fb
theorem mixed : Try.prog.follows .mixedOrders = true := by kernel_rfl
theorem bits_Len64_ev (F : Nat → Prop)  (x : Int) (Q : AV → Prop) : evF Try.prog (mkC ([]) F) noL 60 Try.f200 ((aOne (cInt .u64)).enc false x) Q = (bits_Len64_T  x).prop (fun x => Q ((o1 (cInt .i64)).enc x)) := by kernel_rfl
theorem bits_Len64_safe (x : Int) : (bits_Len64_t x).safe = true := by
  have e : (len8.size : Int) = 256 := by kernel_rfl
  have h : ∀ n : Int, (decide (0 ≤ IntKind.u8.wrap n) && decide (IntKind.u8.wrap n < (len8.size : Int))) = true := fun n => by
    rw [e]
    simp only [IntKind.wrap, IntKind.bits, IntKind.signed, Bool.and_eq_true, decide_eq_true_eq]
    simp
    omega
  simp only [bits_Len64_t, bits_Len64_T, Tr.safe, h, Bool.true_and, Bool.cond_self]
theorem bits_Len64_c (x : Int) (w : World) (vs : Array Value) (hp : ArgsR ((aOne (cInt .u64)).enc false x) w vs) : Calls Try.prog 200 vs w (Ans ((o1 (cInt .i64)).enc (bits_Len64 x)) w) :=
  contractT mixed AllGood.nil Try.func200 (fun _ _ _ _ _ => noL_ok) (bits_Len64_safe x) (fun F => bits_Len64_ev F  x) w vs hp
theorem bits_Len64_ok : GoodF Try.prog 200 (sumT (aOne (cInt .u64)) fun x => (o1 (cInt .i64)).enc (bits_Len64 x)) :=
  good_sumT (callable_of Try.func200 (by kernel_rfl) (by kernel_rfl)) bits_Len64_c
theorem u2_Len_ev (F : Nat → Prop) (bits_Len64 : Int → Int) (a : U2) (Q : AV → Prop) : evF Try.prog (mkC ([(200, .s (sumT (aOne (cInt .u64)) fun x => (o1 (cInt .i64)).enc (bits_Len64 x)))]) F) noL 60 Try.f177 ((aOne (cU2)).enc false a) Q = (u2_Len_T bits_Len64 a).prop (fun x => Q ((o1 (cInt .i64)).enc x)) := by kernel_rfl
theorem u2_Len_c (x : U2) (w : World) (vs : Array Value) (hp : ArgsR ((aOne (cU2)).enc false x) w vs) : Calls Try.prog 177 vs w (Ans ((o1 (cInt .i64)).enc (u2_Len x)) w) :=
  contractT mixed (AllGood.cons bits_Len64_ok AllGood.nil) Try.func177 (fun _ _ _ _ _ => noL_ok) (Tr.safe_of (t := u2_Len_t x) rfl) (fun F => u2_Len_ev F bits_Len64 x) w vs hp
theorem u2_Len_ok : GoodF Try.prog 177 (sumT (aOne (cU2)) fun x => (o1 (cInt .i64)).enc (u2_Len x)) :=
  good_sumT (callable_of Try.func177 (by kernel_rfl) (by kernel_rfl)) u2_Len_c
def u2_Shl_L0_tm : Tm :=
  Tm.mk
    [none, some (false, [Sh.int IntKind.i64]), some (false, [Sh.ptr 0 0]), none, some (false, [Sh.ptr 1 0]), none, none,
      none, none, none, none, none, none, none, none, none, none, none, none, none, none, none, none, none, none, none,
      none, none, none, none, none, none, none, none]
    [Hs.cells 119 [Sh.int IntKind.u64, Sh.int IntKind.u64], Hs.cells 119 [Sh.int IntKind.u64, Sh.int IntKind.u64]] false
def u2_Shl_L0_of : List Pv → Option ((Int × Int) × (Int × Int × Int))
  | [.i v1, .i h0_0, .i h0_1, .i h1_0, .i h1_1] => some ((h1_0, h1_1), (v1, h0_0, h0_1))
  | _ => none
def u2_Shl_L0_to (p : Int × Int) (x : Int × Int × Int) : List Pv := [.i x.1, .i x.2.1, .i x.2.2, .i p.1, .i p.2]
theorem u2_Shl_L0_ot (l : List Pv) (p : Int × Int) (x : Int × Int × Int) (h : u2_Shl_L0_of l = some (p, x)) : u2_Shl_L0_to p x = l := by
  unfold u2_Shl_L0_of at h
  split at h
  · cases h; rfl
  · cases h
def u2_Shl_L0_dec (s : St) : Option ((Int × Int) × (Int × Int × Int)) := (u2_Shl_L0_tm.dec s).bind u2_Shl_L0_of
def u2_Shl_L0_I (p : Int × Int) (x : Int × Int × Int) : St := u2_Shl_L0_tm.enc (u2_Shl_L0_to p x)
def u2_Shl_L0_tmR : Tm :=
  Tm.mk
    [none, none, none, none, some (false, [Sh.ptr 0 0]), none, none, none, none, none, none, none, none, none, none, none,
      none, none, none, none, none, none, none, none, none, none, none, none, none, none, none, none, none, none]
    [Hs.cells 119 [Sh.int IntKind.u64, Sh.int IntKind.u64]] false
def u2_Shl_L0_ofR : List Pv → Option (Int × Int)
  | [.i h0_0, .i h0_1] => some (h0_0, h0_1)
  | _ => none
def u2_Shl_L0_toR (r : Int × Int) : List Pv := [.i r.1, .i r.2]
theorem u2_Shl_L0_otR (l : List Pv) (r : Int × Int) (h : u2_Shl_L0_ofR l = some r) : u2_Shl_L0_toR r = l := by
  unfold u2_Shl_L0_ofR at h
  split at h
  · cases h; rfl
  · cases h
def u2_Shl_L0_decR (s : St) : Option (Int × Int) := (u2_Shl_L0_tmR.dec s).bind u2_Shl_L0_ofR
def u2_Shl_L0_R (r : Int × Int) : St := u2_Shl_L0_tmR.enc (u2_Shl_L0_toR r)
theorem u2_Shl_L0_ev (F : Nat → Prop)  (h1_0 : Int) (h1_1 : Int) (v1 : Int) (h0_0 : Int) (h0_1 : Int) (Q : ((Int × Int) × (Int × Int × Int)) ⊕ (((Int × Int) × (Int × Int × Int)) ⊕ (Int × Int)) → Prop) : evC Try.prog (mkC ([]) F) noL 60 (lp Try.f193 0) (u2_Shl_L0_I (h1_0, h1_1) (v1, h0_0, h0_1)) (fun y s => onO Q (bkB 0 u2_Shl_L0_dec u2_Shl_L0_decR y s)) = (u2_Shl_L0_T  h1_0 h1_1 v1 h0_0 h0_1).prop (onB (h1_0, h1_1) Q) := by kernel_rfl
set_option maxRecDepth 100000 in
theorem u2_Shl_L0_ls {F : Nat → Prop} {B : Nat} {w0 : World} {s : St} {k : X → St → Prop} (hk : (lsB 0 u2_Shl_L0_dec u2_Shl_L0_I u2_Shl_L0_R u2_Shl_L0_ok u2_Shl_L0_rt u2_Shl_L0_v u2_Shl_L0_rv) s k) : EW Try.prog (mkC ([]) F) B w0 (.loop (lp Try.f193 0)) s k :=
  lsB_ok (fun _ _ _ h => weak_of u2_Shl_L0_ot (.inl rfl) h) (fun _ _ h => weak_ofR u2_Shl_L0_otR (.inl rfl) h) (step := u2_Shl_L0_step) (fun p x Q h => evC_spec mixed (mkC_ok AllGood.nil F) (L := noL) (u := 60) _ (loops_nil (by kernel_rfl)) _ _ (Eq.mpr (u2_Shl_L0_ev F  p.1 p.2 x.1 x.2.1 x.2.2 Q) h)) (fun _ _ h => run_okB h) hk
theorem u2_Shl_ev (F : Nat → Prop) (u2_Shl_L0_ok : (Int × Int) → (Int × Int × Int) → Bool) (u2_Shl_L0_rt : (Int × Int) → (Int × Int × Int) → Bool) (u2_Shl_L0_v : (Int × Int) → (Int × Int × Int) → Int × Int × Int) (u2_Shl_L0_rv : (Int × Int) → (Int × Int × Int) → Int × Int) (a : U2) (n : Int) (Q : AV → Prop) : evF Try.prog (mkC ([]) F) (fun id => cond (Nat.beq 1 id) (some (lsB 0 u2_Shl_L0_dec u2_Shl_L0_I u2_Shl_L0_R u2_Shl_L0_ok u2_Shl_L0_rt u2_Shl_L0_v u2_Shl_L0_rv)) (none) : Loops) 60 Try.f193 ((aCons (cU2) (aOne (cInt .i64))).enc false (a, n)) Q = (u2_Shl_T u2_Shl_L0_ok u2_Shl_L0_rt u2_Shl_L0_v u2_Shl_L0_rv a n).prop (fun x => Q ((o1 (cU2)).enc x)) := by kernel_rfl
theorem u2_Shl_c (x : U2 × Int) (hs : u2_Shl_s x.1 x.2 = true) (w : World) (vs : Array Value) (hp : ArgsR ((aCons (cU2) (aOne (cInt .i64))).enc false x) w vs) : Calls Try.prog 193 vs w (Ans ((o1 (cU2)).enc (u2_Shl x.1 x.2)) w) :=
  contractT mixed AllGood.nil Try.func193 (fun _ _ _ => loops_all (m := 1) (by kernel_rfl) (fun i hi => match i, hi with
    | 0, _ => (fun g hg s k hk => u2_Shl_L0_ls (cast (congrFun (congrFun (Option.some.inj (hg.symm.trans (by kernel_rfl))) s) k) hk))
    | (j + 1), hi => absurd hi (by omega))) hs (fun F => u2_Shl_ev F u2_Shl_L0_ok u2_Shl_L0_rt u2_Shl_L0_v u2_Shl_L0_rv x.1 x.2) w vs hp
theorem u2_Shl_ok : GoodF Try.prog 193 (sumOf (aCons (cU2) (aOne (cInt .i64))) (fun x => u2_Shl_s x.1 x.2) fun x => (o1 (cU2)).enc (u2_Shl x.1 x.2)) :=
  good_sum (callable_of Try.func193 (by kernel_rfl) (by kernel_rfl)) u2_Shl_c
def u2_Shr_L0_tm : Tm :=
  Tm.mk
    [none, some (false, [Sh.int IntKind.i64]), some (false, [Sh.ptr 0 0]), none, some (false, [Sh.ptr 1 0]),
      some (false, [Sh.bool]), some (false, [Sh.bool]), none, none, none, none, none, none, none, none, none, none, none,
      none, none, none, none, none, none, none, none, none, none, none, none, none, none, none, none, none, none, none,
      none, none, none, none, none, none, none, none, none, none, none, none, none, none, none, none]
    [Hs.cells 119 [Sh.int IntKind.u64, Sh.int IntKind.u64], Hs.cells 119 [Sh.int IntKind.u64, Sh.int IntKind.u64]] false
def u2_Shr_L0_of : List Pv → Option ((Bool × Int × Int) × (Int × Bool × Int × Int))
  | [.i v1, .b v5, .b v6, .i h0_0, .i h0_1, .i h1_0, .i h1_1] => some ((v5, h1_0, h1_1), (v1, v6, h0_0, h0_1))
  | _ => none
def u2_Shr_L0_to (p : Bool × Int × Int) (x : Int × Bool × Int × Int) : List Pv := [.i x.1, .b p.1, .b x.2.1, .i x.2.2.1, .i x.2.2.2, .i p.2.1, .i p.2.2]
theorem u2_Shr_L0_ot (l : List Pv) (p : Bool × Int × Int) (x : Int × Bool × Int × Int) (h : u2_Shr_L0_of l = some (p, x)) : u2_Shr_L0_to p x = l := by
  unfold u2_Shr_L0_of at h
  split at h
  · cases h; rfl
  · cases h
def u2_Shr_L0_dec (s : St) : Option ((Bool × Int × Int) × (Int × Bool × Int × Int)) := (u2_Shr_L0_tm.dec s).bind u2_Shr_L0_of
def u2_Shr_L0_I (p : Bool × Int × Int) (x : Int × Bool × Int × Int) : St := u2_Shr_L0_tm.enc (u2_Shr_L0_to p x)
def u2_Shr_L0_tmR : Tm :=
  Tm.mk
    [none, none, none, none, some (false, [Sh.ptr 0 0]), some (false, [Sh.bool]), none, none, none, none, none, none,
      none, none, none, none, none, none, none, none, none, none, none, none, none, none, none, none, none, none, none,
      none, none, none, none, none, none, none, none, none, none, none, none, none, none, none, none, none, none, none,
      none, none, none]
    [Hs.cells 119 [Sh.int IntKind.u64, Sh.int IntKind.u64]] false
def u2_Shr_L0_ofR : List Pv → Option (Bool × Int × Int)
  | [.b v5, .i h0_0, .i h0_1] => some (v5, h0_0, h0_1)
  | _ => none
def u2_Shr_L0_toR (r : Bool × Int × Int) : List Pv := [.b r.1, .i r.2.1, .i r.2.2]
theorem u2_Shr_L0_otR (l : List Pv) (r : Bool × Int × Int) (h : u2_Shr_L0_ofR l = some r) : u2_Shr_L0_toR r = l := by
  unfold u2_Shr_L0_ofR at h
  split at h
  · cases h; rfl
  · cases h
def u2_Shr_L0_decR (s : St) : Option (Bool × Int × Int) := (u2_Shr_L0_tmR.dec s).bind u2_Shr_L0_ofR
def u2_Shr_L0_R (r : Bool × Int × Int) : St := u2_Shr_L0_tmR.enc (u2_Shr_L0_toR r)
theorem u2_Shr_L0_ev (F : Nat → Prop)  (v5 : Bool) (h1_0 : Int) (h1_1 : Int) (v1 : Int) (v6 : Bool) (h0_0 : Int) (h0_1 : Int) (Q : ((Bool × Int × Int) × (Int × Bool × Int × Int)) ⊕ (((Bool × Int × Int) × (Int × Bool × Int × Int)) ⊕ (Bool × Int × Int)) → Prop) : evC Try.prog (mkC ([]) F) noL 60 (lp Try.f201 0) (u2_Shr_L0_I (v5, h1_0, h1_1) (v1, v6, h0_0, h0_1)) (fun y s => onO Q (bkB 0 u2_Shr_L0_dec u2_Shr_L0_decR y s)) = (u2_Shr_L0_T  v5 h1_0 h1_1 v1 v6 h0_0 h0_1).prop (onB (v5, h1_0, h1_1) Q) := by kernel_rfl
set_option maxRecDepth 100000 in
theorem u2_Shr_L0_ls {F : Nat → Prop} {B : Nat} {w0 : World} {s : St} {k : X → St → Prop} (hk : (lsB 0 u2_Shr_L0_dec u2_Shr_L0_I u2_Shr_L0_R u2_Shr_L0_ok u2_Shr_L0_rt u2_Shr_L0_v u2_Shr_L0_rv) s k) : EW Try.prog (mkC ([]) F) B w0 (.loop (lp Try.f201 0)) s k :=
  lsB_ok (fun _ _ _ h => weak_of u2_Shr_L0_ot (.inl rfl) h) (fun _ _ h => weak_ofR u2_Shr_L0_otR (.inl rfl) h) (step := u2_Shr_L0_step) (fun p x Q h => evC_spec mixed (mkC_ok AllGood.nil F) (L := noL) (u := 60) _ (loops_nil (by kernel_rfl)) _ _ (Eq.mpr (u2_Shr_L0_ev F  p.1 p.2.1 p.2.2 x.1 x.2.1 x.2.2.1 x.2.2.2 Q) h)) (fun _ _ h => run_okB h) hk
theorem u2_Shr_ev (F : Nat → Prop) (u2_Shr_L0_ok : (Bool × Int × Int) → (Int × Bool × Int × Int) → Bool) (u2_Shr_L0_rt : (Bool × Int × Int) → (Int × Bool × Int × Int) → Bool) (u2_Shr_L0_v : (Bool × Int × Int) → (Int × Bool × Int × Int) → Int × Bool × Int × Int) (u2_Shr_L0_rv : (Bool × Int × Int) → (Int × Bool × Int × Int) → Bool × Int × Int) (a : U2) (n : Int) (Q : AV → Prop) : evF Try.prog (mkC ([]) F) (fun id => cond (Nat.beq 2 id) (some (lsB 0 u2_Shr_L0_dec u2_Shr_L0_I u2_Shr_L0_R u2_Shr_L0_ok u2_Shr_L0_rt u2_Shr_L0_v u2_Shr_L0_rv)) (none) : Loops) 60 Try.f201 ((aCons (cU2) (aOne (cInt .i64))).enc false (a, n)) Q = (u2_Shr_T u2_Shr_L0_ok u2_Shr_L0_rt u2_Shr_L0_v u2_Shr_L0_rv a n).prop (fun x => Q ((o2 (cU2) (cBool)).enc x)) := by kernel_rfl
theorem u2_Shr_c (x : U2 × Int) (hs : u2_Shr_s x.1 x.2 = true) (w : World) (vs : Array Value) (hp : ArgsR ((aCons (cU2) (aOne (cInt .i64))).enc false x) w vs) : Calls Try.prog 201 vs w (Ans ((o2 (cU2) (cBool)).enc (u2_Shr x.1 x.2)) w) :=
  contractT mixed AllGood.nil Try.func201 (fun _ _ _ => loops_all (m := 1) (by kernel_rfl) (fun i hi => match i, hi with
    | 0, _ => (fun g hg s k hk => u2_Shr_L0_ls (cast (congrFun (congrFun (Option.some.inj (hg.symm.trans (by kernel_rfl))) s) k) hk))
    | (j + 1), hi => absurd hi (by omega))) hs (fun F => u2_Shr_ev F u2_Shr_L0_ok u2_Shr_L0_rt u2_Shr_L0_v u2_Shr_L0_rv x.1 x.2) w vs hp
theorem u2_Shr_ok : GoodF Try.prog 201 (sumOf (aCons (cU2) (aOne (cInt .i64))) (fun x => u2_Shr_s x.1 x.2) fun x => (o2 (cU2) (cBool)).enc (u2_Shr x.1 x.2)) :=
  good_sum (callable_of Try.func201 (by kernel_rfl) (by kernel_rfl)) u2_Shr_c
end Go.Proofs.Ytggmmkdfgjnjfaa
namespace Go.Proofs.Ytggmmkdfgjnjfaa
open Go.Ev Go.Fb
end Go.Proofs.Ytggmmkdfgjnjfaa
