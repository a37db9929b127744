/- Layer 1: contracts of the functions. Conditions: as each theorem states. -/
import Derived.Test.YtggmmkdfgjnjfaaEd
import Derived.Test.YtggmmkdfgjnjfaaWd
import Derived.Test.YtggmmkdfgjnjfaaRows
namespace Go.Proofs.Ytggmmkdfgjnjfaa
open Go.Ev Go.Fb
theorem mixed : Try.prog.follows .mixedOrders = true := by kernel_rfl
theorem bits_Len64_ev (F : Nat → Prop)  (x : Int) (Q : AV → Prop) : evF Try.prog (mkC ([]) F) noL 60 Try.f200 ((aOne (cInt .u64)).enc false x) Q = (bits_Len64_T  x).prop (fun x => Q ((o1 (cInt .i64)).enc x)) := by kernel_rfl
theorem bits_Len64_safe (x : Int) : (bits_Len64_t x).safe = true := by
  have e : (len8.size : Int) = 256 := by kernel_rfl
  have h : ∀ n : Int, (decide (0 ≤ IntKind.u8.wrap n) && decide (IntKind.u8.wrap n < (len8.size : Int))) = true := fun n => by
    rw [e]
    simp only [IntKind.wrap, IntKind.bits, IntKind.signed, Bool.and_eq_true, decide_eq_true_eq]
    simp
    omega
  simp only [bits_Len64_t, bits_Len64_T, Tr.safe, h, Bool.true_and, Bool.cond_self]
theorem bits_Len64_c (x : Int) (w : World) (vs : Array Value) (hp : ArgsR ((aOne (cInt .u64)).enc false x) w vs) : Calls Try.prog 200 vs w (Ans ((o1 (cInt .i64)).enc (bits_Len64 x)) w) :=
  contractT mixed AllGood.nil Try.func200 (fun _ _ _ _ _ => noL_ok) (bits_Len64_safe x) (fun F => bits_Len64_ev F  x) w vs hp
theorem bits_Len64_ok : GoodF Try.prog 200 (sumT (aOne (cInt .u64)) fun x => (o1 (cInt .i64)).enc (bits_Len64 x)) :=
  good_sumT (callable_of Try.func200 (by kernel_rfl) (by kernel_rfl)) bits_Len64_c
theorem u2_Len_ev (F : Nat → Prop) (bits_Len64 : Int → Int) (a : U2) (Q : AV → Prop) : evF Try.prog (mkC ([(200, .s (sumT (aOne (cInt .u64)) fun x => (o1 (cInt .i64)).enc (bits_Len64 x)))]) F) noL 60 Try.f177 ((aOne (cU2)).enc false a) Q = (u2_Len_T bits_Len64 a).prop (fun x => Q ((o1 (cInt .i64)).enc x)) := by kernel_rfl
theorem u2_Len_c (x : U2) (w : World) (vs : Array Value) (hp : ArgsR ((aOne (cU2)).enc false x) w vs) : Calls Try.prog 177 vs w (Ans ((o1 (cInt .i64)).enc (u2_Len x)) w) :=
  contractT mixed (AllGood.cons bits_Len64_ok AllGood.nil) Try.func177 (fun _ _ _ _ _ => noL_ok) (Tr.safe_of (t := u2_Len_t x) rfl) (fun F => u2_Len_ev F bits_Len64 x) w vs hp
theorem u2_Len_ok : GoodF Try.prog 177 (sumT (aOne (cU2)) fun x => (o1 (cInt .i64)).enc (u2_Len x)) :=
  good_sumT (callable_of Try.func177 (by kernel_rfl) (by kernel_rfl)) u2_Len_c
def u2_Shl_L0_tm : Tm :=
  Tm.mk
    [none, some (false, [Sh.int IntKind.i64]), some (false, [Sh.ptr 0 0]), none, some (false, [Sh.ptr 1 0]), none, none,
      none, none, none, none, none, none, none, none, none, none, none, none, none, none, none, none, none, none, none,
      none, none, none, none, none, none, none, none]
    [Hs.cells 119 [Sh.int IntKind.u64, Sh.int IntKind.u64], Hs.cells 119 [Sh.int IntKind.u64, Sh.int IntKind.u64]] false
def u2_Shl_L0_of : List Pv → Option ((Int × Int) × (Int × Int × Int))
  | [.i v1, .i h0_0, .i h0_1, .i h1_0, .i h1_1] => some ((h1_0, h1_1), (v1, h0_0, h0_1))
  | _ => none
def u2_Shl_L0_to (p : Int × Int) (x : Int × Int × Int) : List Pv := [.i x.1, .i x.2.1, .i x.2.2, .i p.1, .i p.2]
theorem u2_Shl_L0_ot (l : List Pv) (p : Int × Int) (x : Int × Int × Int) (h : u2_Shl_L0_of l = some (p, x)) : u2_Shl_L0_to p x = l := by
  unfold u2_Shl_L0_of at h
  split at h
  · cases h; rfl
  · cases h
def u2_Shl_L0_dec (s : St) : Option ((Int × Int) × (Int × Int × Int)) := (u2_Shl_L0_tm.dec s).bind u2_Shl_L0_of
def u2_Shl_L0_I (p : Int × Int) (x : Int × Int × Int) : St := u2_Shl_L0_tm.enc (u2_Shl_L0_to p x)
def u2_Shl_L0_tmR : Tm :=
  Tm.mk
    [none, none, none, none, some (false, [Sh.ptr 0 0]), none, none, none, none, none, none, none, none, none, none, none,
      none, none, none, none, none, none, none, none, none, none, none, none, none, none, none, none, none, none]
    [Hs.cells 119 [Sh.int IntKind.u64, Sh.int IntKind.u64]] false
def u2_Shl_L0_ofR : List Pv → Option (Int × Int)
  | [.i h0_0, .i h0_1] => some (h0_0, h0_1)
  | _ => none
def u2_Shl_L0_toR (r : Int × Int) : List Pv := [.i r.1, .i r.2]
theorem u2_Shl_L0_otR (l : List Pv) (r : Int × Int) (h : u2_Shl_L0_ofR l = some r) : u2_Shl_L0_toR r = l := by
  unfold u2_Shl_L0_ofR at h
  split at h
  · cases h; rfl
  · cases h
def u2_Shl_L0_decR (s : St) : Option (Int × Int) := (u2_Shl_L0_tmR.dec s).bind u2_Shl_L0_ofR
def u2_Shl_L0_R (r : Int × Int) : St := u2_Shl_L0_tmR.enc (u2_Shl_L0_toR r)
theorem u2_Shl_L0_ev (F : Nat → Prop)  (h1_0 : Int) (h1_1 : Int) (v1 : Int) (h0_0 : Int) (h0_1 : Int) (Q : ((Int × Int) × (Int × Int × Int)) ⊕ (((Int × Int) × (Int × Int × Int)) ⊕ (Int × Int)) → Prop) : evC Try.prog (mkC ([]) F) noL 60 (lp Try.f193 0) (u2_Shl_L0_I (h1_0, h1_1) (v1, h0_0, h0_1)) (fun y s => onO Q (bkB 0 u2_Shl_L0_dec u2_Shl_L0_decR y s)) = (u2_Shl_L0_T  h1_0 h1_1 v1 h0_0 h0_1).prop (onB (h1_0, h1_1) Q) := by kernel_rfl
set_option maxRecDepth 100000 in
theorem u2_Shl_L0_ls {F : Nat → Prop} {B : Nat} {w0 : World} {s : St} {k : X → St → Prop} (hk : (lsB 0 u2_Shl_L0_dec u2_Shl_L0_I u2_Shl_L0_R u2_Shl_L0_ok u2_Shl_L0_rt u2_Shl_L0_v u2_Shl_L0_rv) s k) : EW Try.prog (mkC ([]) F) B w0 (.loop (lp Try.f193 0)) s k :=
  lsB_ok (fun _ _ _ h => weak_of u2_Shl_L0_ot (.inl rfl) h) (fun _ _ h => weak_ofR u2_Shl_L0_otR (.inl rfl) h) (step := u2_Shl_L0_step) (fun p x Q h => evC_spec mixed (mkC_ok AllGood.nil F) (L := noL) (u := 60) _ (loops_nil (by kernel_rfl)) _ _ (Eq.mpr (u2_Shl_L0_ev F  p.1 p.2 x.1 x.2.1 x.2.2 Q) h)) (fun _ _ h => run_okB h) hk
theorem u2_Shl_ev (F : Nat → Prop) (u2_Shl_L0_ok : (Int × Int) → (Int × Int × Int) → Bool) (u2_Shl_L0_rt : (Int × Int) → (Int × Int × Int) → Bool) (u2_Shl_L0_v : (Int × Int) → (Int × Int × Int) → Int × Int × Int) (u2_Shl_L0_rv : (Int × Int) → (Int × Int × Int) → Int × Int) (a : U2) (n : Int) (Q : AV → Prop) : evF Try.prog (mkC ([]) F) (fun id => cond (Nat.beq 1 id) (some (lsB 0 u2_Shl_L0_dec u2_Shl_L0_I u2_Shl_L0_R u2_Shl_L0_ok u2_Shl_L0_rt u2_Shl_L0_v u2_Shl_L0_rv)) (none) : Loops) 60 Try.f193 ((aCons (cU2) (aOne (cInt .i64))).enc false (a, n)) Q = (u2_Shl_T u2_Shl_L0_ok u2_Shl_L0_rt u2_Shl_L0_v u2_Shl_L0_rv a n).prop (fun x => Q ((o1 (cU2)).enc x)) := by kernel_rfl
theorem u2_Shl_c (x : U2 × Int) (hs : u2_Shl_s x.1 x.2 = true) (w : World) (vs : Array Value) (hp : ArgsR ((aCons (cU2) (aOne (cInt .i64))).enc false x) w vs) : Calls Try.prog 193 vs w (Ans ((o1 (cU2)).enc (u2_Shl x.1 x.2)) w) :=
  contractT mixed AllGood.nil Try.func193 (fun _ _ _ => loops_all (m := 1) (by kernel_rfl) (fun i hi => match i, hi with
    | 0, _ => (fun g hg s k hk => u2_Shl_L0_ls (cast (congrFun (congrFun (Option.some.inj (hg.symm.trans (by kernel_rfl))) s) k) hk))
    | (j + 1), hi => absurd hi (by omega))) hs (fun F => u2_Shl_ev F u2_Shl_L0_ok u2_Shl_L0_rt u2_Shl_L0_v u2_Shl_L0_rv x.1 x.2) w vs hp
theorem u2_Shl_ok : GoodF Try.prog 193 (sumOf (aCons (cU2) (aOne (cInt .i64))) (fun x => u2_Shl_s x.1 x.2) fun x => (o1 (cU2)).enc (u2_Shl x.1 x.2)) :=
  good_sum (callable_of Try.func193 (by kernel_rfl) (by kernel_rfl)) u2_Shl_c
def u2_Shr_L0_tm : Tm :=
  Tm.mk
    [none, some (false, [Sh.int IntKind.i64]), some (false, [Sh.ptr 0 0]), none, some (false, [Sh.ptr 1 0]),
      some (false, [Sh.bool]), some (false, [Sh.bool]), none, none, none, none, none, none, none, none, none, none, none,
      none, none, none, none, none, none, none, none, none, none, none, none, none, none, none, none, none, none, none,
      none, none, none, none, none, none, none, none, none, none, none, none, none, none, none, none]
    [Hs.cells 119 [Sh.int IntKind.u64, Sh.int IntKind.u64], Hs.cells 119 [Sh.int IntKind.u64, Sh.int IntKind.u64]] false
def u2_Shr_L0_of : List Pv → Option ((Bool × Int × Int) × (Int × Bool × Int × Int))
  | [.i v1, .b v5, .b v6, .i h0_0, .i h0_1, .i h1_0, .i h1_1] => some ((v5, h1_0, h1_1), (v1, v6, h0_0, h0_1))
  | _ => none
def u2_Shr_L0_to (p : Bool × Int × Int) (x : Int × Bool × Int × Int) : List Pv := [.i x.1, .b p.1, .b x.2.1, .i x.2.2.1, .i x.2.2.2, .i p.2.1, .i p.2.2]
theorem u2_Shr_L0_ot (l : List Pv) (p : Bool × Int × Int) (x : Int × Bool × Int × Int) (h : u2_Shr_L0_of l = some (p, x)) : u2_Shr_L0_to p x = l := by
  unfold u2_Shr_L0_of at h
  split at h
  · cases h; rfl
  · cases h
def u2_Shr_L0_dec (s : St) : Option ((Bool × Int × Int) × (Int × Bool × Int × Int)) := (u2_Shr_L0_tm.dec s).bind u2_Shr_L0_of
def u2_Shr_L0_I (p : Bool × Int × Int) (x : Int × Bool × Int × Int) : St := u2_Shr_L0_tm.enc (u2_Shr_L0_to p x)
def u2_Shr_L0_tmR : Tm :=
  Tm.mk
    [none, none, none, none, some (false, [Sh.ptr 0 0]), some (false, [Sh.bool]), none, none, none, none, none, none,
      none, none, none, none, none, none, none, none, none, none, none, none, none, none, none, none, none, none, none,
      none, none, none, none, none, none, none, none, none, none, none, none, none, none, none, none, none, none, none,
      none, none, none]
    [Hs.cells 119 [Sh.int IntKind.u64, Sh.int IntKind.u64]] false
def u2_Shr_L0_ofR : List Pv → Option (Bool × Int × Int)
  | [.b v5, .i h0_0, .i h0_1] => some (v5, h0_0, h0_1)
  | _ => none
def u2_Shr_L0_toR (r : Bool × Int × Int) : List Pv := [.b r.1, .i r.2.1, .i r.2.2]
theorem u2_Shr_L0_otR (l : List Pv) (r : Bool × Int × Int) (h : u2_Shr_L0_ofR l = some r) : u2_Shr_L0_toR r = l := by
  unfold u2_Shr_L0_ofR at h
  split at h
  · cases h; rfl
  · cases h
def u2_Shr_L0_decR (s : St) : Option (Bool × Int × Int) := (u2_Shr_L0_tmR.dec s).bind u2_Shr_L0_ofR
def u2_Shr_L0_R (r : Bool × Int × Int) : St := u2_Shr_L0_tmR.enc (u2_Shr_L0_toR r)
theorem u2_Shr_L0_ev (F : Nat → Prop)  (v5 : Bool) (h1_0 : Int) (h1_1 : Int) (v1 : Int) (v6 : Bool) (h0_0 : Int) (h0_1 : Int) (Q : ((Bool × Int × Int) × (Int × Bool × Int × Int)) ⊕ (((Bool × Int × Int) × (Int × Bool × Int × Int)) ⊕ (Bool × Int × Int)) → Prop) : evC Try.prog (mkC ([]) F) noL 60 (lp Try.f201 0) (u2_Shr_L0_I (v5, h1_0, h1_1) (v1, v6, h0_0, h0_1)) (fun y s => onO Q (bkB 0 u2_Shr_L0_dec u2_Shr_L0_decR y s)) = (u2_Shr_L0_T  v5 h1_0 h1_1 v1 v6 h0_0 h0_1).prop (onB (v5, h1_0, h1_1) Q) := by kernel_rfl
set_option maxRecDepth 100000 in
theorem u2_Shr_L0_ls {F : Nat → Prop} {B : Nat} {w0 : World} {s : St} {k : X → St → Prop} (hk : (lsB 0 u2_Shr_L0_dec u2_Shr_L0_I u2_Shr_L0_R u2_Shr_L0_ok u2_Shr_L0_rt u2_Shr_L0_v u2_Shr_L0_rv) s k) : EW Try.prog (mkC ([]) F) B w0 (.loop (lp Try.f201 0)) s k :=
  lsB_ok (fun _ _ _ h => weak_of u2_Shr_L0_ot (.inl rfl) h) (fun _ _ h => weak_ofR u2_Shr_L0_otR (.inl rfl) h) (step := u2_Shr_L0_step) (fun p x Q h => evC_spec mixed (mkC_ok AllGood.nil F) (L := noL) (u := 60) _ (loops_nil (by kernel_rfl)) _ _ (Eq.mpr (u2_Shr_L0_ev F  p.1 p.2.1 p.2.2 x.1 x.2.1 x.2.2.1 x.2.2.2 Q) h)) (fun _ _ h => run_okB h) hk
theorem u2_Shr_ev (F : Nat → Prop) (u2_Shr_L0_ok : (Bool × Int × Int) → (Int × Bool × Int × Int) → Bool) (u2_Shr_L0_rt : (Bool × Int × Int) → (Int × Bool × Int × Int) → Bool) (u2_Shr_L0_v : (Bool × Int × Int) → (Int × Bool × Int × Int) → Int × Bool × Int × Int) (u2_Shr_L0_rv : (Bool × Int × Int) → (Int × Bool × Int × Int) → Bool × Int × Int) (a : U2) (n : Int) (Q : AV → Prop) : evF Try.prog (mkC ([]) F) (fun id => cond (Nat.beq 2 id) (some (lsB 0 u2_Shr_L0_dec u2_Shr_L0_I u2_Shr_L0_R u2_Shr_L0_ok u2_Shr_L0_rt u2_Shr_L0_v u2_Shr_L0_rv)) (none) : Loops) 60 Try.f201 ((aCons (cU2) (aOne (cInt .i64))).enc false (a, n)) Q = (u2_Shr_T u2_Shr_L0_ok u2_Shr_L0_rt u2_Shr_L0_v u2_Shr_L0_rv a n).prop (fun x => Q ((o2 (cU2) (cBool)).enc x)) := by kernel_rfl
theorem u2_Shr_c (x : U2 × Int) (hs : u2_Shr_s x.1 x.2 = true) (w : World) (vs : Array Value) (hp : ArgsR ((aCons (cU2) (aOne (cInt .i64))).enc false x) w vs) : Calls Try.prog 201 vs w (Ans ((o2 (cU2) (cBool)).enc (u2_Shr x.1 x.2)) w) :=
  contractT mixed AllGood.nil Try.func201 (fun _ _ _ => loops_all (m := 1) (by kernel_rfl) (fun i hi => match i, hi with
    | 0, _ => (fun g hg s k hk => u2_Shr_L0_ls (cast (congrFun (congrFun (Option.some.inj (hg.symm.trans (by kernel_rfl))) s) k) hk))
    | (j + 1), hi => absurd hi (by omega))) hs (fun F => u2_Shr_ev F u2_Shr_L0_ok u2_Shr_L0_rt u2_Shr_L0_v u2_Shr_L0_rv x.1 x.2) w vs hp
theorem u2_Shr_ok : GoodF Try.prog 201 (sumOf (aCons (cU2) (aOne (cInt .i64))) (fun x => u2_Shr_s x.1 x.2) fun x => (o2 (cU2) (cBool)).enc (u2_Shr x.1 x.2)) :=
  good_sum (callable_of Try.func201 (by kernel_rfl) (by kernel_rfl)) u2_Shr_c
end Go.Proofs.Ytggmmkdfgjnjfaa
namespace Go.Proofs.Ytggmmkdfgjnjfaa
open Go.Ev Go.Fb
def r1_Of1_L1_tm : Tm :=
  Tm.mk
    [some (false, [Sh.veci false IntKind.u64]), none, some (false, [Sh.nil]), some (false, [Sh.own 0]),
      some (false, [Sh.int IntKind.i64]), some (false, [Sh.int IntKind.i64]), some (false, [Sh.int IntKind.i64]),
      some (false, [Sh.veci false IntKind.u64]), some (false, [Sh.int IntKind.i64]), some (false, [Sh.bool]), none, none,
      none, none, none, none, none, none, none, none, none, none, none, none, none, none, none, none, none]
    [Hs.growb 4] false
def r1_Of1_L1_of : List Pv → Option (((List Int) × Int × Int × (List Int) × Int × Bool) × (Int × (List Bool)))
  | [.il v0, .i v4, .i v5, .i v6, .il v7, .i v8, .b v9, .bl h0] => some ((v0, v4, v6, v7, v8, v9), (v5, h0))
  | _ => none
def r1_Of1_L1_to (p : (List Int) × Int × Int × (List Int) × Int × Bool) (x : Int × (List Bool)) : List Pv := [.il p.1, .i p.2.1, .i x.1, .i p.2.2.1, .il p.2.2.2.1, .i p.2.2.2.2.1, .b p.2.2.2.2.2, .bl x.2]
theorem r1_Of1_L1_ot (l : List Pv) (p : (List Int) × Int × Int × (List Int) × Int × Bool) (x : Int × (List Bool)) (h : r1_Of1_L1_of l = some (p, x)) : r1_Of1_L1_to p x = l := by
  unfold r1_Of1_L1_of at h
  split at h
  · cases h; rfl
  · cases h
def r1_Of1_L1_dec (s : St) : Option (((List Int) × Int × Int × (List Int) × Int × Bool) × (Int × (List Bool))) := (r1_Of1_L1_tm.dec s).bind r1_Of1_L1_of
def r1_Of1_L1_I (p : (List Int) × Int × Int × (List Int) × Int × Bool) (x : Int × (List Bool)) : St := r1_Of1_L1_tm.enc (r1_Of1_L1_to p x)
theorem r1_Of1_L1_ev (F : Nat → Prop)  (v0 : List Int) (v4 : Int) (v6 : Int) (v7 : List Int) (v8 : Int) (v9 : Bool) (v5 : Int) (h0 : List Bool) (Q : (((List Int) × Int × Int × (List Int) × Int × Bool) × (Int × (List Bool))) ⊕ (((List Int) × Int × Int × (List Int) × Int × Bool) × (Int × (List Bool))) → Prop) : evC Try.prog (mkC ([]) F) noL 60 (lp Try.f71 1) (r1_Of1_L1_I (v0, v4, v6, v7, v8, v9) (v5, h0)) (fun y s => onO Q (bkE 2 r1_Of1_L1_dec y s)) = (r1_Of1_L1_T  v0 v4 v6 v7 v8 v9 v5 h0).prop (onT (v0, v4, v6, v7, v8, v9) Q) := by kernel_rfl
set_option maxRecDepth 100000 in
theorem r1_Of1_L1_ls {F : Nat → Prop} {B : Nat} {w0 : World} {s : St} {k : X → St → Prop} (hk : (lsE 2 r1_Of1_L1_dec r1_Of1_L1_I r1_Of1_L1_ok r1_Of1_L1_v) s k) : EW Try.prog (mkC ([]) F) B w0 (.loop (lp Try.f71 1)) s k :=
  lsE_ok (fun _ _ _ h => weak_of r1_Of1_L1_ot (.inl rfl) h) (step := r1_Of1_L1_step) (fun p x Q h => evC_spec mixed (mkC_ok AllGood.nil F) (L := noL) (u := 60) _ (loops_nil (by kernel_rfl)) _ _ (Eq.mpr (r1_Of1_L1_ev F  p.1 p.2.1 p.2.2.1 p.2.2.2.1 p.2.2.2.2.1 p.2.2.2.2.2 x.1 x.2 Q) h)) (fun _ _ h => run_ok h) hk
theorem r1_Of1_ev (F : Nat → Prop) (r1_Of1_L1_ok : ((List Int) × Int × Int × (List Int) × Int × Bool) → (Int × (List Bool)) → Bool) (r1_Of1_L1_v : ((List Int) × Int × Int × (List Int) × Int × Bool) → (Int × (List Bool)) → Int × (List Bool)) (l : Int) (Q : AV → Prop) : evF Try.prog (mkC ([]) F) (fun id => cond (Nat.beq 6 id) (some (lsE 2 r1_Of1_L1_dec r1_Of1_L1_I r1_Of1_L1_ok r1_Of1_L1_v)) (none) : Loops) 60 Try.f71 ((aOne (cIntsN .u64 to1 of1 l1)).enc false l) Q = (r1_Of1_T r1_Of1_L1_ok r1_Of1_L1_v l).prop (fun x => Q ((o1 (cBools)).enc x)) := by kernel_rfl
theorem r1_Of1_c (x : Int) (hs : r1_Of1_s x = true) (w : World) (vs : Array Value) (hp : ArgsR ((aOne (cIntsN .u64 to1 of1 l1)).enc false x) w vs) : Calls Try.prog 71 vs w (Ans ((o1 (cBools)).enc (r1_Of1 x)) w) :=
  contractT mixed AllGood.nil Try.func71 (fun _ _ _ => loops_all (m := 2) (by kernel_rfl) (fun i hi => match i, hi with
    | 0, _ => (fun g hg => absurd ((by kernel_rfl : (none : Option (St → (X → St → Prop) → Prop)) = _).trans hg) (by simp))
    | 1, _ => (fun g hg s k hk => r1_Of1_L1_ls (cast (congrFun (congrFun (Option.some.inj (hg.symm.trans (by kernel_rfl))) s) k) hk))
    | (j + 2), hi => absurd hi (by omega))) hs (fun F => r1_Of1_ev F r1_Of1_L1_ok r1_Of1_L1_v x) w vs hp
theorem r1_Of1_ok : GoodF Try.prog 71 (sumOf (aOne (cIntsN .u64 to1 of1 l1)) (fun x => r1_Of1_s x) fun x => (o1 (cBools)).enc (r1_Of1 x)) :=
  good_sum (callable_of Try.func71 (by kernel_rfl) (by kernel_rfl)) r1_Of1_c
def r1_Of2_L1_tm : Tm :=
  Tm.mk
    [some (false, [Sh.veci false IntKind.u64]), none, some (false, [Sh.nil]), some (false, [Sh.own 0]),
      some (false, [Sh.int IntKind.i64]), some (false, [Sh.int IntKind.i64]), some (false, [Sh.int IntKind.i64]),
      some (false, [Sh.veci false IntKind.u64]), some (false, [Sh.int IntKind.i64]), some (false, [Sh.bool]), none, none,
      none, none, none, none, none, none, none, none, none, none, none, none, none, none, none, none, none]
    [Hs.growb 4] false
def r1_Of2_L1_of : List Pv → Option (((List Int) × Int × Int × (List Int) × Int × Bool) × (Int × (List Bool)))
  | [.il v0, .i v4, .i v5, .i v6, .il v7, .i v8, .b v9, .bl h0] => some ((v0, v4, v6, v7, v8, v9), (v5, h0))
  | _ => none
def r1_Of2_L1_to (p : (List Int) × Int × Int × (List Int) × Int × Bool) (x : Int × (List Bool)) : List Pv := [.il p.1, .i p.2.1, .i x.1, .i p.2.2.1, .il p.2.2.2.1, .i p.2.2.2.2.1, .b p.2.2.2.2.2, .bl x.2]
theorem r1_Of2_L1_ot (l : List Pv) (p : (List Int) × Int × Int × (List Int) × Int × Bool) (x : Int × (List Bool)) (h : r1_Of2_L1_of l = some (p, x)) : r1_Of2_L1_to p x = l := by
  unfold r1_Of2_L1_of at h
  split at h
  · cases h; rfl
  · cases h
def r1_Of2_L1_dec (s : St) : Option (((List Int) × Int × Int × (List Int) × Int × Bool) × (Int × (List Bool))) := (r1_Of2_L1_tm.dec s).bind r1_Of2_L1_of
def r1_Of2_L1_I (p : (List Int) × Int × Int × (List Int) × Int × Bool) (x : Int × (List Bool)) : St := r1_Of2_L1_tm.enc (r1_Of2_L1_to p x)
theorem r1_Of2_L1_ev (F : Nat → Prop)  (v0 : List Int) (v4 : Int) (v6 : Int) (v7 : List Int) (v8 : Int) (v9 : Bool) (v5 : Int) (h0 : List Bool) (Q : (((List Int) × Int × Int × (List Int) × Int × Bool) × (Int × (List Bool))) ⊕ (((List Int) × Int × Int × (List Int) × Int × Bool) × (Int × (List Bool))) → Prop) : evC Try.prog (mkC ([]) F) noL 60 (lp Try.f71 1) (r1_Of2_L1_I (v0, v4, v6, v7, v8, v9) (v5, h0)) (fun y s => onO Q (bkE 2 r1_Of2_L1_dec y s)) = (r1_Of2_L1_T  v0 v4 v6 v7 v8 v9 v5 h0).prop (onT (v0, v4, v6, v7, v8, v9) Q) := by kernel_rfl
set_option maxRecDepth 100000 in
theorem r1_Of2_L1_ls {F : Nat → Prop} {B : Nat} {w0 : World} {s : St} {k : X → St → Prop} (hk : (lsE 2 r1_Of2_L1_dec r1_Of2_L1_I r1_Of2_L1_ok r1_Of2_L1_v) s k) : EW Try.prog (mkC ([]) F) B w0 (.loop (lp Try.f71 1)) s k :=
  lsE_ok (fun _ _ _ h => weak_of r1_Of2_L1_ot (.inl rfl) h) (step := r1_Of2_L1_step) (fun p x Q h => evC_spec mixed (mkC_ok AllGood.nil F) (L := noL) (u := 60) _ (loops_nil (by kernel_rfl)) _ _ (Eq.mpr (r1_Of2_L1_ev F  p.1 p.2.1 p.2.2.1 p.2.2.2.1 p.2.2.2.2.1 p.2.2.2.2.2 x.1 x.2 Q) h)) (fun _ _ h => run_ok h) hk
theorem r1_Of2_ev (F : Nat → Prop) (r1_Of2_L1_ok : ((List Int) × Int × Int × (List Int) × Int × Bool) → (Int × (List Bool)) → Bool) (r1_Of2_L1_v : ((List Int) × Int × Int × (List Int) × Int × Bool) → (Int × (List Bool)) → Int × (List Bool)) (l : Int × Int) (Q : AV → Prop) : evF Try.prog (mkC ([]) F) (fun id => cond (Nat.beq 6 id) (some (lsE 2 r1_Of2_L1_dec r1_Of2_L1_I r1_Of2_L1_ok r1_Of2_L1_v)) (none) : Loops) 60 Try.f71 ((aOne (cIntsN .u64 to2 of2 l2)).enc false l) Q = (r1_Of2_T r1_Of2_L1_ok r1_Of2_L1_v l).prop (fun x => Q ((o1 (cBools)).enc x)) := by kernel_rfl
theorem r1_Of2_c (x : (Int × Int)) (hs : r1_Of2_s x = true) (w : World) (vs : Array Value) (hp : ArgsR ((aOne (cIntsN .u64 to2 of2 l2)).enc false x) w vs) : Calls Try.prog 71 vs w (Ans ((o1 (cBools)).enc (r1_Of2 x)) w) :=
  contractT mixed AllGood.nil Try.func71 (fun _ _ _ => loops_all (m := 2) (by kernel_rfl) (fun i hi => match i, hi with
    | 0, _ => (fun g hg => absurd ((by kernel_rfl : (none : Option (St → (X → St → Prop) → Prop)) = _).trans hg) (by simp))
    | 1, _ => (fun g hg s k hk => r1_Of2_L1_ls (cast (congrFun (congrFun (Option.some.inj (hg.symm.trans (by kernel_rfl))) s) k) hk))
    | (j + 2), hi => absurd hi (by omega))) hs (fun F => r1_Of2_ev F r1_Of2_L1_ok r1_Of2_L1_v x) w vs hp
theorem r1_Of2_ok : GoodF Try.prog 71 (sumOf (aOne (cIntsN .u64 to2 of2 l2)) (fun x => r1_Of2_s x) fun x => (o1 (cBools)).enc (r1_Of2 x)) :=
  good_sum (callable_of Try.func71 (by kernel_rfl) (by kernel_rfl)) r1_Of2_c
theorem r1_bit_ev (F : Nat → Prop)  (a : List Bool) (i : Int) (Q : AV → Prop) : evF Try.prog (mkC ([]) F) noL 60 Try.f153 ((aCons (cBools) (aOne (cInt .i64))).enc false (a, i)) Q = (r1_bit_T  a i).prop (fun x => Q ((o1 (cBool)).enc x)) := by kernel_rfl
theorem r1_bit_c (x : (List Bool) × Int) (hs : r1_bit_s x.1 x.2 = true) (w : World) (vs : Array Value) (hp : ArgsR ((aCons (cBools) (aOne (cInt .i64))).enc false x) w vs) : Calls Try.prog 153 vs w (Ans ((o1 (cBool)).enc (r1_bit x.1 x.2)) w) :=
  contractT mixed AllGood.nil Try.func153 (fun _ _ _ _ _ => noL_ok) hs (fun F => r1_bit_ev F  x.1 x.2) w vs hp
theorem r1_bit_ok : GoodF Try.prog 153 (sumOf (aCons (cBools) (aOne (cInt .i64))) (fun x => r1_bit_s x.1 x.2) fun x => (o1 (cBool)).enc (r1_bit x.1 x.2)) :=
  good_sum (callable_of Try.func153 (by kernel_rfl) (by kernel_rfl)) r1_bit_c
def r1_Add_L0_tm : Tm :=
  Tm.mk
    [some (false, [Sh.vecb false]), some (false, [Sh.vecb false]), none, none, some (false, [Sh.nil]),
      some (false, [Sh.own 0]), some (false, [Sh.bool]), some (false, [Sh.int IntKind.i64]), none, none, none, none, none,
      none, none, none, none, none, none, none, none, none, none, none, none, none, none, none, none, none, none, none,
      none, none, none, none, none, none, none, none, none, none, none, none, none, none, none, none, none, none, none,
      none, none, none, none, none]
    [Hs.growb 4] false
def r1_Add_L0_of : List Pv → Option (((List Bool) × (List Bool)) × (Bool × Int × (List Bool)))
  | [.bl v0, .bl v1, .b v6, .i v7, .bl h0] => some ((v0, v1), (v6, v7, h0))
  | _ => none
def r1_Add_L0_to (p : (List Bool) × (List Bool)) (x : Bool × Int × (List Bool)) : List Pv := [.bl p.1, .bl p.2, .b x.1, .i x.2.1, .bl x.2.2]
theorem r1_Add_L0_ot (l : List Pv) (p : (List Bool) × (List Bool)) (x : Bool × Int × (List Bool)) (h : r1_Add_L0_of l = some (p, x)) : r1_Add_L0_to p x = l := by
  unfold r1_Add_L0_of at h
  split at h
  · cases h; rfl
  · cases h
def r1_Add_L0_dec (s : St) : Option (((List Bool) × (List Bool)) × (Bool × Int × (List Bool))) := (r1_Add_L0_tm.dec s).bind r1_Add_L0_of
def r1_Add_L0_I (p : (List Bool) × (List Bool)) (x : Bool × Int × (List Bool)) : St := r1_Add_L0_tm.enc (r1_Add_L0_to p x)
theorem r1_Add_L0_ev (F : Nat → Prop) (r1_bit : (List Bool) → Int → Bool) (r1_bit_s : (List Bool) → Int → Bool) (v0 : List Bool) (v1 : List Bool) (v6 : Bool) (v7 : Int) (h0 : List Bool) (Q : (((List Bool) × (List Bool)) × (Bool × Int × (List Bool))) ⊕ (((List Bool) × (List Bool)) × (Bool × Int × (List Bool))) → Prop) : evC Try.prog (mkC ([(153, .s (sumOf (aCons (cBools) (aOne (cInt .i64))) (fun x => r1_bit_s x.1 x.2) fun x => (o1 (cBool)).enc (r1_bit x.1 x.2)))]) F) noL 60 (lp Try.f49 0) (r1_Add_L0_I (v0, v1) (v6, v7, h0)) (fun y s => onO Q (bkE 0 r1_Add_L0_dec y s)) = (r1_Add_L0_T r1_bit r1_bit_s v0 v1 v6 v7 h0).prop (onT (v0, v1) Q) := by kernel_rfl
set_option maxRecDepth 100000 in
theorem r1_Add_L0_ls {F : Nat → Prop} {B : Nat} {w0 : World} {s : St} {k : X → St → Prop} (hk : (lsE 0 r1_Add_L0_dec r1_Add_L0_I r1_Add_L0_ok r1_Add_L0_v) s k) : EW Try.prog (mkC ([(153, .s (sumOf (aCons (cBools) (aOne (cInt .i64))) (fun x => r1_bit_s x.1 x.2) fun x => (o1 (cBool)).enc (r1_bit x.1 x.2)))]) F) B w0 (.loop (lp Try.f49 0)) s k :=
  lsE_ok (fun _ _ _ h => weak_of r1_Add_L0_ot (.inl rfl) h) (step := r1_Add_L0_step) (fun p x Q h => evC_spec mixed (mkC_ok (AllGood.cons r1_bit_ok AllGood.nil) F) (L := noL) (u := 60) _ (loops_nil (by kernel_rfl)) _ _ (Eq.mpr (r1_Add_L0_ev F r1_bit r1_bit_s p.1 p.2 x.1 x.2.1 x.2.2 Q) h)) (fun _ _ h => run_ok h) hk
theorem r1_Add_ev (F : Nat → Prop) (r1_bit : (List Bool) → Int → Bool) (r1_bit_s : (List Bool) → Int → Bool) (r1_Add_L0_ok : ((List Bool) × (List Bool)) → (Bool × Int × (List Bool)) → Bool) (r1_Add_L0_v : ((List Bool) × (List Bool)) → (Bool × Int × (List Bool)) → Bool × Int × (List Bool)) (a : List Bool) (b : List Bool) (Q : AV → Prop) : evF Try.prog (mkC ([(153, .s (sumOf (aCons (cBools) (aOne (cInt .i64))) (fun x => r1_bit_s x.1 x.2) fun x => (o1 (cBool)).enc (r1_bit x.1 x.2)))]) F) (fun id => cond (Nat.beq 4 id) (some (lsE 0 r1_Add_L0_dec r1_Add_L0_I r1_Add_L0_ok r1_Add_L0_v)) (none) : Loops) 60 Try.f49 ((aCons (cBools) (aOne (cBools))).enc false (a, b)) Q = (r1_Add_T r1_Add_L0_ok r1_Add_L0_v a b).prop (fun x => Q ((o1 (cBools)).enc x)) := by kernel_rfl
theorem r1_Add_c (x : (List Bool) × (List Bool)) (hs : r1_Add_s x.1 x.2 = true) (w : World) (vs : Array Value) (hp : ArgsR ((aCons (cBools) (aOne (cBools))).enc false x) w vs) : Calls Try.prog 49 vs w (Ans ((o1 (cBools)).enc (r1_Add x.1 x.2)) w) :=
  contractT mixed (AllGood.cons r1_bit_ok AllGood.nil) Try.func49 (fun _ _ _ => loops_all (m := 1) (by kernel_rfl) (fun i hi => match i, hi with
    | 0, _ => (fun g hg s k hk => r1_Add_L0_ls (cast (congrFun (congrFun (Option.some.inj (hg.symm.trans (by kernel_rfl))) s) k) hk))
    | (j + 1), hi => absurd hi (by omega))) hs (fun F => r1_Add_ev F r1_bit r1_bit_s r1_Add_L0_ok r1_Add_L0_v x.1 x.2) w vs hp
theorem r1_Add_ok : GoodF Try.prog 49 (sumOf (aCons (cBools) (aOne (cBools))) (fun x => r1_Add_s x.1 x.2) fun x => (o1 (cBools)).enc (r1_Add x.1 x.2)) :=
  good_sum (callable_of Try.func49 (by kernel_rfl) (by kernel_rfl)) r1_Add_c
def r1_Cmp_L0_tm : Tm :=
  Tm.mk
    [some (false, [Sh.vecb false]), some (false, [Sh.vecb false]), none, none, some (false, [Sh.int IntKind.i64]),
      some (false, [Sh.int IntKind.i64]), none, none, none, none, none, none, none, none, none, none, none, none, none,
      none, none, none, none, none, none, none, none, none]
    [] false
def r1_Cmp_L0_of : List Pv → Option (((List Bool) × (List Bool) × Int) × (Int))
  | [.bl v0, .bl v1, .i v4, .i v5] => some ((v0, v1, v4), v5)
  | _ => none
def r1_Cmp_L0_to (p : (List Bool) × (List Bool) × Int) (x : Int) : List Pv := [.bl p.1, .bl p.2.1, .i p.2.2, .i x]
theorem r1_Cmp_L0_ot (l : List Pv) (p : (List Bool) × (List Bool) × Int) (x : Int) (h : r1_Cmp_L0_of l = some (p, x)) : r1_Cmp_L0_to p x = l := by
  unfold r1_Cmp_L0_of at h
  split at h
  · cases h; rfl
  · cases h
def r1_Cmp_L0_dec (s : St) : Option (((List Bool) × (List Bool) × Int) × (Int)) := (r1_Cmp_L0_tm.dec s).bind r1_Cmp_L0_of
def r1_Cmp_L0_I (p : (List Bool) × (List Bool) × Int) (x : Int) : St := r1_Cmp_L0_tm.enc (r1_Cmp_L0_to p x)
def r1_Cmp_L0_tmR : Tm :=
  Tm.mk
    [none, none, none, none, some (false, [Sh.int IntKind.i64]), none, none, none, none, none, none, none, none, none,
      none, none, none, none, none, none, none, none, none, none, none, none, none, none]
    [] false
def r1_Cmp_L0_ofR : List Pv → Option (Int)
  | [.i v4] => some v4
  | _ => none
def r1_Cmp_L0_toR (r : Int) : List Pv := [.i r]
theorem r1_Cmp_L0_otR (l : List Pv) (r : Int) (h : r1_Cmp_L0_ofR l = some r) : r1_Cmp_L0_toR r = l := by
  unfold r1_Cmp_L0_ofR at h
  split at h
  · cases h; rfl
  · cases h
def r1_Cmp_L0_decR (s : St) : Option (Int) := (r1_Cmp_L0_tmR.dec s).bind r1_Cmp_L0_ofR
def r1_Cmp_L0_R (r : Int) : St := r1_Cmp_L0_tmR.enc (r1_Cmp_L0_toR r)
theorem r1_Cmp_L0_ev (F : Nat → Prop) (r1_bit : (List Bool) → Int → Bool) (r1_bit_s : (List Bool) → Int → Bool) (v0 : List Bool) (v1 : List Bool) (v4 : Int) (v5 : Int) (Q : (((List Bool) × (List Bool) × Int) × (Int)) ⊕ ((((List Bool) × (List Bool) × Int) × (Int)) ⊕ (Int)) → Prop) : evC Try.prog (mkC ([(153, .s (sumOf (aCons (cBools) (aOne (cInt .i64))) (fun x => r1_bit_s x.1 x.2) fun x => (o1 (cBool)).enc (r1_bit x.1 x.2)))]) F) noL 60 (lp Try.f46 0) (r1_Cmp_L0_I (v0, v1, v4) v5) (fun y s => onO Q (bkB 0 r1_Cmp_L0_dec r1_Cmp_L0_decR y s)) = (r1_Cmp_L0_T r1_bit r1_bit_s v0 v1 v4 v5).prop (onB (v0, v1, v4) Q) := by kernel_rfl
set_option maxRecDepth 100000 in
theorem r1_Cmp_L0_ls {F : Nat → Prop} {B : Nat} {w0 : World} {s : St} {k : X → St → Prop} (hk : (lsB 0 r1_Cmp_L0_dec r1_Cmp_L0_I r1_Cmp_L0_R r1_Cmp_L0_ok r1_Cmp_L0_rt r1_Cmp_L0_v r1_Cmp_L0_rv) s k) : EW Try.prog (mkC ([(153, .s (sumOf (aCons (cBools) (aOne (cInt .i64))) (fun x => r1_bit_s x.1 x.2) fun x => (o1 (cBool)).enc (r1_bit x.1 x.2)))]) F) B w0 (.loop (lp Try.f46 0)) s k :=
  lsB_ok (fun _ _ _ h => weak_of r1_Cmp_L0_ot (.inl rfl) h) (fun _ _ h => weak_ofR r1_Cmp_L0_otR (.inl rfl) h) (step := r1_Cmp_L0_step) (fun p x Q h => evC_spec mixed (mkC_ok (AllGood.cons r1_bit_ok AllGood.nil) F) (L := noL) (u := 60) _ (loops_nil (by kernel_rfl)) _ _ (Eq.mpr (r1_Cmp_L0_ev F r1_bit r1_bit_s p.1 p.2.1 p.2.2 x Q) h)) (fun _ _ h => run_okB h) hk
theorem r1_Cmp_ev (F : Nat → Prop) (r1_bit : (List Bool) → Int → Bool) (r1_bit_s : (List Bool) → Int → Bool) (r1_Cmp_L0_ok : ((List Bool) × (List Bool) × Int) → Int → Bool) (r1_Cmp_L0_rt : ((List Bool) × (List Bool) × Int) → Int → Bool) (r1_Cmp_L0_v : ((List Bool) × (List Bool) × Int) → Int → Int) (r1_Cmp_L0_rv : ((List Bool) × (List Bool) × Int) → Int → Int) (a : List Bool) (b : List Bool) (Q : AV → Prop) : evF Try.prog (mkC ([(153, .s (sumOf (aCons (cBools) (aOne (cInt .i64))) (fun x => r1_bit_s x.1 x.2) fun x => (o1 (cBool)).enc (r1_bit x.1 x.2)))]) F) (fun id => cond (Nat.beq 2 id) (some (lsB 0 r1_Cmp_L0_dec r1_Cmp_L0_I r1_Cmp_L0_R r1_Cmp_L0_ok r1_Cmp_L0_rt r1_Cmp_L0_v r1_Cmp_L0_rv)) (none) : Loops) 60 Try.f46 ((aCons (cBools) (aOne (cBools))).enc false (a, b)) Q = (r1_Cmp_T r1_Cmp_L0_ok r1_Cmp_L0_rt r1_Cmp_L0_rv a b).prop (fun x => Q ((o1 (cInt .i64)).enc x)) := by kernel_rfl
theorem r1_Cmp_c (x : (List Bool) × (List Bool)) (hs : r1_Cmp_s x.1 x.2 = true) (w : World) (vs : Array Value) (hp : ArgsR ((aCons (cBools) (aOne (cBools))).enc false x) w vs) : Calls Try.prog 46 vs w (Ans ((o1 (cInt .i64)).enc (r1_Cmp x.1 x.2)) w) :=
  contractT mixed (AllGood.cons r1_bit_ok AllGood.nil) Try.func46 (fun _ _ _ => loops_all (m := 1) (by kernel_rfl) (fun i hi => match i, hi with
    | 0, _ => (fun g hg s k hk => r1_Cmp_L0_ls (cast (congrFun (congrFun (Option.some.inj (hg.symm.trans (by kernel_rfl))) s) k) hk))
    | (j + 1), hi => absurd hi (by omega))) hs (fun F => r1_Cmp_ev F r1_bit r1_bit_s r1_Cmp_L0_ok r1_Cmp_L0_rt r1_Cmp_L0_v r1_Cmp_L0_rv x.1 x.2) w vs hp
theorem r1_Cmp_ok : GoodF Try.prog 46 (sumOf (aCons (cBools) (aOne (cBools))) (fun x => r1_Cmp_s x.1 x.2) fun x => (o1 (cInt .i64)).enc (r1_Cmp x.1 x.2)) :=
  good_sum (callable_of Try.func46 (by kernel_rfl) (by kernel_rfl)) r1_Cmp_c
def r1_Shl_L0_tm : Tm :=
  Tm.mk
    [some (false, [Sh.vecb false]), some (false, [Sh.int IntKind.i64]), none, none, some (false, [Sh.nil]),
      some (false, [Sh.own 0]), some (false, [Sh.int IntKind.i64]), none, none, none, none, none, none, none, none, none,
      none, none]
    [Hs.growb 4] false
def r1_Shl_L0_of : List Pv → Option (((List Bool) × Int) × (Int × (List Bool)))
  | [.bl v0, .i v1, .i v6, .bl h0] => some ((v0, v1), (v6, h0))
  | _ => none
def r1_Shl_L0_to (p : (List Bool) × Int) (x : Int × (List Bool)) : List Pv := [.bl p.1, .i p.2, .i x.1, .bl x.2]
theorem r1_Shl_L0_ot (l : List Pv) (p : (List Bool) × Int) (x : Int × (List Bool)) (h : r1_Shl_L0_of l = some (p, x)) : r1_Shl_L0_to p x = l := by
  unfold r1_Shl_L0_of at h
  split at h
  · cases h; rfl
  · cases h
def r1_Shl_L0_dec (s : St) : Option (((List Bool) × Int) × (Int × (List Bool))) := (r1_Shl_L0_tm.dec s).bind r1_Shl_L0_of
def r1_Shl_L0_I (p : (List Bool) × Int) (x : Int × (List Bool)) : St := r1_Shl_L0_tm.enc (r1_Shl_L0_to p x)
theorem r1_Shl_L0_ev (F : Nat → Prop)  (v0 : List Bool) (v1 : Int) (v6 : Int) (h0 : List Bool) (Q : (((List Bool) × Int) × (Int × (List Bool))) ⊕ (((List Bool) × Int) × (Int × (List Bool))) → Prop) : evC Try.prog (mkC ([]) F) noL 60 (lp Try.f65 0) (r1_Shl_L0_I (v0, v1) (v6, h0)) (fun y s => onO Q (bkE 0 r1_Shl_L0_dec y s)) = (r1_Shl_L0_T  v0 v1 v6 h0).prop (onT (v0, v1) Q) := by kernel_rfl
set_option maxRecDepth 100000 in
theorem r1_Shl_L0_ls {F : Nat → Prop} {B : Nat} {w0 : World} {s : St} {k : X → St → Prop} (hk : (lsE 0 r1_Shl_L0_dec r1_Shl_L0_I r1_Shl_L0_ok r1_Shl_L0_v) s k) : EW Try.prog (mkC ([]) F) B w0 (.loop (lp Try.f65 0)) s k :=
  lsE_ok (fun _ _ _ h => weak_of r1_Shl_L0_ot (.inl rfl) h) (step := r1_Shl_L0_step) (fun p x Q h => evC_spec mixed (mkC_ok AllGood.nil F) (L := noL) (u := 60) _ (loops_nil (by kernel_rfl)) _ _ (Eq.mpr (r1_Shl_L0_ev F  p.1 p.2 x.1 x.2 Q) h)) (fun _ _ h => run_ok h) hk
theorem r1_Shl_ev (F : Nat → Prop) (r1_Shl_L0_ok : ((List Bool) × Int) → (Int × (List Bool)) → Bool) (r1_Shl_L0_v : ((List Bool) × Int) → (Int × (List Bool)) → Int × (List Bool)) (a : List Bool) (n : Int) (Q : AV → Prop) : evF Try.prog (mkC ([]) F) (fun id => cond (Nat.beq 3 id) (some (lsE 0 r1_Shl_L0_dec r1_Shl_L0_I r1_Shl_L0_ok r1_Shl_L0_v)) (none) : Loops) 60 Try.f65 ((aCons (cBools) (aOne (cInt .i64))).enc false (a, n)) Q = (r1_Shl_T r1_Shl_L0_ok r1_Shl_L0_v a n).prop (fun x => Q ((o1 (cBools)).enc x)) := by kernel_rfl
theorem r1_Shl_c (x : (List Bool) × Int) (hs : r1_Shl_s x.1 x.2 = true) (w : World) (vs : Array Value) (hp : ArgsR ((aCons (cBools) (aOne (cInt .i64))).enc false x) w vs) : Calls Try.prog 65 vs w (Ans ((o1 (cBools)).enc (r1_Shl x.1 x.2)) w) :=
  contractT mixed AllGood.nil Try.func65 (fun _ _ _ => loops_all (m := 1) (by kernel_rfl) (fun i hi => match i, hi with
    | 0, _ => (fun g hg s k hk => r1_Shl_L0_ls (cast (congrFun (congrFun (Option.some.inj (hg.symm.trans (by kernel_rfl))) s) k) hk))
    | (j + 1), hi => absurd hi (by omega))) hs (fun F => r1_Shl_ev F r1_Shl_L0_ok r1_Shl_L0_v x.1 x.2) w vs hp
theorem r1_Shl_ok : GoodF Try.prog 65 (sumOf (aCons (cBools) (aOne (cInt .i64))) (fun x => r1_Shl_s x.1 x.2) fun x => (o1 (cBools)).enc (r1_Shl x.1 x.2)) :=
  good_sum (callable_of Try.func65 (by kernel_rfl) (by kernel_rfl)) r1_Shl_c
def r1_Mul_L0_tm : Tm :=
  Tm.mk
    [some (false, [Sh.vecb false]), some (false, [Sh.vecb false]), none, none, some (false, [Sh.nil]),
      some (false, [Sh.vecb true]), some (false, [Sh.int IntKind.i64]), none, none, none, none, none, none, none, none,
      none, none, none, none, none, none, none, none]
    [] false
def r1_Mul_L0_of : List Pv → Option (((List Bool) × (List Bool)) × ((List Bool) × Int))
  | [.bl v0, .bl v1, .bl v5, .i v6] => some ((v0, v1), (v5, v6))
  | _ => none
def r1_Mul_L0_to (p : (List Bool) × (List Bool)) (x : (List Bool) × Int) : List Pv := [.bl p.1, .bl p.2, .bl x.1, .i x.2]
theorem r1_Mul_L0_ot (l : List Pv) (p : (List Bool) × (List Bool)) (x : (List Bool) × Int) (h : r1_Mul_L0_of l = some (p, x)) : r1_Mul_L0_to p x = l := by
  unfold r1_Mul_L0_of at h
  split at h
  · cases h; rfl
  · cases h
def r1_Mul_L0_dec (s : St) : Option (((List Bool) × (List Bool)) × ((List Bool) × Int)) := (r1_Mul_L0_tm.dec s).bind r1_Mul_L0_of
def r1_Mul_L0_I (p : (List Bool) × (List Bool)) (x : (List Bool) × Int) : St := r1_Mul_L0_tm.enc (r1_Mul_L0_to p x)
theorem r1_Mul_L0_ev (F : Nat → Prop) (r1_Shl : (List Bool) → Int → (List Bool)) (r1_Shl_s : (List Bool) → Int → Bool) (r1_Add : (List Bool) → (List Bool) → (List Bool)) (r1_Add_s : (List Bool) → (List Bool) → Bool) (v0 : List Bool) (v1 : List Bool) (v5 : List Bool) (v6 : Int) (Q : (((List Bool) × (List Bool)) × ((List Bool) × Int)) ⊕ (((List Bool) × (List Bool)) × ((List Bool) × Int)) → Prop) : evC Try.prog (mkC ([(65, .s (sumOf (aCons (cBools) (aOne (cInt .i64))) (fun x => r1_Shl_s x.1 x.2) fun x => (o1 (cBools)).enc (r1_Shl x.1 x.2))), (49, .s (sumOf (aCons (cBools) (aOne (cBools))) (fun x => r1_Add_s x.1 x.2) fun x => (o1 (cBools)).enc (r1_Add x.1 x.2)))]) F) noL 60 (lp Try.f51 0) (r1_Mul_L0_I (v0, v1) (v5, v6)) (fun y s => onO Q (bkE 0 r1_Mul_L0_dec y s)) = (r1_Mul_L0_T r1_Shl r1_Shl_s r1_Add r1_Add_s v0 v1 v5 v6).prop (onT (v0, v1) Q) := by kernel_rfl
set_option maxRecDepth 100000 in
theorem r1_Mul_L0_ls {F : Nat → Prop} {B : Nat} {w0 : World} {s : St} {k : X → St → Prop} (hk : (lsE 0 r1_Mul_L0_dec r1_Mul_L0_I r1_Mul_L0_ok r1_Mul_L0_v) s k) : EW Try.prog (mkC ([(65, .s (sumOf (aCons (cBools) (aOne (cInt .i64))) (fun x => r1_Shl_s x.1 x.2) fun x => (o1 (cBools)).enc (r1_Shl x.1 x.2))), (49, .s (sumOf (aCons (cBools) (aOne (cBools))) (fun x => r1_Add_s x.1 x.2) fun x => (o1 (cBools)).enc (r1_Add x.1 x.2)))]) F) B w0 (.loop (lp Try.f51 0)) s k :=
  lsE_ok (fun _ _ _ h => weak_of r1_Mul_L0_ot (.inl rfl) h) (step := r1_Mul_L0_step) (fun p x Q h => evC_spec mixed (mkC_ok (AllGood.cons r1_Shl_ok (AllGood.cons r1_Add_ok AllGood.nil)) F) (L := noL) (u := 60) _ (loops_nil (by kernel_rfl)) _ _ (Eq.mpr (r1_Mul_L0_ev F r1_Shl r1_Shl_s r1_Add r1_Add_s p.1 p.2 x.1 x.2 Q) h)) (fun _ _ h => run_ok h) hk
theorem r1_Mul_ev (F : Nat → Prop) (r1_Shl : (List Bool) → Int → (List Bool)) (r1_Shl_s : (List Bool) → Int → Bool) (r1_Add : (List Bool) → (List Bool) → (List Bool)) (r1_Add_s : (List Bool) → (List Bool) → Bool) (r1_Mul_L0_ok : ((List Bool) × (List Bool)) → ((List Bool) × Int) → Bool) (r1_Mul_L0_v : ((List Bool) × (List Bool)) → ((List Bool) × Int) → (List Bool) × Int) (a : List Bool) (b : List Bool) (Q : AV → Prop) : evF Try.prog (mkC ([(65, .s (sumOf (aCons (cBools) (aOne (cInt .i64))) (fun x => r1_Shl_s x.1 x.2) fun x => (o1 (cBools)).enc (r1_Shl x.1 x.2))), (49, .s (sumOf (aCons (cBools) (aOne (cBools))) (fun x => r1_Add_s x.1 x.2) fun x => (o1 (cBools)).enc (r1_Add x.1 x.2)))]) F) (fun id => cond (Nat.beq 3 id) (some (lsE 0 r1_Mul_L0_dec r1_Mul_L0_I r1_Mul_L0_ok r1_Mul_L0_v)) (none) : Loops) 60 Try.f51 ((aCons (cBools) (aOne (cBools))).enc false (a, b)) Q = (r1_Mul_T r1_Mul_L0_ok r1_Mul_L0_v a b).prop (fun x => Q ((o1 (cBools)).enc x)) := by kernel_rfl
theorem r1_Mul_c (x : (List Bool) × (List Bool)) (hs : r1_Mul_s x.1 x.2 = true) (w : World) (vs : Array Value) (hp : ArgsR ((aCons (cBools) (aOne (cBools))).enc false x) w vs) : Calls Try.prog 51 vs w (Ans ((o1 (cBools)).enc (r1_Mul x.1 x.2)) w) :=
  contractT mixed (AllGood.cons r1_Shl_ok (AllGood.cons r1_Add_ok AllGood.nil)) Try.func51 (fun _ _ _ => loops_all (m := 1) (by kernel_rfl) (fun i hi => match i, hi with
    | 0, _ => (fun g hg s k hk => r1_Mul_L0_ls (cast (congrFun (congrFun (Option.some.inj (hg.symm.trans (by kernel_rfl))) s) k) hk))
    | (j + 1), hi => absurd hi (by omega))) hs (fun F => r1_Mul_ev F r1_Shl r1_Shl_s r1_Add r1_Add_s r1_Mul_L0_ok r1_Mul_L0_v x.1 x.2) w vs hp
theorem r1_Mul_ok : GoodF Try.prog 51 (sumOf (aCons (cBools) (aOne (cBools))) (fun x => r1_Mul_s x.1 x.2) fun x => (o1 (cBools)).enc (r1_Mul x.1 x.2)) :=
  good_sum (callable_of Try.func51 (by kernel_rfl) (by kernel_rfl)) r1_Mul_c
def r1_Len_L0_tm : Tm :=
  Tm.mk
    [some (false, [Sh.vecb false]), none, some (false, [Sh.int IntKind.i64]), some (false, [Sh.int IntKind.i64]), none,
      none, none, none, none, none, none, none, none, none, none, none, none, none, none]
    [] false
def r1_Len_L0_of : List Pv → Option (((List Bool) × Int) × (Int))
  | [.bl v0, .i v2, .i v3] => some ((v0, v2), v3)
  | _ => none
def r1_Len_L0_to (p : (List Bool) × Int) (x : Int) : List Pv := [.bl p.1, .i p.2, .i x]
theorem r1_Len_L0_ot (l : List Pv) (p : (List Bool) × Int) (x : Int) (h : r1_Len_L0_of l = some (p, x)) : r1_Len_L0_to p x = l := by
  unfold r1_Len_L0_of at h
  split at h
  · cases h; rfl
  · cases h
def r1_Len_L0_dec (s : St) : Option (((List Bool) × Int) × (Int)) := (r1_Len_L0_tm.dec s).bind r1_Len_L0_of
def r1_Len_L0_I (p : (List Bool) × Int) (x : Int) : St := r1_Len_L0_tm.enc (r1_Len_L0_to p x)
theorem r1_Len_L0_ev (F : Nat → Prop)  (v0 : List Bool) (v2 : Int) (v3 : Int) (Q : (((List Bool) × Int) × (Int)) ⊕ (((List Bool) × Int) × (Int)) → Prop) : evC Try.prog (mkC ([]) F) noL 60 (lp Try.f73 0) (r1_Len_L0_I (v0, v2) v3) (fun y s => onO Q (bkE 0 r1_Len_L0_dec y s)) = (r1_Len_L0_T  v0 v2 v3).prop (onT (v0, v2) Q) := by kernel_rfl
set_option maxRecDepth 100000 in
theorem r1_Len_L0_ls {F : Nat → Prop} {B : Nat} {w0 : World} {s : St} {k : X → St → Prop} (hk : (lsE 0 r1_Len_L0_dec r1_Len_L0_I r1_Len_L0_ok r1_Len_L0_v) s k) : EW Try.prog (mkC ([]) F) B w0 (.loop (lp Try.f73 0)) s k :=
  lsE_ok (fun _ _ _ h => weak_of r1_Len_L0_ot (.inl rfl) h) (step := r1_Len_L0_step) (fun p x Q h => evC_spec mixed (mkC_ok AllGood.nil F) (L := noL) (u := 60) _ (loops_nil (by kernel_rfl)) _ _ (Eq.mpr (r1_Len_L0_ev F  p.1 p.2 x Q) h)) (fun _ _ h => run_ok h) hk
theorem r1_Len_ev (F : Nat → Prop) (r1_Len_L0_ok : ((List Bool) × Int) → Int → Bool) (r1_Len_L0_v : ((List Bool) × Int) → Int → Int) (a : List Bool) (Q : AV → Prop) : evF Try.prog (mkC ([]) F) (fun id => cond (Nat.beq 2 id) (some (lsE 0 r1_Len_L0_dec r1_Len_L0_I r1_Len_L0_ok r1_Len_L0_v)) (none) : Loops) 60 Try.f73 ((aOne (cBools)).enc false a) Q = (r1_Len_T r1_Len_L0_ok r1_Len_L0_v a).prop (fun x => Q ((o1 (cInt .i64)).enc x)) := by kernel_rfl
theorem r1_Len_c (x : (List Bool)) (hs : r1_Len_s x = true) (w : World) (vs : Array Value) (hp : ArgsR ((aOne (cBools)).enc false x) w vs) : Calls Try.prog 73 vs w (Ans ((o1 (cInt .i64)).enc (r1_Len x)) w) :=
  contractT mixed AllGood.nil Try.func73 (fun _ _ _ => loops_all (m := 1) (by kernel_rfl) (fun i hi => match i, hi with
    | 0, _ => (fun g hg s k hk => r1_Len_L0_ls (cast (congrFun (congrFun (Option.some.inj (hg.symm.trans (by kernel_rfl))) s) k) hk))
    | (j + 1), hi => absurd hi (by omega))) hs (fun F => r1_Len_ev F r1_Len_L0_ok r1_Len_L0_v x) w vs hp
theorem r1_Len_ok : GoodF Try.prog 73 (sumOf (aOne (cBools)) (fun x => r1_Len_s x) fun x => (o1 (cInt .i64)).enc (r1_Len x)) :=
  good_sum (callable_of Try.func73 (by kernel_rfl) (by kernel_rfl)) r1_Len_c
end Go.Proofs.Ytggmmkdfgjnjfaa
