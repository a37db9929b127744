/- Layer 1: contracts of the functions. Conditions: as each theorem states. -/
import Derived.Test.YtdkbeajkedffeaaEd
import Derived.Test.YtdkbeajkedffeaaWd
import Derived.Test.YtdkbeajkedffeaaRows
namespace Go.Proofs.Ytdkbeajkedffeaa
open Go.Ev Go.Fb
theorem mixed : Try.prog.follows .mixedOrders = true := by kernel_rfl
def add64E : Array Value → Sem Value := fun args => do
  let (x, y, c) ← Extern.MathBitsCarry.three "Add64" args
  pure (Extern.MathBitsCarry.pair ((x + y + c) % Extern.MathBitsCarry.m64) ((x + y + c) / Extern.MathBitsCarry.m64))
def sub64E : Array Value → Sem Value := fun args => do
  let (x, y, b) ← Extern.MathBitsCarry.three "Sub64" args
  pure (Extern.MathBitsCarry.pair ((x + Extern.MathBitsCarry.m64 - y - b) % Extern.MathBitsCarry.m64) (if x < y + b then 1 else 0))
theorem bits_Add64_ok : ExtF Try.prog 141 (sumOf (aCons (cInt .u64) (aCons (cInt .u64) (aOne (cInt .u64)))) (fun x => bits_Add64_s x.1 x.2.1 x.2.2) fun x => (o2 (cInt .u64) (cInt .u64)).enc (bits_Add64 x.1 x.2.1 x.2.2)) := by
  refine ext_sum Try.func141 (by kernel_rfl) (by kernel_rfl) (by kernel_rfl) (e := add64E) (by kernel_rfl) (fun x hp w vs h => ?_) (fun _ => rfl)
  have hc : x.2.2.toNat ≤ 1 := Nat.le_of_ble_eq_true hp
  obtain ⟨v0, r0, h0, a0, t0⟩ := AllR.uncons h
  obtain ⟨v1, r1, h1, a1, t1⟩ := t0.uncons
  obtain ⟨v2, r2, h2, a2, t2⟩ := t1.uncons
  have := t2.unnil
  subst this h2 h1
  have e0 : v0 = .int .u64 x.1 := a0 (mkC [] fun _ => True) (ES fun _ => True) (fun _ _ => ⟨fun h => h, fun e => nomatch e⟩)
  have e1 : v1 = .int .u64 x.2.1 := a1 (mkC [] fun _ => True) (ES fun _ => True) (fun _ _ => ⟨fun h => h, fun e => nomatch e⟩)
  have e2 : v2 = .int .u64 x.2.2 := a2 (mkC [] fun _ => True) (ES fun _ => True) (fun _ _ => ⟨fun h => h, fun e => nomatch e⟩)
  subst e0 e1 e2
  have ev : vs = #[.int .u64 x.1, .int .u64 x.2.1, .int .u64 x.2.2] := Array.ext' h0
  subst ev
  obtain ⟨a, b, c⟩ := x
  cases c with
  | ofNat n =>
    have hn : n ≤ 1 := hc
    match n, hn with
    | 0, _ => rfl
    | 1, _ => rfl
  | negSucc n => rfl
theorem bits_Sub64_ok : ExtF Try.prog 142 (sumOf (aCons (cInt .u64) (aCons (cInt .u64) (aOne (cInt .u64)))) (fun x => bits_Sub64_s x.1 x.2.1 x.2.2) fun x => (o2 (cInt .u64) (cInt .u64)).enc (bits_Sub64 x.1 x.2.1 x.2.2)) := by
  refine ext_sum Try.func142 (by kernel_rfl) (by kernel_rfl) (by kernel_rfl) (e := sub64E) (by kernel_rfl) (fun x hp w vs h => ?_) (fun _ => rfl)
  have hc : x.2.2.toNat ≤ 1 := Nat.le_of_ble_eq_true hp
  obtain ⟨v0, r0, h0, a0, t0⟩ := AllR.uncons h
  obtain ⟨v1, r1, h1, a1, t1⟩ := t0.uncons
  obtain ⟨v2, r2, h2, a2, t2⟩ := t1.uncons
  have := t2.unnil
  subst this h2 h1
  have e0 : v0 = .int .u64 x.1 := a0 (mkC [] fun _ => True) (ES fun _ => True) (fun _ _ => ⟨fun h => h, fun e => nomatch e⟩)
  have e1 : v1 = .int .u64 x.2.1 := a1 (mkC [] fun _ => True) (ES fun _ => True) (fun _ _ => ⟨fun h => h, fun e => nomatch e⟩)
  have e2 : v2 = .int .u64 x.2.2 := a2 (mkC [] fun _ => True) (ES fun _ => True) (fun _ _ => ⟨fun h => h, fun e => nomatch e⟩)
  subst e0 e1 e2
  have ev : vs = #[.int .u64 x.1, .int .u64 x.2.1, .int .u64 x.2.2] := Array.ext' h0
  subst ev
  obtain ⟨a, b, c⟩ := x
  cases c with
  | ofNat n =>
    have hn : n ≤ 1 := hc
    match n, hn with
    | 0, _ => rfl
    | 1, _ => rfl
  | negSucc n => rfl
theorem bits_Mul64_ev (F : Nat → Prop)  (x : Int) (y : Int) (Q : AV → Prop) : evF Try.prog (mkC ([]) F) noL 60 Try.f131 ((aCons (cInt .u64) (aOne (cInt .u64))).enc false (x, y)) Q = (bits_Mul64_T  x y).prop (fun x => Q ((o2 (cInt .u64) (cInt .u64)).enc x)) := by kernel_rfl
theorem bits_Mul64_c (x : Int × Int) (w : World) (vs : Array Value) (hp : ArgsR ((aCons (cInt .u64) (aOne (cInt .u64))).enc false x) w vs) : Calls Try.prog 131 vs w (Ans ((o2 (cInt .u64) (cInt .u64)).enc (bits_Mul64 x.1 x.2)) w) :=
  contractT mixed AllGood.nil Try.func131 (fun _ _ _ _ _ => noL_ok) (Tr.safe_of (t := bits_Mul64_t x.1 x.2) rfl) (fun F => bits_Mul64_ev F  x.1 x.2) w vs hp
theorem bits_Mul64_ok : GoodF Try.prog 131 (sumT (aCons (cInt .u64) (aOne (cInt .u64))) fun x => (o2 (cInt .u64) (cInt .u64)).enc (bits_Mul64 x.1 x.2)) :=
  good_sumT (callable_of Try.func131 (by kernel_rfl) (by kernel_rfl)) bits_Mul64_c
theorem bits_Len64_ev (F : Nat → Prop)  (x : Int) (Q : AV → Prop) : evF Try.prog (mkC ([]) F) noL 60 Try.f143 ((aOne (cInt .u64)).enc false x) Q = (bits_Len64_T  x).prop (fun x => Q ((o1 (cInt .i64)).enc x)) := by kernel_rfl
theorem bits_Len64_safe (x : Int) : (bits_Len64_t x).safe = true := by
  have e : (len8.size : Int) = 256 := by kernel_rfl
  have h : ∀ n : Int, (decide (0 ≤ IntKind.u8.wrap n) && decide (IntKind.u8.wrap n < (len8.size : Int))) = true := fun n => by
    rw [e]
    simp only [IntKind.wrap, IntKind.bits, IntKind.signed, Bool.and_eq_true, decide_eq_true_eq]
    simp
    omega
  simp only [bits_Len64_t, bits_Len64_T, Tr.safe, h, Bool.true_and, Bool.cond_self]
theorem bits_Len64_c (x : Int) (w : World) (vs : Array Value) (hp : ArgsR ((aOne (cInt .u64)).enc false x) w vs) : Calls Try.prog 143 vs w (Ans ((o1 (cInt .i64)).enc (bits_Len64 x)) w) :=
  contractT mixed AllGood.nil Try.func143 (fun _ _ _ _ _ => noL_ok) (bits_Len64_safe x) (fun F => bits_Len64_ev F  x) w vs hp
theorem bits_Len64_ok : GoodF Try.prog 143 (sumT (aOne (cInt .u64)) fun x => (o1 (cInt .i64)).enc (bits_Len64 x)) :=
  good_sumT (callable_of Try.func143 (by kernel_rfl) (by kernel_rfl)) bits_Len64_c
theorem bits_LZ64_ev (F : Nat → Prop) (bits_Len64 : Int → Int) (x : Int) (Q : AV → Prop) : evF Try.prog (mkC ([(143, .s (sumT (aOne (cInt .u64)) fun x => (o1 (cInt .i64)).enc (bits_Len64 x)))]) F) noL 60 Try.f150 ((aOne (cInt .u64)).enc false x) Q = (bits_LZ64_T bits_Len64 x).prop (fun x => Q ((o1 (cInt .i64)).enc x)) := by kernel_rfl
theorem bits_LZ64_c (x : Int) (w : World) (vs : Array Value) (hp : ArgsR ((aOne (cInt .u64)).enc false x) w vs) : Calls Try.prog 150 vs w (Ans ((o1 (cInt .i64)).enc (bits_LZ64 x)) w) :=
  contractT mixed (AllGood.cons bits_Len64_ok AllGood.nil) Try.func150 (fun _ _ _ _ _ => noL_ok) (Tr.safe_of (t := bits_LZ64_t x) rfl) (fun F => bits_LZ64_ev F bits_Len64 x) w vs hp
theorem bits_LZ64_ok : GoodF Try.prog 150 (sumT (aOne (cInt .u64)) fun x => (o1 (cInt .i64)).enc (bits_LZ64 x)) :=
  good_sumT (callable_of Try.func150 (by kernel_rfl) (by kernel_rfl)) bits_LZ64_c
def bits_Div64_L0_tm : Tm :=
  Tm.mk
    [none, none, some (false, [Sh.int IntKind.u64]), none, none, none, some (false, [Sh.int IntKind.u64]),
      some (false, [Sh.int IntKind.u64]), some (false, [Sh.int IntKind.u64]), some (false, [Sh.int IntKind.u64]),
      some (false, [Sh.int IntKind.u64]), some (false, [Sh.int IntKind.u64]), none, some (false, [Sh.int IntKind.u64]),
      some (false, [Sh.int IntKind.u64]), some (false, [Sh.int IntKind.u64]), some (false, [Sh.int IntKind.u64]), none,
      none, none, some (false, [Sh.bool]), none, none, none, some (false, [Sh.bool]), none, none, some (false, [Sh.bool]),
      none, none, none, none, none, none, none, none, none, none, none, none, none, none, none, none, none, none, none,
      none, none, none, none, none, none, none, none, none, none, none, none, none, none, none, none, none, none, none,
      none, none, none, none, none, none, none, none, none, none, none, none, none, none, none, none, none, none, none,
      none, none, none, none, none, none, none, none, none, none, none, none, none, none, none, none, none, none, none,
      none, none, none, none, none, none, none, none, none, none, none, none, none, none, none, none, none, none, none,
      none, none, none, none, none, none, none, none, none, none, none, none]
    [] false
def bits_Div64_L0_of : List Pv → Option ((Int × Int × Int × Int × Int × Int × Int × Int × Int × Bool × Bool × Bool) × (Int × Int))
  | [.i v2, .i v6, .i v7, .i v8, .i v9, .i v10, .i v11, .i v13, .i v14, .i v15, .i v16, .b v20, .b v24, .b v27] => some ((v2, v6, v7, v8, v9, v10, v11, v13, v14, v20, v24, v27), (v15, v16))
  | _ => none
def bits_Div64_L0_to (p : Int × Int × Int × Int × Int × Int × Int × Int × Int × Bool × Bool × Bool) (x : Int × Int) : List Pv := [.i p.1, .i p.2.1, .i p.2.2.1, .i p.2.2.2.1, .i p.2.2.2.2.1, .i p.2.2.2.2.2.1, .i p.2.2.2.2.2.2.1, .i p.2.2.2.2.2.2.2.1, .i p.2.2.2.2.2.2.2.2.1, .i x.1, .i x.2, .b p.2.2.2.2.2.2.2.2.2.1, .b p.2.2.2.2.2.2.2.2.2.2.1, .b p.2.2.2.2.2.2.2.2.2.2.2]
theorem bits_Div64_L0_ot (l : List Pv) (p : Int × Int × Int × Int × Int × Int × Int × Int × Int × Bool × Bool × Bool) (x : Int × Int) (h : bits_Div64_L0_of l = some (p, x)) : bits_Div64_L0_to p x = l := by
  unfold bits_Div64_L0_of at h
  split at h
  · cases h; rfl
  · cases h
def bits_Div64_L0_dec (s : St) : Option ((Int × Int × Int × Int × Int × Int × Int × Int × Int × Bool × Bool × Bool) × (Int × Int)) := (bits_Div64_L0_tm.dec s).bind bits_Div64_L0_of
def bits_Div64_L0_I (p : Int × Int × Int × Int × Int × Int × Int × Int × Int × Bool × Bool × Bool) (x : Int × Int) : St := bits_Div64_L0_tm.enc (bits_Div64_L0_to p x)
theorem bits_Div64_L0_ev (F : Nat → Prop) (bits_LZ64 : Int → Int) (v2 : Int) (v6 : Int) (v7 : Int) (v8 : Int) (v9 : Int) (v10 : Int) (v11 : Int) (v13 : Int) (v14 : Int) (v20 : Bool) (v24 : Bool) (v27 : Bool) (v15 : Int) (v16 : Int) (Q : ((Int × Int × Int × Int × Int × Int × Int × Int × Int × Bool × Bool × Bool) × (Int × Int)) ⊕ ((Int × Int × Int × Int × Int × Int × Int × Int × Int × Bool × Bool × Bool) × (Int × Int)) → Prop) : evC Try.prog (mkC ([(150, .s (sumT (aOne (cInt .u64)) fun x => (o1 (cInt .i64)).enc (bits_LZ64 x)))]) F) noL 60 (lp Try.f146 0) (bits_Div64_L0_I (v2, v6, v7, v8, v9, v10, v11, v13, v14, v20, v24, v27) (v15, v16)) (fun y s => onO Q (bkE 0 bits_Div64_L0_dec y s)) = (bits_Div64_L0_T  v2 v6 v7 v8 v9 v10 v11 v13 v14 v20 v24 v27 v15 v16).prop (onT (v2, v6, v7, v8, v9, v10, v11, v13, v14, v20, v24, v27) Q) := by kernel_rfl
set_option maxRecDepth 100000 in
theorem bits_Div64_L0_ls {F : Nat → Prop} {B : Nat} {w0 : World} {s : St} {k : X → St → Prop} (hk : (lsE 0 bits_Div64_L0_dec bits_Div64_L0_I bits_Div64_L0_ok bits_Div64_L0_v) s k) : EW Try.prog (mkC ([(150, .s (sumT (aOne (cInt .u64)) fun x => (o1 (cInt .i64)).enc (bits_LZ64 x)))]) F) B w0 (.loop (lp Try.f146 0)) s k :=
  lsE_ok (fun _ _ _ h => weak_of bits_Div64_L0_ot (.inl rfl) h) (step := bits_Div64_L0_step) (fun p x Q h => evC_spec mixed (mkC_ok (AllGood.cons bits_LZ64_ok AllGood.nil) F) (L := noL) (u := 60) _ (loops_nil (by kernel_rfl)) _ _ (Eq.mpr (bits_Div64_L0_ev F bits_LZ64 p.1 p.2.1 p.2.2.1 p.2.2.2.1 p.2.2.2.2.1 p.2.2.2.2.2.1 p.2.2.2.2.2.2.1 p.2.2.2.2.2.2.2.1 p.2.2.2.2.2.2.2.2.1 p.2.2.2.2.2.2.2.2.2.1 p.2.2.2.2.2.2.2.2.2.2.1 p.2.2.2.2.2.2.2.2.2.2.2 x.1 x.2 Q) h)) (fun _ _ h => run_ok h) hk
def bits_Div64_L1_tm : Tm :=
  Tm.mk
    [none, none, some (false, [Sh.int IntKind.u64]), none, none, none, some (false, [Sh.int IntKind.u64]),
      some (false, [Sh.int IntKind.u64]), some (false, [Sh.int IntKind.u64]), some (false, [Sh.int IntKind.u64]),
      some (false, [Sh.int IntKind.u64]), none, none, none, some (false, [Sh.int IntKind.u64]),
      some (false, [Sh.int IntKind.u64]), some (false, [Sh.int IntKind.u64]), some (false, [Sh.int IntKind.u64]),
      some (false, [Sh.int IntKind.u64]), none, some (false, [Sh.bool]), none, none, none, some (false, [Sh.bool]), none,
      none, some (false, [Sh.bool]), none, none, none, none, none, none, none, none, none, none, none, none, none, none,
      none, none, none, none, none, none, none, none, none, none, none, none, none, none, none, none, none, none, none,
      none, none, none, none, none, none, none, none, none, none, none, none, none, none, none, none, none, none, none,
      none, none, none, none, none, none, none, none, none, none, none, none, none, none, none, none, none, none, none,
      none, none, none, none, none, none, none, none, none, none, none, none, none, none, none, none, none, none, none,
      none, none, none, none, none, none, none, none, none, none, none, none, none, none, none, none, none]
    [] false
def bits_Div64_L1_of : List Pv → Option ((Int × Int × Int × Int × Int × Int × Int × Int × Int × Bool × Bool × Bool) × (Int × Int))
  | [.i v2, .i v6, .i v7, .i v8, .i v9, .i v10, .i v14, .i v15, .i v16, .i v17, .i v18, .b v20, .b v24, .b v27] => some ((v2, v6, v7, v8, v9, v10, v14, v15, v17, v20, v24, v27), (v16, v18))
  | _ => none
def bits_Div64_L1_to (p : Int × Int × Int × Int × Int × Int × Int × Int × Int × Bool × Bool × Bool) (x : Int × Int) : List Pv := [.i p.1, .i p.2.1, .i p.2.2.1, .i p.2.2.2.1, .i p.2.2.2.2.1, .i p.2.2.2.2.2.1, .i p.2.2.2.2.2.2.1, .i p.2.2.2.2.2.2.2.1, .i x.1, .i p.2.2.2.2.2.2.2.2.1, .i x.2, .b p.2.2.2.2.2.2.2.2.2.1, .b p.2.2.2.2.2.2.2.2.2.2.1, .b p.2.2.2.2.2.2.2.2.2.2.2]
theorem bits_Div64_L1_ot (l : List Pv) (p : Int × Int × Int × Int × Int × Int × Int × Int × Int × Bool × Bool × Bool) (x : Int × Int) (h : bits_Div64_L1_of l = some (p, x)) : bits_Div64_L1_to p x = l := by
  unfold bits_Div64_L1_of at h
  split at h
  · cases h; rfl
  · cases h
def bits_Div64_L1_dec (s : St) : Option ((Int × Int × Int × Int × Int × Int × Int × Int × Int × Bool × Bool × Bool) × (Int × Int)) := (bits_Div64_L1_tm.dec s).bind bits_Div64_L1_of
def bits_Div64_L1_I (p : Int × Int × Int × Int × Int × Int × Int × Int × Int × Bool × Bool × Bool) (x : Int × Int) : St := bits_Div64_L1_tm.enc (bits_Div64_L1_to p x)
theorem bits_Div64_L1_ev (F : Nat → Prop) (bits_LZ64 : Int → Int) (bits_Div64_L0_ok : (Int × Int × Int × Int × Int × Int × Int × Int × Int × Bool × Bool × Bool) → (Int × Int) → Bool) (bits_Div64_L0_v : (Int × Int × Int × Int × Int × Int × Int × Int × Int × Bool × Bool × Bool) → (Int × Int) → Int × Int) (v2 : Int) (v6 : Int) (v7 : Int) (v8 : Int) (v9 : Int) (v10 : Int) (v14 : Int) (v15 : Int) (v17 : Int) (v20 : Bool) (v24 : Bool) (v27 : Bool) (v16 : Int) (v18 : Int) (Q : ((Int × Int × Int × Int × Int × Int × Int × Int × Int × Bool × Bool × Bool) × (Int × Int)) ⊕ ((Int × Int × Int × Int × Int × Int × Int × Int × Int × Bool × Bool × Bool) × (Int × Int)) → Prop) : evC Try.prog (mkC ([(150, .s (sumT (aOne (cInt .u64)) fun x => (o1 (cInt .i64)).enc (bits_LZ64 x)))]) F) (fun id => cond (Nat.beq 17 id) (some (lsE 0 bits_Div64_L0_dec bits_Div64_L0_I bits_Div64_L0_ok bits_Div64_L0_v)) (none) : Loops) 60 (lp Try.f146 1) (bits_Div64_L1_I (v2, v6, v7, v8, v9, v10, v14, v15, v17, v20, v24, v27) (v16, v18)) (fun y s => onO Q (bkE 2 bits_Div64_L1_dec y s)) = (bits_Div64_L1_T  v2 v6 v7 v8 v9 v10 v14 v15 v17 v20 v24 v27 v16 v18).prop (onT (v2, v6, v7, v8, v9, v10, v14, v15, v17, v20, v24, v27) Q) := by kernel_rfl
set_option maxRecDepth 100000 in
theorem bits_Div64_L1_ls {F : Nat → Prop} {B : Nat} {w0 : World} {s : St} {k : X → St → Prop} (hk : (lsE 2 bits_Div64_L1_dec bits_Div64_L1_I bits_Div64_L1_ok bits_Div64_L1_v) s k) : EW Try.prog (mkC ([(150, .s (sumT (aOne (cInt .u64)) fun x => (o1 (cInt .i64)).enc (bits_LZ64 x)))]) F) B w0 (.loop (lp Try.f146 1)) s k :=
  lsE_ok (fun _ _ _ h => weak_of bits_Div64_L1_ot (.inl rfl) h) (step := bits_Div64_L1_step) (fun p x Q h => evC_spec mixed (mkC_ok (AllGood.cons bits_LZ64_ok AllGood.nil) F) (L := (fun id => cond (Nat.beq 17 id) (some (lsE 0 bits_Div64_L0_dec bits_Div64_L0_I bits_Div64_L0_ok bits_Div64_L0_v)) (none) : Loops)) (u := 60) _ (loops_nil (by kernel_rfl)) _ _ (Eq.mpr (bits_Div64_L1_ev F bits_LZ64 bits_Div64_L0_ok bits_Div64_L0_v p.1 p.2.1 p.2.2.1 p.2.2.2.1 p.2.2.2.2.1 p.2.2.2.2.2.1 p.2.2.2.2.2.2.1 p.2.2.2.2.2.2.2.1 p.2.2.2.2.2.2.2.2.1 p.2.2.2.2.2.2.2.2.2.1 p.2.2.2.2.2.2.2.2.2.2.1 p.2.2.2.2.2.2.2.2.2.2.2 x.1 x.2 Q) h)) (fun _ _ h => run_ok h) hk
theorem bits_Div64_ev (F : Nat → Prop) (bits_LZ64 : Int → Int) (bits_Div64_L0_ok : (Int × Int × Int × Int × Int × Int × Int × Int × Int × Bool × Bool × Bool) → (Int × Int) → Bool) (bits_Div64_L0_v : (Int × Int × Int × Int × Int × Int × Int × Int × Int × Bool × Bool × Bool) → (Int × Int) → Int × Int) (bits_Div64_L1_ok : (Int × Int × Int × Int × Int × Int × Int × Int × Int × Bool × Bool × Bool) → (Int × Int) → Bool) (bits_Div64_L1_v : (Int × Int × Int × Int × Int × Int × Int × Int × Int × Bool × Bool × Bool) → (Int × Int) → Int × Int) (hi : Int) (lo : Int) (y : Int) (Q : AV → Prop) : evF Try.prog (mkC ([(150, .s (sumT (aOne (cInt .u64)) fun x => (o1 (cInt .i64)).enc (bits_LZ64 x)))]) F) (fun id => cond (Nat.beq 24 id) (some (lsE 2 bits_Div64_L1_dec bits_Div64_L1_I bits_Div64_L1_ok bits_Div64_L1_v)) (cond (Nat.beq 17 id) (some (lsE 0 bits_Div64_L0_dec bits_Div64_L0_I bits_Div64_L0_ok bits_Div64_L0_v)) (none)) : Loops) 60 Try.f146 ((aCons (cInt .u64) (aCons (cInt .u64) (aOne (cInt .u64)))).enc false (hi, lo, y)) Q = (bits_Div64_T bits_LZ64 bits_Div64_L0_ok bits_Div64_L0_v bits_Div64_L1_ok bits_Div64_L1_v hi lo y).prop (fun x => Q ((o2 (cInt .u64) (cInt .u64)).enc x)) := by kernel_rfl
theorem bits_Div64_c (x : Int × Int × Int) (hs : bits_Div64_s x.1 x.2.1 x.2.2 = true) (w : World) (vs : Array Value) (hp : ArgsR ((aCons (cInt .u64) (aCons (cInt .u64) (aOne (cInt .u64)))).enc false x) w vs) : Calls Try.prog 146 vs w (Ans ((o2 (cInt .u64) (cInt .u64)).enc (bits_Div64 x.1 x.2.1 x.2.2)) w) :=
  contractT mixed (AllGood.cons bits_LZ64_ok AllGood.nil) Try.func146 (fun _ _ _ => loops_all (m := 2) (by kernel_rfl) (fun i hi => match i, hi with
    | 0, _ => (fun g hg s k hk => bits_Div64_L0_ls (cast (congrFun (congrFun (Option.some.inj (hg.symm.trans (by kernel_rfl))) s) k) hk))
    | 1, _ => (fun g hg s k hk => bits_Div64_L1_ls (cast (congrFun (congrFun (Option.some.inj (hg.symm.trans (by kernel_rfl))) s) k) hk))
    | (j + 2), hi => absurd hi (by omega))) hs (fun F => bits_Div64_ev F bits_LZ64 bits_Div64_L0_ok bits_Div64_L0_v bits_Div64_L1_ok bits_Div64_L1_v x.1 x.2.1 x.2.2) w vs hp
theorem bits_Div64_ok : GoodF Try.prog 146 (sumOf (aCons (cInt .u64) (aCons (cInt .u64) (aOne (cInt .u64)))) (fun x => bits_Div64_s x.1 x.2.1 x.2.2) fun x => (o2 (cInt .u64) (cInt .u64)).enc (bits_Div64 x.1 x.2.1 x.2.2)) :=
  good_sum (callable_of Try.func146 (by kernel_rfl) (by kernel_rfl)) bits_Div64_c
theorem wide_Mul_ev (F : Nat → Prop) (bits_Mul64 : Int → Int → Int × Int) (a : Int) (b : Int) (Q : AV → Prop) : evF Try.prog (mkC ([(131, .s (sumT (aCons (cInt .u64) (aOne (cInt .u64))) fun x => (o2 (cInt .u64) (cInt .u64)).enc (bits_Mul64 x.1 x.2)))]) F) noL 60 Try.f110 ((aCons (cInt .u64) (aOne (cInt .u64))).enc false (a, b)) Q = (wide_Mul_T bits_Mul64 a b).prop (fun x => Q ((o1 (cU2)).enc x)) := by kernel_rfl
theorem wide_Mul_c (x : Int × Int) (w : World) (vs : Array Value) (hp : ArgsR ((aCons (cInt .u64) (aOne (cInt .u64))).enc false x) w vs) : Calls Try.prog 110 vs w (Ans ((o1 (cU2)).enc (wide_Mul x.1 x.2)) w) :=
  contractT mixed (AllGood.cons bits_Mul64_ok AllGood.nil) Try.func110 (fun _ _ _ _ _ => noL_ok) (Tr.safe_of (t := wide_Mul_t x.1 x.2) rfl) (fun F => wide_Mul_ev F bits_Mul64 x.1 x.2) w vs hp
theorem wide_Mul_ok : GoodF Try.prog 110 (sumT (aCons (cInt .u64) (aOne (cInt .u64))) fun x => (o1 (cU2)).enc (wide_Mul x.1 x.2)) :=
  good_sumT (callable_of Try.func110 (by kernel_rfl) (by kernel_rfl)) wide_Mul_c
theorem u2_Add_ev (F : Nat → Prop) (bits_Add64 : Int → Int → Int → Int × Int) (bits_Add64_s : Int → Int → Int → Bool) (a : U2) (b : U2) (Q : AV → Prop) : evF Try.prog (mkC ([(141, .s (sumOf (aCons (cInt .u64) (aCons (cInt .u64) (aOne (cInt .u64)))) (fun x => bits_Add64_s x.1 x.2.1 x.2.2) fun x => (o2 (cInt .u64) (cInt .u64)).enc (bits_Add64 x.1 x.2.1 x.2.2)))]) F) noL 60 Try.f127 ((aCons (cU2) (aOne (cU2))).enc false (a, b)) Q = (u2_Add_T bits_Add64 bits_Add64_s a b).prop (fun x => Q ((o2 (cU2) (cInt .u64)).enc x)) := by kernel_rfl
theorem u2_Add_c (x : U2 × U2) (hs : u2_Add_s x.1 x.2 = true) (w : World) (vs : Array Value) (hp : ArgsR ((aCons (cU2) (aOne (cU2))).enc false x) w vs) : Calls Try.prog 127 vs w (Ans ((o2 (cU2) (cInt .u64)).enc (u2_Add x.1 x.2)) w) :=
  contractT mixed (AllGood.ext bits_Add64_ok AllGood.nil) Try.func127 (fun _ _ _ _ _ => noL_ok) hs (fun F => u2_Add_ev F bits_Add64 bits_Add64_s x.1 x.2) w vs hp
theorem u2_Add_ok : GoodF Try.prog 127 (sumOf (aCons (cU2) (aOne (cU2))) (fun x => u2_Add_s x.1 x.2) fun x => (o2 (cU2) (cInt .u64)).enc (u2_Add x.1 x.2)) :=
  good_sum (callable_of Try.func127 (by kernel_rfl) (by kernel_rfl)) u2_Add_c
theorem u2_Sub_ev (F : Nat → Prop) (bits_Sub64 : Int → Int → Int → Int × Int) (bits_Sub64_s : Int → Int → Int → Bool) (a : U2) (b : U2) (Q : AV → Prop) : evF Try.prog (mkC ([(142, .s (sumOf (aCons (cInt .u64) (aCons (cInt .u64) (aOne (cInt .u64)))) (fun x => bits_Sub64_s x.1 x.2.1 x.2.2) fun x => (o2 (cInt .u64) (cInt .u64)).enc (bits_Sub64 x.1 x.2.1 x.2.2)))]) F) noL 60 Try.f128 ((aCons (cU2) (aOne (cU2))).enc false (a, b)) Q = (u2_Sub_T bits_Sub64 bits_Sub64_s a b).prop (fun x => Q ((o2 (cU2) (cInt .u64)).enc x)) := by kernel_rfl
theorem u2_Sub_c (x : U2 × U2) (hs : u2_Sub_s x.1 x.2 = true) (w : World) (vs : Array Value) (hp : ArgsR ((aCons (cU2) (aOne (cU2))).enc false x) w vs) : Calls Try.prog 128 vs w (Ans ((o2 (cU2) (cInt .u64)).enc (u2_Sub x.1 x.2)) w) :=
  contractT mixed (AllGood.ext bits_Sub64_ok AllGood.nil) Try.func128 (fun _ _ _ _ _ => noL_ok) hs (fun F => u2_Sub_ev F bits_Sub64 bits_Sub64_s x.1 x.2) w vs hp
theorem u2_Sub_ok : GoodF Try.prog 128 (sumOf (aCons (cU2) (aOne (cU2))) (fun x => u2_Sub_s x.1 x.2) fun x => (o2 (cU2) (cInt .u64)).enc (u2_Sub x.1 x.2)) :=
  good_sum (callable_of Try.func128 (by kernel_rfl) (by kernel_rfl)) u2_Sub_c
theorem u2_Len_ev (F : Nat → Prop) (bits_Len64 : Int → Int) (a : U2) (Q : AV → Prop) : evF Try.prog (mkC ([(143, .s (sumT (aOne (cInt .u64)) fun x => (o1 (cInt .i64)).enc (bits_Len64 x)))]) F) noL 60 Try.f129 ((aOne (cU2)).enc false a) Q = (u2_Len_T bits_Len64 a).prop (fun x => Q ((o1 (cInt .i64)).enc x)) := by kernel_rfl
theorem u2_Len_c (x : U2) (w : World) (vs : Array Value) (hp : ArgsR ((aOne (cU2)).enc false x) w vs) : Calls Try.prog 129 vs w (Ans ((o1 (cInt .i64)).enc (u2_Len x)) w) :=
  contractT mixed (AllGood.cons bits_Len64_ok AllGood.nil) Try.func129 (fun _ _ _ _ _ => noL_ok) (Tr.safe_of (t := u2_Len_t x) rfl) (fun F => u2_Len_ev F bits_Len64 x) w vs hp
theorem u2_Len_ok : GoodF Try.prog 129 (sumT (aOne (cU2)) fun x => (o1 (cInt .i64)).enc (u2_Len x)) :=
  good_sumT (callable_of Try.func129 (by kernel_rfl) (by kernel_rfl)) u2_Len_c
def u2_Shl_L0_tm : Tm :=
  Tm.mk
    [none, some (false, [Sh.int IntKind.i64]), some (false, [Sh.ptr 0 0]), none, some (false, [Sh.ptr 1 0]), none, none,
      none, none, none, none, none, none, none, none, none, none, none, none, none, none, none, none, none, none, none,
      none, none, none, none, none, none, none, none]
    [Hs.cells 110 [Sh.int IntKind.u64, Sh.int IntKind.u64], Hs.cells 110 [Sh.int IntKind.u64, Sh.int IntKind.u64]] false
def u2_Shl_L0_of : List Pv → Option ((Int × Int) × (Int × Int × Int))
  | [.i v1, .i h0_0, .i h0_1, .i h1_0, .i h1_1] => some ((h1_0, h1_1), (v1, h0_0, h0_1))
  | _ => none
def u2_Shl_L0_to (p : Int × Int) (x : Int × Int × Int) : List Pv := [.i x.1, .i x.2.1, .i x.2.2, .i p.1, .i p.2]
theorem u2_Shl_L0_ot (l : List Pv) (p : Int × Int) (x : Int × Int × Int) (h : u2_Shl_L0_of l = some (p, x)) : u2_Shl_L0_to p x = l := by
  unfold u2_Shl_L0_of at h
  split at h
  · cases h; rfl
  · cases h
def u2_Shl_L0_dec (s : St) : Option ((Int × Int) × (Int × Int × Int)) := (u2_Shl_L0_tm.dec s).bind u2_Shl_L0_of
def u2_Shl_L0_I (p : Int × Int) (x : Int × Int × Int) : St := u2_Shl_L0_tm.enc (u2_Shl_L0_to p x)
def u2_Shl_L0_tmR : Tm :=
  Tm.mk
    [none, none, none, none, some (false, [Sh.ptr 0 0]), none, none, none, none, none, none, none, none, none, none, none,
      none, none, none, none, none, none, none, none, none, none, none, none, none, none, none, none, none, none]
    [Hs.cells 110 [Sh.int IntKind.u64, Sh.int IntKind.u64]] false
def u2_Shl_L0_ofR : List Pv → Option (Int × Int)
  | [.i h0_0, .i h0_1] => some (h0_0, h0_1)
  | _ => none
def u2_Shl_L0_toR (r : Int × Int) : List Pv := [.i r.1, .i r.2]
theorem u2_Shl_L0_otR (l : List Pv) (r : Int × Int) (h : u2_Shl_L0_ofR l = some r) : u2_Shl_L0_toR r = l := by
  unfold u2_Shl_L0_ofR at h
  split at h
  · cases h; rfl
  · cases h
def u2_Shl_L0_decR (s : St) : Option (Int × Int) := (u2_Shl_L0_tmR.dec s).bind u2_Shl_L0_ofR
def u2_Shl_L0_R (r : Int × Int) : St := u2_Shl_L0_tmR.enc (u2_Shl_L0_toR r)
theorem u2_Shl_L0_ev (F : Nat → Prop)  (h1_0 : Int) (h1_1 : Int) (v1 : Int) (h0_0 : Int) (h0_1 : Int) (Q : ((Int × Int) × (Int × Int × Int)) ⊕ (((Int × Int) × (Int × Int × Int)) ⊕ (Int × Int)) → Prop) : evC Try.prog (mkC ([]) F) noL 60 (lp Try.f125 0) (u2_Shl_L0_I (h1_0, h1_1) (v1, h0_0, h0_1)) (fun y s => onO Q (bkB 0 u2_Shl_L0_dec u2_Shl_L0_decR y s)) = (u2_Shl_L0_T  h1_0 h1_1 v1 h0_0 h0_1).prop (onB (h1_0, h1_1) Q) := by kernel_rfl
set_option maxRecDepth 100000 in
theorem u2_Shl_L0_ls {F : Nat → Prop} {B : Nat} {w0 : World} {s : St} {k : X → St → Prop} (hk : (lsB 0 u2_Shl_L0_dec u2_Shl_L0_I u2_Shl_L0_R u2_Shl_L0_ok u2_Shl_L0_rt u2_Shl_L0_v u2_Shl_L0_rv) s k) : EW Try.prog (mkC ([]) F) B w0 (.loop (lp Try.f125 0)) s k :=
  lsB_ok (fun _ _ _ h => weak_of u2_Shl_L0_ot (.inl rfl) h) (fun _ _ h => weak_ofR u2_Shl_L0_otR (.inl rfl) h) (step := u2_Shl_L0_step) (fun p x Q h => evC_spec mixed (mkC_ok AllGood.nil F) (L := noL) (u := 60) _ (loops_nil (by kernel_rfl)) _ _ (Eq.mpr (u2_Shl_L0_ev F  p.1 p.2 x.1 x.2.1 x.2.2 Q) h)) (fun _ _ h => run_okB h) hk
theorem u2_Shl_ev (F : Nat → Prop) (u2_Shl_L0_ok : (Int × Int) → (Int × Int × Int) → Bool) (u2_Shl_L0_rt : (Int × Int) → (Int × Int × Int) → Bool) (u2_Shl_L0_v : (Int × Int) → (Int × Int × Int) → Int × Int × Int) (u2_Shl_L0_rv : (Int × Int) → (Int × Int × Int) → Int × Int) (a : U2) (n : Int) (Q : AV → Prop) : evF Try.prog (mkC ([]) F) (fun id => cond (Nat.beq 1 id) (some (lsB 0 u2_Shl_L0_dec u2_Shl_L0_I u2_Shl_L0_R u2_Shl_L0_ok u2_Shl_L0_rt u2_Shl_L0_v u2_Shl_L0_rv)) (none) : Loops) 60 Try.f125 ((aCons (cU2) (aOne (cInt .i64))).enc false (a, n)) Q = (u2_Shl_T u2_Shl_L0_ok u2_Shl_L0_rt u2_Shl_L0_v u2_Shl_L0_rv a n).prop (fun x => Q ((o1 (cU2)).enc x)) := by kernel_rfl
theorem u2_Shl_c (x : U2 × Int) (hs : u2_Shl_s x.1 x.2 = true) (w : World) (vs : Array Value) (hp : ArgsR ((aCons (cU2) (aOne (cInt .i64))).enc false x) w vs) : Calls Try.prog 125 vs w (Ans ((o1 (cU2)).enc (u2_Shl x.1 x.2)) w) :=
  contractT mixed AllGood.nil Try.func125 (fun _ _ _ => loops_all (m := 1) (by kernel_rfl) (fun i hi => match i, hi with
    | 0, _ => (fun g hg s k hk => u2_Shl_L0_ls (cast (congrFun (congrFun (Option.some.inj (hg.symm.trans (by kernel_rfl))) s) k) hk))
    | (j + 1), hi => absurd hi (by omega))) hs (fun F => u2_Shl_ev F u2_Shl_L0_ok u2_Shl_L0_rt u2_Shl_L0_v u2_Shl_L0_rv x.1 x.2) w vs hp
theorem u2_Shl_ok : GoodF Try.prog 125 (sumOf (aCons (cU2) (aOne (cInt .i64))) (fun x => u2_Shl_s x.1 x.2) fun x => (o1 (cU2)).enc (u2_Shl x.1 x.2)) :=
  good_sum (callable_of Try.func125 (by kernel_rfl) (by kernel_rfl)) u2_Shl_c
def u2_Shr_L0_tm : Tm :=
  Tm.mk
    [none, some (false, [Sh.int IntKind.i64]), some (false, [Sh.ptr 0 0]), none, some (false, [Sh.ptr 1 0]),
      some (false, [Sh.bool]), some (false, [Sh.bool]), none, none, none, none, none, none, none, none, none, none, none,
      none, none, none, none, none, none, none, none, none, none, none, none, none, none, none, none, none, none, none,
      none, none, none, none, none, none, none, none, none, none, none, none, none, none, none, none]
    [Hs.cells 110 [Sh.int IntKind.u64, Sh.int IntKind.u64], Hs.cells 110 [Sh.int IntKind.u64, Sh.int IntKind.u64]] false
def u2_Shr_L0_of : List Pv → Option ((Bool × Int × Int) × (Int × Bool × Int × Int))
  | [.i v1, .b v5, .b v6, .i h0_0, .i h0_1, .i h1_0, .i h1_1] => some ((v5, h1_0, h1_1), (v1, v6, h0_0, h0_1))
  | _ => none
def u2_Shr_L0_to (p : Bool × Int × Int) (x : Int × Bool × Int × Int) : List Pv := [.i x.1, .b p.1, .b x.2.1, .i x.2.2.1, .i x.2.2.2, .i p.2.1, .i p.2.2]
theorem u2_Shr_L0_ot (l : List Pv) (p : Bool × Int × Int) (x : Int × Bool × Int × Int) (h : u2_Shr_L0_of l = some (p, x)) : u2_Shr_L0_to p x = l := by
  unfold u2_Shr_L0_of at h
  split at h
  · cases h; rfl
  · cases h
def u2_Shr_L0_dec (s : St) : Option ((Bool × Int × Int) × (Int × Bool × Int × Int)) := (u2_Shr_L0_tm.dec s).bind u2_Shr_L0_of
def u2_Shr_L0_I (p : Bool × Int × Int) (x : Int × Bool × Int × Int) : St := u2_Shr_L0_tm.enc (u2_Shr_L0_to p x)
def u2_Shr_L0_tmR : Tm :=
  Tm.mk
    [none, none, none, none, some (false, [Sh.ptr 0 0]), some (false, [Sh.bool]), none, none, none, none, none, none,
      none, none, none, none, none, none, none, none, none, none, none, none, none, none, none, none, none, none, none,
      none, none, none, none, none, none, none, none, none, none, none, none, none, none, none, none, none, none, none,
      none, none, none]
    [Hs.cells 110 [Sh.int IntKind.u64, Sh.int IntKind.u64]] false
def u2_Shr_L0_ofR : List Pv → Option (Bool × Int × Int)
  | [.b v5, .i h0_0, .i h0_1] => some (v5, h0_0, h0_1)
  | _ => none
def u2_Shr_L0_toR (r : Bool × Int × Int) : List Pv := [.b r.1, .i r.2.1, .i r.2.2]
theorem u2_Shr_L0_otR (l : List Pv) (r : Bool × Int × Int) (h : u2_Shr_L0_ofR l = some r) : u2_Shr_L0_toR r = l := by
  unfold u2_Shr_L0_ofR at h
  split at h
  · cases h; rfl
  · cases h
def u2_Shr_L0_decR (s : St) : Option (Bool × Int × Int) := (u2_Shr_L0_tmR.dec s).bind u2_Shr_L0_ofR
def u2_Shr_L0_R (r : Bool × Int × Int) : St := u2_Shr_L0_tmR.enc (u2_Shr_L0_toR r)
theorem u2_Shr_L0_ev (F : Nat → Prop)  (v5 : Bool) (h1_0 : Int) (h1_1 : Int) (v1 : Int) (v6 : Bool) (h0_0 : Int) (h0_1 : Int) (Q : ((Bool × Int × Int) × (Int × Bool × Int × Int)) ⊕ (((Bool × Int × Int) × (Int × Bool × Int × Int)) ⊕ (Bool × Int × Int)) → Prop) : evC Try.prog (mkC ([]) F) noL 60 (lp Try.f126 0) (u2_Shr_L0_I (v5, h1_0, h1_1) (v1, v6, h0_0, h0_1)) (fun y s => onO Q (bkB 0 u2_Shr_L0_dec u2_Shr_L0_decR y s)) = (u2_Shr_L0_T  v5 h1_0 h1_1 v1 v6 h0_0 h0_1).prop (onB (v5, h1_0, h1_1) Q) := by kernel_rfl
set_option maxRecDepth 100000 in
theorem u2_Shr_L0_ls {F : Nat → Prop} {B : Nat} {w0 : World} {s : St} {k : X → St → Prop} (hk : (lsB 0 u2_Shr_L0_dec u2_Shr_L0_I u2_Shr_L0_R u2_Shr_L0_ok u2_Shr_L0_rt u2_Shr_L0_v u2_Shr_L0_rv) s k) : EW Try.prog (mkC ([]) F) B w0 (.loop (lp Try.f126 0)) s k :=
  lsB_ok (fun _ _ _ h => weak_of u2_Shr_L0_ot (.inl rfl) h) (fun _ _ h => weak_ofR u2_Shr_L0_otR (.inl rfl) h) (step := u2_Shr_L0_step) (fun p x Q h => evC_spec mixed (mkC_ok AllGood.nil F) (L := noL) (u := 60) _ (loops_nil (by kernel_rfl)) _ _ (Eq.mpr (u2_Shr_L0_ev F  p.1 p.2.1 p.2.2 x.1 x.2.1 x.2.2.1 x.2.2.2 Q) h)) (fun _ _ h => run_okB h) hk
theorem u2_Shr_ev (F : Nat → Prop) (u2_Shr_L0_ok : (Bool × Int × Int) → (Int × Bool × Int × Int) → Bool) (u2_Shr_L0_rt : (Bool × Int × Int) → (Int × Bool × Int × Int) → Bool) (u2_Shr_L0_v : (Bool × Int × Int) → (Int × Bool × Int × Int) → Int × Bool × Int × Int) (u2_Shr_L0_rv : (Bool × Int × Int) → (Int × Bool × Int × Int) → Bool × Int × Int) (a : U2) (n : Int) (Q : AV → Prop) : evF Try.prog (mkC ([]) F) (fun id => cond (Nat.beq 2 id) (some (lsB 0 u2_Shr_L0_dec u2_Shr_L0_I u2_Shr_L0_R u2_Shr_L0_ok u2_Shr_L0_rt u2_Shr_L0_v u2_Shr_L0_rv)) (none) : Loops) 60 Try.f126 ((aCons (cU2) (aOne (cInt .i64))).enc false (a, n)) Q = (u2_Shr_T u2_Shr_L0_ok u2_Shr_L0_rt u2_Shr_L0_v u2_Shr_L0_rv a n).prop (fun x => Q ((o2 (cU2) (cBool)).enc x)) := by kernel_rfl
theorem u2_Shr_c (x : U2 × Int) (hs : u2_Shr_s x.1 x.2 = true) (w : World) (vs : Array Value) (hp : ArgsR ((aCons (cU2) (aOne (cInt .i64))).enc false x) w vs) : Calls Try.prog 126 vs w (Ans ((o2 (cU2) (cBool)).enc (u2_Shr x.1 x.2)) w) :=
  contractT mixed AllGood.nil Try.func126 (fun _ _ _ => loops_all (m := 1) (by kernel_rfl) (fun i hi => match i, hi with
    | 0, _ => (fun g hg s k hk => u2_Shr_L0_ls (cast (congrFun (congrFun (Option.some.inj (hg.symm.trans (by kernel_rfl))) s) k) hk))
    | (j + 1), hi => absurd hi (by omega))) hs (fun F => u2_Shr_ev F u2_Shr_L0_ok u2_Shr_L0_rt u2_Shr_L0_v u2_Shr_L0_rv x.1 x.2) w vs hp
theorem u2_Shr_ok : GoodF Try.prog 126 (sumOf (aCons (cU2) (aOne (cInt .i64))) (fun x => u2_Shr_s x.1 x.2) fun x => (o2 (cU2) (cBool)).enc (u2_Shr x.1 x.2)) :=
  good_sum (callable_of Try.func126 (by kernel_rfl) (by kernel_rfl)) u2_Shr_c
theorem u2_Div_ev (F : Nat → Prop) (bits_Div64 : Int → Int → Int → Int × Int) (bits_Div64_s : Int → Int → Int → Bool) (a : U2) (b : Int) (Q : AV → Prop) : evF Try.prog (mkC ([(146, .s (sumOf (aCons (cInt .u64) (aCons (cInt .u64) (aOne (cInt .u64)))) (fun x => bits_Div64_s x.1 x.2.1 x.2.2) fun x => (o2 (cInt .u64) (cInt .u64)).enc (bits_Div64 x.1 x.2.1 x.2.2)))]) F) noL 60 Try.f132 ((aCons (cU2) (aOne (cInt .u64))).enc false (a, b)) Q = (u2_Div_T bits_Div64 bits_Div64_s a b).prop (fun x => Q ((o2 (cU2) (cInt .u64)).enc x)) := by kernel_rfl
theorem u2_Div_c (x : U2 × Int) (hs : u2_Div_s x.1 x.2 = true) (w : World) (vs : Array Value) (hp : ArgsR ((aCons (cU2) (aOne (cInt .u64))).enc false x) w vs) : Calls Try.prog 132 vs w (Ans ((o2 (cU2) (cInt .u64)).enc (u2_Div x.1 x.2)) w) :=
  contractT mixed (AllGood.cons bits_Div64_ok AllGood.nil) Try.func132 (fun _ _ _ _ _ => noL_ok) hs (fun F => u2_Div_ev F bits_Div64 bits_Div64_s x.1 x.2) w vs hp
theorem u2_Div_ok : GoodF Try.prog 132 (sumOf (aCons (cU2) (aOne (cInt .u64))) (fun x => u2_Div_s x.1 x.2) fun x => (o2 (cU2) (cInt .u64)).enc (u2_Div x.1 x.2)) :=
  good_sum (callable_of Try.func132 (by kernel_rfl) (by kernel_rfl)) u2_Div_c
end Go.Proofs.Ytdkbeajkedffeaa
