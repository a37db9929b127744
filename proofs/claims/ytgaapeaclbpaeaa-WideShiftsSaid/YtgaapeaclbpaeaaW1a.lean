/- Contracts and laws of functions of the program, on the way to the claim. Conditions: as each theorem states. -/
import Derived.Test.YtgaapeaclbpaeaaTyW
import Derived.Test.YtgaapeaclbpaeaaEvL
import Derived.Test.YtgaapeaclbpaeaaRows
import Derived.Test.YtgaapeaclbpaeaaW1d
namespace Go.Proofs.Ytgaapeaclbpaeaa
open Go.Ev Go.Fb

theorem mixed : Try.prog.follows .mixedOrders = true := by kernel_rfl
def add64E : Array Value → Sem Value := fun args => do
  let (x, y, c) ← Extern.MathBitsCarry.three "Add64" args
  pure (Extern.MathBitsCarry.pair ((x + y + c) % Extern.MathBitsCarry.m64) ((x + y + c) / Extern.MathBitsCarry.m64))
def sub64E : Array Value → Sem Value := fun args => do
  let (x, y, b) ← Extern.MathBitsCarry.three "Sub64" args
  pure (Extern.MathBitsCarry.pair ((x + Extern.MathBitsCarry.m64 - y - b) % Extern.MathBitsCarry.m64) (if x < y + b then 1 else 0))
theorem bits_Add64_ok : ExtF Try.prog 47 (sumOf (aCons (cInt .u64) (aCons (cInt .u64) (aOne (cInt .u64)))) (fun x => bits_Add64_s x.1 x.2.1 x.2.2) fun x => (o2 (cInt .u64) (cInt .u64)).enc (bits_Add64 x.1 x.2.1 x.2.2)) := by
  refine ext_sum Try.func47 (by kernel_rfl) (by kernel_rfl) (by kernel_rfl) (e := add64E) (by kernel_rfl) (fun x hp w vs h => ?_) (fun _ => rfl)
  have hc : x.2.2.toNat ≤ 1 := Nat.le_of_ble_eq_true hp
  obtain ⟨v0, r0, h0, a0, t0⟩ := AllR.uncons h
  obtain ⟨v1, r1, h1, a1, t1⟩ := t0.uncons
  obtain ⟨v2, r2, h2, a2, t2⟩ := t1.uncons
  have := t2.unnil
  subst this h2 h1
  have e0 : v0 = .int .u64 x.1 := a0 (mkC [] fun _ => True) (ES fun _ => True) (fun _ _ => ⟨fun h => h, fun e => nomatch e⟩)
  have e1 : v1 = .int .u64 x.2.1 := a1 (mkC [] fun _ => True) (ES fun _ => True) (fun _ _ => ⟨fun h => h, fun e => nomatch e⟩)
  have e2 : v2 = .int .u64 x.2.2 := a2 (mkC [] fun _ => True) (ES fun _ => True) (fun _ _ => ⟨fun h => h, fun e => nomatch e⟩)
  subst e0 e1 e2
  have ev : vs = #[.int .u64 x.1, .int .u64 x.2.1, .int .u64 x.2.2] := Array.ext' h0
  subst ev
  obtain ⟨a, b, c⟩ := x
  cases c with
  | ofNat n =>
    have hn : n ≤ 1 := hc
    match n, hn with
    | 0, _ => rfl
    | 1, _ => rfl
  | negSucc n => rfl
theorem bits_Sub64_ok : ExtF Try.prog 49 (sumOf (aCons (cInt .u64) (aCons (cInt .u64) (aOne (cInt .u64)))) (fun x => bits_Sub64_s x.1 x.2.1 x.2.2) fun x => (o2 (cInt .u64) (cInt .u64)).enc (bits_Sub64 x.1 x.2.1 x.2.2)) := by
  refine ext_sum Try.func49 (by kernel_rfl) (by kernel_rfl) (by kernel_rfl) (e := sub64E) (by kernel_rfl) (fun x hp w vs h => ?_) (fun _ => rfl)
  have hc : x.2.2.toNat ≤ 1 := Nat.le_of_ble_eq_true hp
  obtain ⟨v0, r0, h0, a0, t0⟩ := AllR.uncons h
  obtain ⟨v1, r1, h1, a1, t1⟩ := t0.uncons
  obtain ⟨v2, r2, h2, a2, t2⟩ := t1.uncons
  have := t2.unnil
  subst this h2 h1
  have e0 : v0 = .int .u64 x.1 := a0 (mkC [] fun _ => True) (ES fun _ => True) (fun _ _ => ⟨fun h => h, fun e => nomatch e⟩)
  have e1 : v1 = .int .u64 x.2.1 := a1 (mkC [] fun _ => True) (ES fun _ => True) (fun _ _ => ⟨fun h => h, fun e => nomatch e⟩)
  have e2 : v2 = .int .u64 x.2.2 := a2 (mkC [] fun _ => True) (ES fun _ => True) (fun _ _ => ⟨fun h => h, fun e => nomatch e⟩)
  subst e0 e1 e2
  have ev : vs = #[.int .u64 x.1, .int .u64 x.2.1, .int .u64 x.2.2] := Array.ext' h0
  subst ev
  obtain ⟨a, b, c⟩ := x
  cases c with
  | ofNat n =>
    have hn : n ≤ 1 := hc
    match n, hn with
    | 0, _ => rfl
    | 1, _ => rfl
  | negSucc n => rfl
/-! math/bits.Mul64 -/
theorem bits_Mul64_ev (F : Nat → Prop)  (x : Int) (y : Int) (Q : AV → Prop) : evF Try.prog (mkC ([]) F) noL 60 Try.f45 ((aCons (cInt .u64) (aOne (cInt .u64))).enc false (x, y)) Q = (bits_Mul64_T  x y).prop (fun x => Q ((o2 (cInt .u64) (cInt .u64)).enc x)) := by kernel_rfl
theorem bits_Mul64_c (x : Int × Int) (w : World) (vs : Array Value) (hp : ArgsR ((aCons (cInt .u64) (aOne (cInt .u64))).enc false x) w vs) : Calls Try.prog 45 vs w (Ans ((o2 (cInt .u64) (cInt .u64)).enc (bits_Mul64 x.1 x.2)) w) :=
  contractT mixed AllGood.nil Try.func45 (fun _ _ _ _ _ => noL_ok) (Tr.safe_of (t := bits_Mul64_t x.1 x.2) rfl) (fun F => bits_Mul64_ev F  x.1 x.2) w vs hp
theorem bits_Mul64_ok : GoodF Try.prog 45 (sumT (aCons (cInt .u64) (aOne (cInt .u64))) fun x => (o2 (cInt .u64) (cInt .u64)).enc (bits_Mul64 x.1 x.2)) :=
  good_sumT (callable_of Try.func45 (by kernel_rfl) (by kernel_rfl)) bits_Mul64_c
/-! math/bits.Len64 -/
theorem bits_Len64_ev (F : Nat → Prop)  (x : Int) (Q : AV → Prop) : evF Try.prog (mkC ([]) F) noL 60 Try.f51 ((aOne (cInt .u64)).enc false x) Q = (bits_Len64_T  x).prop (fun x => Q ((o1 (cInt .i64)).enc x)) := by kernel_rfl
theorem bits_Len64_safe (x : Int) : (bits_Len64_t x).safe = true := by
  have e : (len8.size : Int) = 256 := by kernel_rfl
  have h : ∀ n : Int, (decide (0 ≤ IntKind.u8.wrap n) && decide (IntKind.u8.wrap n < (len8.size : Int))) = true := fun n => by
    rw [e]
    simp only [IntKind.wrap, IntKind.bits, IntKind.signed, Bool.and_eq_true, decide_eq_true_eq]
    simp
    omega
  simp only [bits_Len64_t, bits_Len64_T, Tr.safe, h, Bool.true_and, Bool.cond_self]
theorem bits_Len64_c (x : Int) (w : World) (vs : Array Value) (hp : ArgsR ((aOne (cInt .u64)).enc false x) w vs) : Calls Try.prog 51 vs w (Ans ((o1 (cInt .i64)).enc (bits_Len64 x)) w) :=
  contractT mixed AllGood.nil Try.func51 (fun _ _ _ _ _ => noL_ok) (bits_Len64_safe x) (fun F => bits_Len64_ev F  x) w vs hp
theorem bits_Len64_ok : GoodF Try.prog 51 (sumT (aOne (cInt .u64)) fun x => (o1 (cInt .i64)).enc (bits_Len64 x)) :=
  good_sumT (callable_of Try.func51 (by kernel_rfl) (by kernel_rfl)) bits_Len64_c
/-! math/bits.LeadingZeros64 -/
theorem bits_LZ64_ev (F : Nat → Prop) (bits_Len64 : Int → Int) (x : Int) (Q : AV → Prop) : evF Try.prog (mkC ([(51, .s (sumT (aOne (cInt .u64)) fun x => (o1 (cInt .i64)).enc (bits_Len64 x)))]) F) noL 60 Try.f54 ((aOne (cInt .u64)).enc false x) Q = (bits_LZ64_T bits_Len64 x).prop (fun x => Q ((o1 (cInt .i64)).enc x)) := by kernel_rfl
theorem bits_LZ64_c (x : Int) (w : World) (vs : Array Value) (hp : ArgsR ((aOne (cInt .u64)).enc false x) w vs) : Calls Try.prog 54 vs w (Ans ((o1 (cInt .i64)).enc (bits_LZ64 x)) w) :=
  contractT mixed (AllGood.cons bits_Len64_ok AllGood.nil) Try.func54 (fun _ _ _ _ _ => noL_ok) (Tr.safe_of (t := bits_LZ64_t x) rfl) (fun F => bits_LZ64_ev F bits_Len64 x) w vs hp
theorem bits_LZ64_ok : GoodF Try.prog 54 (sumT (aOne (cInt .u64)) fun x => (o1 (cInt .i64)).enc (bits_LZ64 x)) :=
  good_sumT (callable_of Try.func54 (by kernel_rfl) (by kernel_rfl)) bits_LZ64_c
/-! math/bits.Div64 -/
def bits_Div64_L0_tm : Tm :=
  Tm.mk
    [none, none, some (false, [Sh.int IntKind.u64]), none, none, none, some (false, [Sh.int IntKind.u64]),
      some (false, [Sh.int IntKind.u64]), some (false, [Sh.int IntKind.u64]), some (false, [Sh.int IntKind.u64]),
      some (false, [Sh.int IntKind.u64]), some (false, [Sh.int IntKind.u64]), none, some (false, [Sh.int IntKind.u64]),
      some (false, [Sh.int IntKind.u64]), some (false, [Sh.int IntKind.u64]), some (false, [Sh.int IntKind.u64]), none,
      none, none, some (false, [Sh.bool]), none, none, none, some (false, [Sh.bool]), none, none, some (false, [Sh.bool]),
      none, none, none, none, none, none, none, none, none, none, none, none, none, none, none, none, none, none, none,
      none, none, none, none, none, none, none, none, none, none, none, none, none, none, none, none, none, none, none,
      none, none, none, none, none, none, none, none, none, none, none, none, none, none, none, none, none, none, none,
      none, none, none, none, none, none, none, none, none, none, none, none, none, none, none, none, none, none, none,
      none, none, none, none, none, none, none, none, none, none, none, none, none, none, none, none, none, none, none,
      none, none, none, none, none, none, none, none, none, none, none, none]
    [] false
def bits_Div64_L0_of : List Pv → Option ((Int × Int × Int × Int × Int × Int × Int × Int × Int × Bool × Bool × Bool) × (Int × Int))
  | [.i v2, .i v6, .i v7, .i v8, .i v9, .i v10, .i v11, .i v13, .i v14, .i v15, .i v16, .b v20, .b v24, .b v27] => some ((v2, v6, v7, v8, v9, v10, v11, v13, v14, v20, v24, v27), (v15, v16))
  | _ => none
def bits_Div64_L0_to (p : Int × Int × Int × Int × Int × Int × Int × Int × Int × Bool × Bool × Bool) (x : Int × Int) : List Pv := [.i p.1, .i p.2.1, .i p.2.2.1, .i p.2.2.2.1, .i p.2.2.2.2.1, .i p.2.2.2.2.2.1, .i p.2.2.2.2.2.2.1, .i p.2.2.2.2.2.2.2.1, .i p.2.2.2.2.2.2.2.2.1, .i x.1, .i x.2, .b p.2.2.2.2.2.2.2.2.2.1, .b p.2.2.2.2.2.2.2.2.2.2.1, .b p.2.2.2.2.2.2.2.2.2.2.2]
theorem bits_Div64_L0_ot (l : List Pv) (p : Int × Int × Int × Int × Int × Int × Int × Int × Int × Bool × Bool × Bool) (x : Int × Int) (h : bits_Div64_L0_of l = some (p, x)) : bits_Div64_L0_to p x = l := by
  unfold bits_Div64_L0_of at h
  split at h
  · cases h; rfl
  · cases h
def bits_Div64_L0_dec (s : St) : Option ((Int × Int × Int × Int × Int × Int × Int × Int × Int × Bool × Bool × Bool) × (Int × Int)) := (bits_Div64_L0_tm.dec s).bind bits_Div64_L0_of
def bits_Div64_L0_I (p : Int × Int × Int × Int × Int × Int × Int × Int × Int × Bool × Bool × Bool) (x : Int × Int) : St := bits_Div64_L0_tm.enc (bits_Div64_L0_to p x)
theorem bits_Div64_L0_ev (F : Nat → Prop) (bits_LZ64 : Int → Int) (v2 : Int) (v6 : Int) (v7 : Int) (v8 : Int) (v9 : Int) (v10 : Int) (v11 : Int) (v13 : Int) (v14 : Int) (v20 : Bool) (v24 : Bool) (v27 : Bool) (v15 : Int) (v16 : Int) (Q : ((Int × Int × Int × Int × Int × Int × Int × Int × Int × Bool × Bool × Bool) × (Int × Int)) ⊕ ((Int × Int × Int × Int × Int × Int × Int × Int × Int × Bool × Bool × Bool) × (Int × Int)) → Prop) : evC Try.prog (mkC ([(54, .s (sumT (aOne (cInt .u64)) fun x => (o1 (cInt .i64)).enc (bits_LZ64 x)))]) F) noL 60 (lp Try.f53 0) (bits_Div64_L0_I (v2, v6, v7, v8, v9, v10, v11, v13, v14, v20, v24, v27) (v15, v16)) (fun y s => onO Q (bkE 0 bits_Div64_L0_dec y s)) = (bits_Div64_L0_T  v2 v6 v7 v8 v9 v10 v11 v13 v14 v20 v24 v27 v15 v16).prop (onT (v2, v6, v7, v8, v9, v10, v11, v13, v14, v20, v24, v27) Q) := by kernel_rfl
set_option maxRecDepth 100000 in
theorem bits_Div64_L0_ls {F : Nat → Prop} {B : Nat} {w0 : World} {s : St} {k : X → St → Prop} (hk : (lsE 0 bits_Div64_L0_dec bits_Div64_L0_I bits_Div64_L0_ok bits_Div64_L0_v) s k) : EW Try.prog (mkC ([(54, .s (sumT (aOne (cInt .u64)) fun x => (o1 (cInt .i64)).enc (bits_LZ64 x)))]) F) B w0 (.loop (lp Try.f53 0)) s k :=
  lsE_ok (fun _ _ _ h => weak_of bits_Div64_L0_ot (.inl rfl) h) (step := bits_Div64_L0_step) (fun p x Q h => evC_spec mixed (mkC_ok (AllGood.cons bits_LZ64_ok AllGood.nil) F) (L := noL) (u := 60) _ (loops_nil (by kernel_rfl)) _ _ (Eq.mpr (bits_Div64_L0_ev F bits_LZ64 p.1 p.2.1 p.2.2.1 p.2.2.2.1 p.2.2.2.2.1 p.2.2.2.2.2.1 p.2.2.2.2.2.2.1 p.2.2.2.2.2.2.2.1 p.2.2.2.2.2.2.2.2.1 p.2.2.2.2.2.2.2.2.2.1 p.2.2.2.2.2.2.2.2.2.2.1 p.2.2.2.2.2.2.2.2.2.2.2 x.1 x.2 Q) h)) (fun _ _ h => run_ok h) hk
def bits_Div64_L1_tm : Tm :=
  Tm.mk
    [none, none, some (false, [Sh.int IntKind.u64]), none, none, none, some (false, [Sh.int IntKind.u64]),
      some (false, [Sh.int IntKind.u64]), some (false, [Sh.int IntKind.u64]), some (false, [Sh.int IntKind.u64]),
      some (false, [Sh.int IntKind.u64]), none, none, none, some (false, [Sh.int IntKind.u64]),
      some (false, [Sh.int IntKind.u64]), some (false, [Sh.int IntKind.u64]), some (false, [Sh.int IntKind.u64]),
      some (false, [Sh.int IntKind.u64]), none, some (false, [Sh.bool]), none, none, none, some (false, [Sh.bool]), none,
      none, some (false, [Sh.bool]), none, none, none, none, none, none, none, none, none, none, none, none, none, none,
      none, none, none, none, none, none, none, none, none, none, none, none, none, none, none, none, none, none, none,
      none, none, none, none, none, none, none, none, none, none, none, none, none, none, none, none, none, none, none,
      none, none, none, none, none, none, none, none, none, none, none, none, none, none, none, none, none, none, none,
      none, none, none, none, none, none, none, none, none, none, none, none, none, none, none, none, none, none, none,
      none, none, none, none, none, none, none, none, none, none, none, none, none, none, none, none, none]
    [] false
def bits_Div64_L1_of : List Pv → Option ((Int × Int × Int × Int × Int × Int × Int × Int × Int × Bool × Bool × Bool) × (Int × Int))
  | [.i v2, .i v6, .i v7, .i v8, .i v9, .i v10, .i v14, .i v15, .i v16, .i v17, .i v18, .b v20, .b v24, .b v27] => some ((v2, v6, v7, v8, v9, v10, v14, v15, v17, v20, v24, v27), (v16, v18))
  | _ => none
def bits_Div64_L1_to (p : Int × Int × Int × Int × Int × Int × Int × Int × Int × Bool × Bool × Bool) (x : Int × Int) : List Pv := [.i p.1, .i p.2.1, .i p.2.2.1, .i p.2.2.2.1, .i p.2.2.2.2.1, .i p.2.2.2.2.2.1, .i p.2.2.2.2.2.2.1, .i p.2.2.2.2.2.2.2.1, .i x.1, .i p.2.2.2.2.2.2.2.2.1, .i x.2, .b p.2.2.2.2.2.2.2.2.2.1, .b p.2.2.2.2.2.2.2.2.2.2.1, .b p.2.2.2.2.2.2.2.2.2.2.2]
theorem bits_Div64_L1_ot (l : List Pv) (p : Int × Int × Int × Int × Int × Int × Int × Int × Int × Bool × Bool × Bool) (x : Int × Int) (h : bits_Div64_L1_of l = some (p, x)) : bits_Div64_L1_to p x = l := by
  unfold bits_Div64_L1_of at h
  split at h
  · cases h; rfl
  · cases h
def bits_Div64_L1_dec (s : St) : Option ((Int × Int × Int × Int × Int × Int × Int × Int × Int × Bool × Bool × Bool) × (Int × Int)) := (bits_Div64_L1_tm.dec s).bind bits_Div64_L1_of
def bits_Div64_L1_I (p : Int × Int × Int × Int × Int × Int × Int × Int × Int × Bool × Bool × Bool) (x : Int × Int) : St := bits_Div64_L1_tm.enc (bits_Div64_L1_to p x)
theorem bits_Div64_L1_ev (F : Nat → Prop) (bits_LZ64 : Int → Int) (bits_Div64_L0_ok : (Int × Int × Int × Int × Int × Int × Int × Int × Int × Bool × Bool × Bool) → (Int × Int) → Bool) (bits_Div64_L0_v : (Int × Int × Int × Int × Int × Int × Int × Int × Int × Bool × Bool × Bool) → (Int × Int) → Int × Int) (v2 : Int) (v6 : Int) (v7 : Int) (v8 : Int) (v9 : Int) (v10 : Int) (v14 : Int) (v15 : Int) (v17 : Int) (v20 : Bool) (v24 : Bool) (v27 : Bool) (v16 : Int) (v18 : Int) (Q : ((Int × Int × Int × Int × Int × Int × Int × Int × Int × Bool × Bool × Bool) × (Int × Int)) ⊕ ((Int × Int × Int × Int × Int × Int × Int × Int × Int × Bool × Bool × Bool) × (Int × Int)) → Prop) : evC Try.prog (mkC ([(54, .s (sumT (aOne (cInt .u64)) fun x => (o1 (cInt .i64)).enc (bits_LZ64 x)))]) F) (fun id => cond (Nat.beq 17 id) (some (lsE 0 bits_Div64_L0_dec bits_Div64_L0_I bits_Div64_L0_ok bits_Div64_L0_v)) (none) : Loops) 60 (lp Try.f53 1) (bits_Div64_L1_I (v2, v6, v7, v8, v9, v10, v14, v15, v17, v20, v24, v27) (v16, v18)) (fun y s => onO Q (bkE 2 bits_Div64_L1_dec y s)) = (bits_Div64_L1_T  v2 v6 v7 v8 v9 v10 v14 v15 v17 v20 v24 v27 v16 v18).prop (onT (v2, v6, v7, v8, v9, v10, v14, v15, v17, v20, v24, v27) Q) := by kernel_rfl
set_option maxRecDepth 100000 in
theorem bits_Div64_L1_ls {F : Nat → Prop} {B : Nat} {w0 : World} {s : St} {k : X → St → Prop} (hk : (lsE 2 bits_Div64_L1_dec bits_Div64_L1_I bits_Div64_L1_ok bits_Div64_L1_v) s k) : EW Try.prog (mkC ([(54, .s (sumT (aOne (cInt .u64)) fun x => (o1 (cInt .i64)).enc (bits_LZ64 x)))]) F) B w0 (.loop (lp Try.f53 1)) s k :=
  lsE_ok (fun _ _ _ h => weak_of bits_Div64_L1_ot (.inl rfl) h) (step := bits_Div64_L1_step) (fun p x Q h => evC_spec mixed (mkC_ok (AllGood.cons bits_LZ64_ok AllGood.nil) F) (L := (fun id => cond (Nat.beq 17 id) (some (lsE 0 bits_Div64_L0_dec bits_Div64_L0_I bits_Div64_L0_ok bits_Div64_L0_v)) (none) : Loops)) (u := 60) _ (loops_nil (by kernel_rfl)) _ _ (Eq.mpr (bits_Div64_L1_ev F bits_LZ64 bits_Div64_L0_ok bits_Div64_L0_v p.1 p.2.1 p.2.2.1 p.2.2.2.1 p.2.2.2.2.1 p.2.2.2.2.2.1 p.2.2.2.2.2.2.1 p.2.2.2.2.2.2.2.1 p.2.2.2.2.2.2.2.2.1 p.2.2.2.2.2.2.2.2.2.1 p.2.2.2.2.2.2.2.2.2.2.1 p.2.2.2.2.2.2.2.2.2.2.2 x.1 x.2 Q) h)) (fun _ _ h => run_ok h) hk
theorem bits_Div64_ev (F : Nat → Prop) (bits_LZ64 : Int → Int) (bits_Div64_L0_ok : (Int × Int × Int × Int × Int × Int × Int × Int × Int × Bool × Bool × Bool) → (Int × Int) → Bool) (bits_Div64_L0_v : (Int × Int × Int × Int × Int × Int × Int × Int × Int × Bool × Bool × Bool) → (Int × Int) → Int × Int) (bits_Div64_L1_ok : (Int × Int × Int × Int × Int × Int × Int × Int × Int × Bool × Bool × Bool) → (Int × Int) → Bool) (bits_Div64_L1_v : (Int × Int × Int × Int × Int × Int × Int × Int × Int × Bool × Bool × Bool) → (Int × Int) → Int × Int) (hi : Int) (lo : Int) (y : Int) (Q : AV → Prop) : evF Try.prog (mkC ([(54, .s (sumT (aOne (cInt .u64)) fun x => (o1 (cInt .i64)).enc (bits_LZ64 x)))]) F) (fun id => cond (Nat.beq 24 id) (some (lsE 2 bits_Div64_L1_dec bits_Div64_L1_I bits_Div64_L1_ok bits_Div64_L1_v)) (cond (Nat.beq 17 id) (some (lsE 0 bits_Div64_L0_dec bits_Div64_L0_I bits_Div64_L0_ok bits_Div64_L0_v)) (none)) : Loops) 60 Try.f53 ((aCons (cInt .u64) (aCons (cInt .u64) (aOne (cInt .u64)))).enc false (hi, lo, y)) Q = (bits_Div64_T bits_LZ64 bits_Div64_L0_ok bits_Div64_L0_v bits_Div64_L1_ok bits_Div64_L1_v hi lo y).prop (fun x => Q ((o2 (cInt .u64) (cInt .u64)).enc x)) := by kernel_rfl
theorem bits_Div64_c (x : Int × Int × Int) (hs : bits_Div64_s x.1 x.2.1 x.2.2 = true) (w : World) (vs : Array Value) (hp : ArgsR ((aCons (cInt .u64) (aCons (cInt .u64) (aOne (cInt .u64)))).enc false x) w vs) : Calls Try.prog 53 vs w (Ans ((o2 (cInt .u64) (cInt .u64)).enc (bits_Div64 x.1 x.2.1 x.2.2)) w) :=
  contractT mixed (AllGood.cons bits_LZ64_ok AllGood.nil) Try.func53 (fun _ _ _ => loops_all (m := 2) (by kernel_rfl) (fun i hi => match i, hi with
    | 0, _ => (fun g hg s k hk => bits_Div64_L0_ls (cast (congrFun (congrFun (Option.some.inj (hg.symm.trans (by kernel_rfl))) s) k) hk))
    | 1, _ => (fun g hg s k hk => bits_Div64_L1_ls (cast (congrFun (congrFun (Option.some.inj (hg.symm.trans (by kernel_rfl))) s) k) hk))
    | (j + 2), hi => absurd hi (by omega))) hs (fun F => bits_Div64_ev F bits_LZ64 bits_Div64_L0_ok bits_Div64_L0_v bits_Div64_L1_ok bits_Div64_L1_v x.1 x.2.1 x.2.2) w vs hp
theorem bits_Div64_ok : GoodF Try.prog 53 (sumOf (aCons (cInt .u64) (aCons (cInt .u64) (aOne (cInt .u64)))) (fun x => bits_Div64_s x.1 x.2.1 x.2.2) fun x => (o2 (cInt .u64) (cInt .u64)).enc (bits_Div64 x.1 x.2.1 x.2.2)) :=
  good_sum (callable_of Try.func53 (by kernel_rfl) (by kernel_rfl)) bits_Div64_c
/-! flyball/wide.Mul -/
theorem wide_Mul_ev (F : Nat → Prop) (bits_Mul64 : Int → Int → Int × Int) (a : Int) (b : Int) (Q : AV → Prop) : evF Try.prog (mkC ([(45, .s (sumT (aCons (cInt .u64) (aOne (cInt .u64))) fun x => (o2 (cInt .u64) (cInt .u64)).enc (bits_Mul64 x.1 x.2)))]) F) noL 60 Try.f13 ((aCons (cInt .u64) (aOne (cInt .u64))).enc false (a, b)) Q = (wide_Mul_T bits_Mul64 a b).prop (fun x => Q ((o1 (cU2)).enc x)) := by kernel_rfl
theorem wide_Mul_c (x : Int × Int) (w : World) (vs : Array Value) (hp : ArgsR ((aCons (cInt .u64) (aOne (cInt .u64))).enc false x) w vs) : Calls Try.prog 13 vs w (Ans ((o1 (cU2)).enc (wide_Mul x.1 x.2)) w) :=
  contractT mixed (AllGood.cons bits_Mul64_ok AllGood.nil) Try.func13 (fun _ _ _ _ _ => noL_ok) (Tr.safe_of (t := wide_Mul_t x.1 x.2) rfl) (fun F => wide_Mul_ev F bits_Mul64 x.1 x.2) w vs hp
theorem wide_Mul_ok : GoodF Try.prog 13 (sumT (aCons (cInt .u64) (aOne (cInt .u64))) fun x => (o1 (cU2)).enc (wide_Mul x.1 x.2)) :=
  good_sumT (callable_of Try.func13 (by kernel_rfl) (by kernel_rfl)) wide_Mul_c
/-! flyball/wide.order -/
theorem wide_order2_ev (F : Nat → Prop)  (l : (Int × Int) × (Int × Int)) (Q : AV → Prop) : evF Try.prog (mkC ([]) F) noL 60 Try.f50 ((aOne (cLit ecW2 to2 of2 l2)).enc false l) Q = (wide_order2_T  l).prop (fun x => Q ((o1 (cInt .i64)).enc x)) := by kernel_rfl
theorem wide_order2_c (x : ((Int × Int) × (Int × Int))) (w : World) (vs : Array Value) (hp : ArgsR ((aOne (cLit ecW2 to2 of2 l2)).enc false x) w vs) : Calls Try.prog 50 vs w (Ans ((o1 (cInt .i64)).enc (wide_order2 x)) w) :=
  contractT mixed AllGood.nil Try.func50 (fun _ _ _ _ _ => noL_ok) (Tr.safe_of (t := wide_order2_t x) rfl) (fun F => wide_order2_ev F  x) w vs hp
theorem wide_order2_ok : GoodF Try.prog 50 (sumT (aOne (cLit ecW2 to2 of2 l2)) fun x => (o1 (cInt .i64)).enc (wide_order2 x)) :=
  good_sumT (callable_of Try.func50 (by kernel_rfl) (by kernel_rfl)) wide_order2_c
/-! flyball/wide.order -/
theorem wide_order3_ev (F : Nat → Prop)  (l : (Int × Int) × (Int × Int) × (Int × Int)) (Q : AV → Prop) : evF Try.prog (mkC ([]) F) noL 60 Try.f50 ((aOne (cLit ecW2 to3 of3 l3)).enc false l) Q = (wide_order3_T  l).prop (fun x => Q ((o1 (cInt .i64)).enc x)) := by kernel_rfl
theorem wide_order3_c (x : ((Int × Int) × (Int × Int) × (Int × Int))) (w : World) (vs : Array Value) (hp : ArgsR ((aOne (cLit ecW2 to3 of3 l3)).enc false x) w vs) : Calls Try.prog 50 vs w (Ans ((o1 (cInt .i64)).enc (wide_order3 x)) w) :=
  contractT mixed AllGood.nil Try.func50 (fun _ _ _ _ _ => noL_ok) (Tr.safe_of (t := wide_order3_t x) rfl) (fun F => wide_order3_ev F  x) w vs hp
theorem wide_order3_ok : GoodF Try.prog 50 (sumT (aOne (cLit ecW2 to3 of3 l3)) fun x => (o1 (cInt .i64)).enc (wide_order3 x)) :=
  good_sumT (callable_of Try.func50 (by kernel_rfl) (by kernel_rfl)) wide_order3_c
/-! (flyball/wide.U128).Add -/
theorem u2_Add_ev (F : Nat → Prop) (bits_Add64 : Int → Int → Int → Int × Int) (bits_Add64_s : Int → Int → Int → Bool) (a : U2) (b : U2) (Q : AV → Prop) : evF Try.prog (mkC ([(47, .s (sumOf (aCons (cInt .u64) (aCons (cInt .u64) (aOne (cInt .u64)))) (fun x => bits_Add64_s x.1 x.2.1 x.2.2) fun x => (o2 (cInt .u64) (cInt .u64)).enc (bits_Add64 x.1 x.2.1 x.2.2)))]) F) noL 60 Try.f22 ((aCons (cU2) (aOne (cU2))).enc false (a, b)) Q = (u2_Add_T bits_Add64 bits_Add64_s a b).prop (fun x => Q ((o2 (cU2) (cInt .u64)).enc x)) := by kernel_rfl
theorem u2_Add_c (x : U2 × U2) (hs : u2_Add_s x.1 x.2 = true) (w : World) (vs : Array Value) (hp : ArgsR ((aCons (cU2) (aOne (cU2))).enc false x) w vs) : Calls Try.prog 22 vs w (Ans ((o2 (cU2) (cInt .u64)).enc (u2_Add x.1 x.2)) w) :=
  contractT mixed (AllGood.ext bits_Add64_ok AllGood.nil) Try.func22 (fun _ _ _ _ _ => noL_ok) hs (fun F => u2_Add_ev F bits_Add64 bits_Add64_s x.1 x.2) w vs hp
theorem u2_Add_ok : GoodF Try.prog 22 (sumOf (aCons (cU2) (aOne (cU2))) (fun x => u2_Add_s x.1 x.2) fun x => (o2 (cU2) (cInt .u64)).enc (u2_Add x.1 x.2)) :=
  good_sum (callable_of Try.func22 (by kernel_rfl) (by kernel_rfl)) u2_Add_c
/-! (flyball/wide.U128).Sub -/
theorem u2_Sub_ev (F : Nat → Prop) (bits_Sub64 : Int → Int → Int → Int × Int) (bits_Sub64_s : Int → Int → Int → Bool) (a : U2) (b : U2) (Q : AV → Prop) : evF Try.prog (mkC ([(49, .s (sumOf (aCons (cInt .u64) (aCons (cInt .u64) (aOne (cInt .u64)))) (fun x => bits_Sub64_s x.1 x.2.1 x.2.2) fun x => (o2 (cInt .u64) (cInt .u64)).enc (bits_Sub64 x.1 x.2.1 x.2.2)))]) F) noL 60 Try.f23 ((aCons (cU2) (aOne (cU2))).enc false (a, b)) Q = (u2_Sub_T bits_Sub64 bits_Sub64_s a b).prop (fun x => Q ((o2 (cU2) (cInt .u64)).enc x)) := by kernel_rfl
theorem u2_Sub_c (x : U2 × U2) (hs : u2_Sub_s x.1 x.2 = true) (w : World) (vs : Array Value) (hp : ArgsR ((aCons (cU2) (aOne (cU2))).enc false x) w vs) : Calls Try.prog 23 vs w (Ans ((o2 (cU2) (cInt .u64)).enc (u2_Sub x.1 x.2)) w) :=
  contractT mixed (AllGood.ext bits_Sub64_ok AllGood.nil) Try.func23 (fun _ _ _ _ _ => noL_ok) hs (fun F => u2_Sub_ev F bits_Sub64 bits_Sub64_s x.1 x.2) w vs hp
theorem u2_Sub_ok : GoodF Try.prog 23 (sumOf (aCons (cU2) (aOne (cU2))) (fun x => u2_Sub_s x.1 x.2) fun x => (o2 (cU2) (cInt .u64)).enc (u2_Sub x.1 x.2)) :=
  good_sum (callable_of Try.func23 (by kernel_rfl) (by kernel_rfl)) u2_Sub_c
/-! (flyball/wide.U128).Cmp -/
theorem u2_Cmp_ev (F : Nat → Prop) (wide_order3 : ((Int × Int) × (Int × Int) × (Int × Int)) → Int) (wide_order2 : ((Int × Int) × (Int × Int)) → Int) (a : U2) (b : U2) (Q : AV → Prop) : evF Try.prog (mkC ([(50, .s (orS (sumT (aOne (cLit ecW2 to3 of3 l3)) fun x => (o1 (cInt .i64)).enc (wide_order3 x)) (sumT (aOne (cLit ecW2 to2 of2 l2)) fun x => (o1 (cInt .i64)).enc (wide_order2 x))))]) F) noL 60 Try.f27 ((aCons (cU2) (aOne (cU2))).enc false (a, b)) Q = (u2_Cmp_T wide_order2 a b).prop (fun x => Q ((o1 (cInt .i64)).enc x)) := by kernel_rfl
theorem u2_Cmp_c (x : U2 × U2) (w : World) (vs : Array Value) (hp : ArgsR ((aCons (cU2) (aOne (cU2))).enc false x) w vs) : Calls Try.prog 27 vs w (Ans ((o1 (cInt .i64)).enc (u2_Cmp x.1 x.2)) w) :=
  contractT mixed (AllGood.cons (good_or wide_order3_ok wide_order2_ok) AllGood.nil) Try.func27 (fun _ _ _ _ _ => noL_ok) (Tr.safe_of (t := u2_Cmp_t x.1 x.2) rfl) (fun F => u2_Cmp_ev F wide_order3 wide_order2 x.1 x.2) w vs hp
theorem u2_Cmp_ok : GoodF Try.prog 27 (sumT (aCons (cU2) (aOne (cU2))) fun x => (o1 (cInt .i64)).enc (u2_Cmp x.1 x.2)) :=
  good_sumT (callable_of Try.func27 (by kernel_rfl) (by kernel_rfl)) u2_Cmp_c
/-! (flyball/wide.U128).Len -/
theorem u2_Len_ev (F : Nat → Prop) (bits_Len64 : Int → Int) (a : U2) (Q : AV → Prop) : evF Try.prog (mkC ([(51, .s (sumT (aOne (cInt .u64)) fun x => (o1 (cInt .i64)).enc (bits_Len64 x)))]) F) noL 60 Try.f28 ((aOne (cU2)).enc false a) Q = (u2_Len_T bits_Len64 a).prop (fun x => Q ((o1 (cInt .i64)).enc x)) := by kernel_rfl
theorem u2_Len_c (x : U2) (w : World) (vs : Array Value) (hp : ArgsR ((aOne (cU2)).enc false x) w vs) : Calls Try.prog 28 vs w (Ans ((o1 (cInt .i64)).enc (u2_Len x)) w) :=
  contractT mixed (AllGood.cons bits_Len64_ok AllGood.nil) Try.func28 (fun _ _ _ _ _ => noL_ok) (Tr.safe_of (t := u2_Len_t x) rfl) (fun F => u2_Len_ev F bits_Len64 x) w vs hp
theorem u2_Len_ok : GoodF Try.prog 28 (sumT (aOne (cU2)) fun x => (o1 (cInt .i64)).enc (u2_Len x)) :=
  good_sumT (callable_of Try.func28 (by kernel_rfl) (by kernel_rfl)) u2_Len_c
/-! (flyball/wide.U128).Shl -/
def u2_Shl_L0_tm : Tm :=
  Tm.mk
    [none, some (false, [Sh.int IntKind.i64]), some (false, [Sh.ptr 0 0]), none, some (false, [Sh.ptr 1 0]), none, none,
      none, none, none, none, none, none, none, none, none, none, none, none, none, none, none, none, none, none, none,
      none, none, none, none, none, none, none, none]
    [Hs.cells 24 [Sh.int IntKind.u64, Sh.int IntKind.u64], Hs.cells 24 [Sh.int IntKind.u64, Sh.int IntKind.u64]] false
def u2_Shl_L0_of : List Pv → Option ((Int × Int) × (Int × Int × Int))
  | [.i v1, .i h0_0, .i h0_1, .i h1_0, .i h1_1] => some ((h1_0, h1_1), (v1, h0_0, h0_1))
  | _ => none
def u2_Shl_L0_to (p : Int × Int) (x : Int × Int × Int) : List Pv := [.i x.1, .i x.2.1, .i x.2.2, .i p.1, .i p.2]
theorem u2_Shl_L0_ot (l : List Pv) (p : Int × Int) (x : Int × Int × Int) (h : u2_Shl_L0_of l = some (p, x)) : u2_Shl_L0_to p x = l := by
  unfold u2_Shl_L0_of at h
  split at h
  · cases h; rfl
  · cases h
def u2_Shl_L0_dec (s : St) : Option ((Int × Int) × (Int × Int × Int)) := (u2_Shl_L0_tm.dec s).bind u2_Shl_L0_of
def u2_Shl_L0_I (p : Int × Int) (x : Int × Int × Int) : St := u2_Shl_L0_tm.enc (u2_Shl_L0_to p x)
def u2_Shl_L0_tmR : Tm :=
  Tm.mk
    [none, none, none, none, some (false, [Sh.ptr 0 0]), none, none, none, none, none, none, none, none, none, none, none,
      none, none, none, none, none, none, none, none, none, none, none, none, none, none, none, none, none, none]
    [Hs.cells 24 [Sh.int IntKind.u64, Sh.int IntKind.u64]] false
def u2_Shl_L0_ofR : List Pv → Option (Int × Int)
  | [.i h0_0, .i h0_1] => some (h0_0, h0_1)
  | _ => none
def u2_Shl_L0_toR (r : Int × Int) : List Pv := [.i r.1, .i r.2]
theorem u2_Shl_L0_otR (l : List Pv) (r : Int × Int) (h : u2_Shl_L0_ofR l = some r) : u2_Shl_L0_toR r = l := by
  unfold u2_Shl_L0_ofR at h
  split at h
  · cases h; rfl
  · cases h
def u2_Shl_L0_decR (s : St) : Option (Int × Int) := (u2_Shl_L0_tmR.dec s).bind u2_Shl_L0_ofR
def u2_Shl_L0_R (r : Int × Int) : St := u2_Shl_L0_tmR.enc (u2_Shl_L0_toR r)
theorem u2_Shl_L0_ev (F : Nat → Prop)  (h1_0 : Int) (h1_1 : Int) (v1 : Int) (h0_0 : Int) (h0_1 : Int) (Q : ((Int × Int) × (Int × Int × Int)) ⊕ (((Int × Int) × (Int × Int × Int)) ⊕ (Int × Int)) → Prop) : evC Try.prog (mkC ([]) F) noL 60 (lp Try.f30 0) (u2_Shl_L0_I (h1_0, h1_1) (v1, h0_0, h0_1)) (fun y s => onO Q (bkB 0 u2_Shl_L0_dec u2_Shl_L0_decR y s)) = (u2_Shl_L0_T  h1_0 h1_1 v1 h0_0 h0_1).prop (onB (h1_0, h1_1) Q) := by kernel_rfl
set_option maxRecDepth 100000 in
theorem u2_Shl_L0_ls {F : Nat → Prop} {B : Nat} {w0 : World} {s : St} {k : X → St → Prop} (hk : (lsB 0 u2_Shl_L0_dec u2_Shl_L0_I u2_Shl_L0_R u2_Shl_L0_ok u2_Shl_L0_rt u2_Shl_L0_v u2_Shl_L0_rv) s k) : EW Try.prog (mkC ([]) F) B w0 (.loop (lp Try.f30 0)) s k :=
  lsB_ok (fun _ _ _ h => weak_of u2_Shl_L0_ot (.inl rfl) h) (fun _ _ h => weak_ofR u2_Shl_L0_otR (.inl rfl) h) (step := u2_Shl_L0_step) (fun p x Q h => evC_spec mixed (mkC_ok AllGood.nil F) (L := noL) (u := 60) _ (loops_nil (by kernel_rfl)) _ _ (Eq.mpr (u2_Shl_L0_ev F  p.1 p.2 x.1 x.2.1 x.2.2 Q) h)) (fun _ _ h => run_okB h) hk
theorem u2_Shl_ev (F : Nat → Prop) (u2_Shl_L0_ok : (Int × Int) → (Int × Int × Int) → Bool) (u2_Shl_L0_rt : (Int × Int) → (Int × Int × Int) → Bool) (u2_Shl_L0_v : (Int × Int) → (Int × Int × Int) → Int × Int × Int) (u2_Shl_L0_rv : (Int × Int) → (Int × Int × Int) → Int × Int) (a : U2) (n : Int) (Q : AV → Prop) : evF Try.prog (mkC ([]) F) (fun id => cond (Nat.beq 1 id) (some (lsB 0 u2_Shl_L0_dec u2_Shl_L0_I u2_Shl_L0_R u2_Shl_L0_ok u2_Shl_L0_rt u2_Shl_L0_v u2_Shl_L0_rv)) (none) : Loops) 60 Try.f30 ((aCons (cU2) (aOne (cInt .i64))).enc false (a, n)) Q = (u2_Shl_T u2_Shl_L0_ok u2_Shl_L0_rt u2_Shl_L0_v u2_Shl_L0_rv a n).prop (fun x => Q ((o1 (cU2)).enc x)) := by kernel_rfl
theorem u2_Shl_c (x : U2 × Int) (hs : u2_Shl_s x.1 x.2 = true) (w : World) (vs : Array Value) (hp : ArgsR ((aCons (cU2) (aOne (cInt .i64))).enc false x) w vs) : Calls Try.prog 30 vs w (Ans ((o1 (cU2)).enc (u2_Shl x.1 x.2)) w) :=
  contractT mixed AllGood.nil Try.func30 (fun _ _ _ => loops_all (m := 1) (by kernel_rfl) (fun i hi => match i, hi with
    | 0, _ => (fun g hg s k hk => u2_Shl_L0_ls (cast (congrFun (congrFun (Option.some.inj (hg.symm.trans (by kernel_rfl))) s) k) hk))
    | (j + 1), hi => absurd hi (by omega))) hs (fun F => u2_Shl_ev F u2_Shl_L0_ok u2_Shl_L0_rt u2_Shl_L0_v u2_Shl_L0_rv x.1 x.2) w vs hp
theorem u2_Shl_ok : GoodF Try.prog 30 (sumOf (aCons (cU2) (aOne (cInt .i64))) (fun x => u2_Shl_s x.1 x.2) fun x => (o1 (cU2)).enc (u2_Shl x.1 x.2)) :=
  good_sum (callable_of Try.func30 (by kernel_rfl) (by kernel_rfl)) u2_Shl_c
/-! (flyball/wide.U128).Shr -/
def u2_Shr_L0_tm : Tm :=
  Tm.mk
    [none, some (false, [Sh.int IntKind.i64]), some (false, [Sh.ptr 0 0]), none, some (false, [Sh.ptr 1 0]),
      some (false, [Sh.bool]), some (false, [Sh.bool]), none, none, none, none, none, none, none, none, none, none, none,
      none, none, none, none, none, none, none, none, none, none, none, none, none, none, none, none, none, none, none,
      none, none, none, none, none, none, none, none, none, none, none, none, none, none, none, none]
    [Hs.cells 24 [Sh.int IntKind.u64, Sh.int IntKind.u64], Hs.cells 24 [Sh.int IntKind.u64, Sh.int IntKind.u64]] false
def u2_Shr_L0_of : List Pv → Option ((Bool × Int × Int) × (Int × Bool × Int × Int))
  | [.i v1, .b v5, .b v6, .i h0_0, .i h0_1, .i h1_0, .i h1_1] => some ((v5, h1_0, h1_1), (v1, v6, h0_0, h0_1))
  | _ => none
def u2_Shr_L0_to (p : Bool × Int × Int) (x : Int × Bool × Int × Int) : List Pv := [.i x.1, .b p.1, .b x.2.1, .i x.2.2.1, .i x.2.2.2, .i p.2.1, .i p.2.2]
theorem u2_Shr_L0_ot (l : List Pv) (p : Bool × Int × Int) (x : Int × Bool × Int × Int) (h : u2_Shr_L0_of l = some (p, x)) : u2_Shr_L0_to p x = l := by
  unfold u2_Shr_L0_of at h
  split at h
  · cases h; rfl
  · cases h
def u2_Shr_L0_dec (s : St) : Option ((Bool × Int × Int) × (Int × Bool × Int × Int)) := (u2_Shr_L0_tm.dec s).bind u2_Shr_L0_of
def u2_Shr_L0_I (p : Bool × Int × Int) (x : Int × Bool × Int × Int) : St := u2_Shr_L0_tm.enc (u2_Shr_L0_to p x)
def u2_Shr_L0_tmR : Tm :=
  Tm.mk
    [none, none, none, none, some (false, [Sh.ptr 0 0]), some (false, [Sh.bool]), none, none, none, none, none, none,
      none, none, none, none, none, none, none, none, none, none, none, none, none, none, none, none, none, none, none,
      none, none, none, none, none, none, none, none, none, none, none, none, none, none, none, none, none, none, none,
      none, none, none]
    [Hs.cells 24 [Sh.int IntKind.u64, Sh.int IntKind.u64]] false
def u2_Shr_L0_ofR : List Pv → Option (Bool × Int × Int)
  | [.b v5, .i h0_0, .i h0_1] => some (v5, h0_0, h0_1)
  | _ => none
def u2_Shr_L0_toR (r : Bool × Int × Int) : List Pv := [.b r.1, .i r.2.1, .i r.2.2]
theorem u2_Shr_L0_otR (l : List Pv) (r : Bool × Int × Int) (h : u2_Shr_L0_ofR l = some r) : u2_Shr_L0_toR r = l := by
  unfold u2_Shr_L0_ofR at h
  split at h
  · cases h; rfl
  · cases h
def u2_Shr_L0_decR (s : St) : Option (Bool × Int × Int) := (u2_Shr_L0_tmR.dec s).bind u2_Shr_L0_ofR
def u2_Shr_L0_R (r : Bool × Int × Int) : St := u2_Shr_L0_tmR.enc (u2_Shr_L0_toR r)
theorem u2_Shr_L0_ev (F : Nat → Prop)  (v5 : Bool) (h1_0 : Int) (h1_1 : Int) (v1 : Int) (v6 : Bool) (h0_0 : Int) (h0_1 : Int) (Q : ((Bool × Int × Int) × (Int × Bool × Int × Int)) ⊕ (((Bool × Int × Int) × (Int × Bool × Int × Int)) ⊕ (Bool × Int × Int)) → Prop) : evC Try.prog (mkC ([]) F) noL 60 (lp Try.f37 0) (u2_Shr_L0_I (v5, h1_0, h1_1) (v1, v6, h0_0, h0_1)) (fun y s => onO Q (bkB 0 u2_Shr_L0_dec u2_Shr_L0_decR y s)) = (u2_Shr_L0_T  v5 h1_0 h1_1 v1 v6 h0_0 h0_1).prop (onB (v5, h1_0, h1_1) Q) := by kernel_rfl
set_option maxRecDepth 100000 in
theorem u2_Shr_L0_ls {F : Nat → Prop} {B : Nat} {w0 : World} {s : St} {k : X → St → Prop} (hk : (lsB 0 u2_Shr_L0_dec u2_Shr_L0_I u2_Shr_L0_R u2_Shr_L0_ok u2_Shr_L0_rt u2_Shr_L0_v u2_Shr_L0_rv) s k) : EW Try.prog (mkC ([]) F) B w0 (.loop (lp Try.f37 0)) s k :=
  lsB_ok (fun _ _ _ h => weak_of u2_Shr_L0_ot (.inl rfl) h) (fun _ _ h => weak_ofR u2_Shr_L0_otR (.inl rfl) h) (step := u2_Shr_L0_step) (fun p x Q h => evC_spec mixed (mkC_ok AllGood.nil F) (L := noL) (u := 60) _ (loops_nil (by kernel_rfl)) _ _ (Eq.mpr (u2_Shr_L0_ev F  p.1 p.2.1 p.2.2 x.1 x.2.1 x.2.2.1 x.2.2.2 Q) h)) (fun _ _ h => run_okB h) hk
theorem u2_Shr_ev (F : Nat → Prop) (u2_Shr_L0_ok : (Bool × Int × Int) → (Int × Bool × Int × Int) → Bool) (u2_Shr_L0_rt : (Bool × Int × Int) → (Int × Bool × Int × Int) → Bool) (u2_Shr_L0_v : (Bool × Int × Int) → (Int × Bool × Int × Int) → Int × Bool × Int × Int) (u2_Shr_L0_rv : (Bool × Int × Int) → (Int × Bool × Int × Int) → Bool × Int × Int) (a : U2) (n : Int) (Q : AV → Prop) : evF Try.prog (mkC ([]) F) (fun id => cond (Nat.beq 2 id) (some (lsB 0 u2_Shr_L0_dec u2_Shr_L0_I u2_Shr_L0_R u2_Shr_L0_ok u2_Shr_L0_rt u2_Shr_L0_v u2_Shr_L0_rv)) (none) : Loops) 60 Try.f37 ((aCons (cU2) (aOne (cInt .i64))).enc false (a, n)) Q = (u2_Shr_T u2_Shr_L0_ok u2_Shr_L0_rt u2_Shr_L0_v u2_Shr_L0_rv a n).prop (fun x => Q ((o2 (cU2) (cBool)).enc x)) := by kernel_rfl
theorem u2_Shr_c (x : U2 × Int) (hs : u2_Shr_s x.1 x.2 = true) (w : World) (vs : Array Value) (hp : ArgsR ((aCons (cU2) (aOne (cInt .i64))).enc false x) w vs) : Calls Try.prog 37 vs w (Ans ((o2 (cU2) (cBool)).enc (u2_Shr x.1 x.2)) w) :=
  contractT mixed AllGood.nil Try.func37 (fun _ _ _ => loops_all (m := 1) (by kernel_rfl) (fun i hi => match i, hi with
    | 0, _ => (fun g hg s k hk => u2_Shr_L0_ls (cast (congrFun (congrFun (Option.some.inj (hg.symm.trans (by kernel_rfl))) s) k) hk))
    | (j + 1), hi => absurd hi (by omega))) hs (fun F => u2_Shr_ev F u2_Shr_L0_ok u2_Shr_L0_rt u2_Shr_L0_v u2_Shr_L0_rv x.1 x.2) w vs hp
theorem u2_Shr_ok : GoodF Try.prog 37 (sumOf (aCons (cU2) (aOne (cInt .i64))) (fun x => u2_Shr_s x.1 x.2) fun x => (o2 (cU2) (cBool)).enc (u2_Shr x.1 x.2)) :=
  good_sum (callable_of Try.func37 (by kernel_rfl) (by kernel_rfl)) u2_Shr_c
/-! (flyball/wide.U128).Div -/
theorem u2_Div_ev (F : Nat → Prop) (bits_Div64 : Int → Int → Int → Int × Int) (bits_Div64_s : Int → Int → Int → Bool) (a : U2) (b : Int) (Q : AV → Prop) : evF Try.prog (mkC ([(53, .s (sumOf (aCons (cInt .u64) (aCons (cInt .u64) (aOne (cInt .u64)))) (fun x => bits_Div64_s x.1 x.2.1 x.2.2) fun x => (o2 (cInt .u64) (cInt .u64)).enc (bits_Div64 x.1 x.2.1 x.2.2)))]) F) noL 60 Try.f42 ((aCons (cU2) (aOne (cInt .u64))).enc false (a, b)) Q = (u2_Div_T bits_Div64 bits_Div64_s a b).prop (fun x => Q ((o2 (cU2) (cInt .u64)).enc x)) := by kernel_rfl
theorem u2_Div_c (x : U2 × Int) (hs : u2_Div_s x.1 x.2 = true) (w : World) (vs : Array Value) (hp : ArgsR ((aCons (cU2) (aOne (cInt .u64))).enc false x) w vs) : Calls Try.prog 42 vs w (Ans ((o2 (cU2) (cInt .u64)).enc (u2_Div x.1 x.2)) w) :=
  contractT mixed (AllGood.cons bits_Div64_ok AllGood.nil) Try.func42 (fun _ _ _ _ _ => noL_ok) hs (fun F => u2_Div_ev F bits_Div64 bits_Div64_s x.1 x.2) w vs hp
theorem u2_Div_ok : GoodF Try.prog 42 (sumOf (aCons (cU2) (aOne (cInt .u64))) (fun x => u2_Div_s x.1 x.2) fun x => (o2 (cU2) (cInt .u64)).enc (u2_Div x.1 x.2)) :=
  good_sum (callable_of Try.func42 (by kernel_rfl) (by kernel_rfl)) u2_Div_c
/-! (flyball/wide.U128).Sqrt -/
def u2_Sqrt_L0_tm : Tm :=
  Tm.mk
    [none, some (false, [Sh.ptr 0 0]), some (false, [Sh.int IntKind.u64]), some (false, [Sh.ptr 1 0]),
      some (false, [Sh.int IntKind.u64]), some (false, [Sh.int IntKind.u64]), none, none, none, none, none, none, none,
      none, none, none, none, none, none, none, none, none, none, none, none, none, none, none, none, none, none, none,
      none, none, none]
    [Hs.cells 24 [Sh.int IntKind.u64, Sh.int IntKind.u64], Hs.cells 24 [Sh.int IntKind.u64, Sh.int IntKind.u64]] false
def u2_Sqrt_L0_of : List Pv → Option ((Int × Int × Int × Int × Int) × (Int × Int))
  | [.i v2, .i v4, .i v5, .i h0_0, .i h0_1, .i h1_0, .i h1_1] => some ((v2, h0_0, h0_1, h1_0, h1_1), (v4, v5))
  | _ => none
def u2_Sqrt_L0_to (p : Int × Int × Int × Int × Int) (x : Int × Int) : List Pv := [.i p.1, .i x.1, .i x.2, .i p.2.1, .i p.2.2.1, .i p.2.2.2.1, .i p.2.2.2.2]
theorem u2_Sqrt_L0_ot (l : List Pv) (p : Int × Int × Int × Int × Int) (x : Int × Int) (h : u2_Sqrt_L0_of l = some (p, x)) : u2_Sqrt_L0_to p x = l := by
  unfold u2_Sqrt_L0_of at h
  split at h
  · cases h; rfl
  · cases h
def u2_Sqrt_L0_dec (s : St) : Option ((Int × Int × Int × Int × Int) × (Int × Int)) := (u2_Sqrt_L0_tm.dec s).bind u2_Sqrt_L0_of
def u2_Sqrt_L0_I (p : Int × Int × Int × Int × Int) (x : Int × Int) : St := u2_Sqrt_L0_tm.enc (u2_Sqrt_L0_to p x)
theorem u2_Sqrt_L0_ev (F : Nat → Prop) (wide_Mul : Int → Int → U2) (u2_Cmp : U2 → U2 → Int) (u2_Sub : U2 → U2 → U2 × Int) (u2_Sub_s : U2 → U2 → Bool) (v2 : Int) (h0_0 : Int) (h0_1 : Int) (h1_0 : Int) (h1_1 : Int) (v4 : Int) (v5 : Int) (Q : ((Int × Int × Int × Int × Int) × (Int × Int)) ⊕ ((Int × Int × Int × Int × Int) × (Int × Int)) → Prop) : evC Try.prog (mkC ([(13, .s (sumT (aCons (cInt .u64) (aOne (cInt .u64))) fun x => (o1 (cU2)).enc (wide_Mul x.1 x.2))), (27, .s (sumT (aCons (cU2) (aOne (cU2))) fun x => (o1 (cInt .i64)).enc (u2_Cmp x.1 x.2))), (23, .s (sumOf (aCons (cU2) (aOne (cU2))) (fun x => u2_Sub_s x.1 x.2) fun x => (o2 (cU2) (cInt .u64)).enc (u2_Sub x.1 x.2)))]) F) noL 60 (lp Try.f19 0) (u2_Sqrt_L0_I (v2, h0_0, h0_1, h1_0, h1_1) (v4, v5)) (fun y s => onO Q (bkE 0 u2_Sqrt_L0_dec y s)) = (u2_Sqrt_L0_T wide_Mul u2_Cmp v2 h0_0 h0_1 h1_0 h1_1 v4 v5).prop (onT (v2, h0_0, h0_1, h1_0, h1_1) Q) := by kernel_rfl
set_option maxRecDepth 100000 in
theorem u2_Sqrt_L0_ls {F : Nat → Prop} {B : Nat} {w0 : World} {s : St} {k : X → St → Prop} (hk : (lsE 0 u2_Sqrt_L0_dec u2_Sqrt_L0_I u2_Sqrt_L0_ok u2_Sqrt_L0_v) s k) : EW Try.prog (mkC ([(13, .s (sumT (aCons (cInt .u64) (aOne (cInt .u64))) fun x => (o1 (cU2)).enc (wide_Mul x.1 x.2))), (27, .s (sumT (aCons (cU2) (aOne (cU2))) fun x => (o1 (cInt .i64)).enc (u2_Cmp x.1 x.2))), (23, .s (sumOf (aCons (cU2) (aOne (cU2))) (fun x => u2_Sub_s x.1 x.2) fun x => (o2 (cU2) (cInt .u64)).enc (u2_Sub x.1 x.2)))]) F) B w0 (.loop (lp Try.f19 0)) s k :=
  lsE_ok (fun _ _ _ h => weak_of u2_Sqrt_L0_ot (.inl rfl) h) (step := u2_Sqrt_L0_step) (fun p x Q h => evC_spec mixed (mkC_ok (AllGood.cons wide_Mul_ok (AllGood.cons u2_Cmp_ok (AllGood.cons u2_Sub_ok AllGood.nil))) F) (L := noL) (u := 60) _ (loops_nil (by kernel_rfl)) _ _ (Eq.mpr (u2_Sqrt_L0_ev F wide_Mul u2_Cmp u2_Sub u2_Sub_s p.1 p.2.1 p.2.2.1 p.2.2.2.1 p.2.2.2.2 x.1 x.2 Q) h)) (fun _ _ h => run_ok h) hk
theorem u2_Sqrt_ev (F : Nat → Prop) (wide_Mul : Int → Int → U2) (u2_Cmp : U2 → U2 → Int) (u2_Sub : U2 → U2 → U2 × Int) (u2_Sub_s : U2 → U2 → Bool) (u2_Sqrt_L0_ok : (Int × Int × Int × Int × Int) → (Int × Int) → Bool) (u2_Sqrt_L0_v : (Int × Int × Int × Int × Int) → (Int × Int) → Int × Int) (a : U2) (Q : AV → Prop) : evF Try.prog (mkC ([(13, .s (sumT (aCons (cInt .u64) (aOne (cInt .u64))) fun x => (o1 (cU2)).enc (wide_Mul x.1 x.2))), (27, .s (sumT (aCons (cU2) (aOne (cU2))) fun x => (o1 (cInt .i64)).enc (u2_Cmp x.1 x.2))), (23, .s (sumOf (aCons (cU2) (aOne (cU2))) (fun x => u2_Sub_s x.1 x.2) fun x => (o2 (cU2) (cInt .u64)).enc (u2_Sub x.1 x.2)))]) F) (fun id => cond (Nat.beq 3 id) (some (lsE 0 u2_Sqrt_L0_dec u2_Sqrt_L0_I u2_Sqrt_L0_ok u2_Sqrt_L0_v)) (none) : Loops) 60 Try.f19 ((aOne (cU2)).enc false a) Q = (u2_Sqrt_T wide_Mul u2_Sub u2_Sub_s u2_Sqrt_L0_ok u2_Sqrt_L0_v a).prop (fun x => Q ((o2 (cInt .u64) (cU2)).enc x)) := by kernel_rfl
theorem u2_Sqrt_c (x : U2) (hs : u2_Sqrt_s x = true) (w : World) (vs : Array Value) (hp : ArgsR ((aOne (cU2)).enc false x) w vs) : Calls Try.prog 19 vs w (Ans ((o2 (cInt .u64) (cU2)).enc (u2_Sqrt x)) w) :=
  contractT mixed (AllGood.cons wide_Mul_ok (AllGood.cons u2_Cmp_ok (AllGood.cons u2_Sub_ok AllGood.nil))) Try.func19 (fun _ _ _ => loops_all (m := 1) (by kernel_rfl) (fun i hi => match i, hi with
    | 0, _ => (fun g hg s k hk => u2_Sqrt_L0_ls (cast (congrFun (congrFun (Option.some.inj (hg.symm.trans (by kernel_rfl))) s) k) hk))
    | (j + 1), hi => absurd hi (by omega))) hs (fun F => u2_Sqrt_ev F wide_Mul u2_Cmp u2_Sub u2_Sub_s u2_Sqrt_L0_ok u2_Sqrt_L0_v x) w vs hp
theorem u2_Sqrt_ok : GoodF Try.prog 19 (sumOf (aOne (cU2)) (fun x => u2_Sqrt_s x) fun x => (o2 (cInt .u64) (cU2)).enc (u2_Sqrt x)) :=
  good_sum (callable_of Try.func19 (by kernel_rfl) (by kernel_rfl)) u2_Sqrt_c
/-! (flyball/wide.U128).Mul -/
theorem u2_Mul_ev (F : Nat → Prop) (wide_Mul : Int → Int → U2) (bits_Add64 : Int → Int → Int → Int × Int) (bits_Add64_s : Int → Int → Int → Bool) (a : U2) (b : Int) (Q : AV → Prop) : evF Try.prog (mkC ([(13, .s (sumT (aCons (cInt .u64) (aOne (cInt .u64))) fun x => (o1 (cU2)).enc (wide_Mul x.1 x.2))), (47, .s (sumOf (aCons (cInt .u64) (aCons (cInt .u64) (aOne (cInt .u64)))) (fun x => bits_Add64_s x.1 x.2.1 x.2.2) fun x => (o2 (cInt .u64) (cInt .u64)).enc (bits_Add64 x.1 x.2.1 x.2.2)))]) F) noL 60 Try.f17 ((aCons (cU2) (aOne (cInt .u64))).enc false (a, b)) Q = (u2_Mul_T wide_Mul bits_Add64 bits_Add64_s a b).prop (fun x => Q ((o1 (cU3)).enc x)) := by kernel_rfl
theorem u2_Mul_c (x : U2 × Int) (hs : u2_Mul_s x.1 x.2 = true) (w : World) (vs : Array Value) (hp : ArgsR ((aCons (cU2) (aOne (cInt .u64))).enc false x) w vs) : Calls Try.prog 17 vs w (Ans ((o1 (cU3)).enc (u2_Mul x.1 x.2)) w) :=
  contractT mixed (AllGood.cons wide_Mul_ok (AllGood.ext bits_Add64_ok AllGood.nil)) Try.func17 (fun _ _ _ _ _ => noL_ok) hs (fun F => u2_Mul_ev F wide_Mul bits_Add64 bits_Add64_s x.1 x.2) w vs hp
theorem u2_Mul_ok : GoodF Try.prog 17 (sumOf (aCons (cU2) (aOne (cInt .u64))) (fun x => u2_Mul_s x.1 x.2) fun x => (o1 (cU3)).enc (u2_Mul x.1 x.2)) :=
  good_sum (callable_of Try.func17 (by kernel_rfl) (by kernel_rfl)) u2_Mul_c
/-! (flyball/wide.U192).top -/
theorem u3_top_ev (F : Nat → Prop)  (a : U3) (Q : AV → Prop) : evF Try.prog (mkC ([]) F) noL 60 Try.f52 ((aOne (cU3)).enc false a) Q = (u3_top_T  a).prop (fun x => Q ((o1 (cU2)).enc x)) := by kernel_rfl
theorem u3_top_c (x : U3) (w : World) (vs : Array Value) (hp : ArgsR ((aOne (cU3)).enc false x) w vs) : Calls Try.prog 52 vs w (Ans ((o1 (cU2)).enc (u3_top x)) w) :=
  contractT mixed AllGood.nil Try.func52 (fun _ _ _ _ _ => noL_ok) (Tr.safe_of (t := u3_top_t x) rfl) (fun F => u3_top_ev F  x) w vs hp
theorem u3_top_ok : GoodF Try.prog 52 (sumT (aOne (cU3)) fun x => (o1 (cU2)).enc (u3_top x)) :=
  good_sumT (callable_of Try.func52 (by kernel_rfl) (by kernel_rfl)) u3_top_c
/-! (flyball/wide.U192).Add -/
theorem u3_Add_ev (F : Nat → Prop) (bits_Add64 : Int → Int → Int → Int × Int) (bits_Add64_s : Int → Int → Int → Bool) (a : U3) (b : U3) (Q : AV → Prop) : evF Try.prog (mkC ([(47, .s (sumOf (aCons (cInt .u64) (aCons (cInt .u64) (aOne (cInt .u64)))) (fun x => bits_Add64_s x.1 x.2.1 x.2.2) fun x => (o2 (cInt .u64) (cInt .u64)).enc (bits_Add64 x.1 x.2.1 x.2.2)))]) F) noL 60 Try.f31 ((aCons (cU3) (aOne (cU3))).enc false (a, b)) Q = (u3_Add_T bits_Add64 bits_Add64_s a b).prop (fun x => Q ((o2 (cU3) (cInt .u64)).enc x)) := by kernel_rfl
theorem u3_Add_c (x : U3 × U3) (hs : u3_Add_s x.1 x.2 = true) (w : World) (vs : Array Value) (hp : ArgsR ((aCons (cU3) (aOne (cU3))).enc false x) w vs) : Calls Try.prog 31 vs w (Ans ((o2 (cU3) (cInt .u64)).enc (u3_Add x.1 x.2)) w) :=
  contractT mixed (AllGood.ext bits_Add64_ok AllGood.nil) Try.func31 (fun _ _ _ _ _ => noL_ok) hs (fun F => u3_Add_ev F bits_Add64 bits_Add64_s x.1 x.2) w vs hp
theorem u3_Add_ok : GoodF Try.prog 31 (sumOf (aCons (cU3) (aOne (cU3))) (fun x => u3_Add_s x.1 x.2) fun x => (o2 (cU3) (cInt .u64)).enc (u3_Add x.1 x.2)) :=
  good_sum (callable_of Try.func31 (by kernel_rfl) (by kernel_rfl)) u3_Add_c
/-! (flyball/wide.U192).Sub -/
theorem u3_Sub_ev (F : Nat → Prop) (bits_Sub64 : Int → Int → Int → Int × Int) (bits_Sub64_s : Int → Int → Int → Bool) (a : U3) (b : U3) (Q : AV → Prop) : evF Try.prog (mkC ([(49, .s (sumOf (aCons (cInt .u64) (aCons (cInt .u64) (aOne (cInt .u64)))) (fun x => bits_Sub64_s x.1 x.2.1 x.2.2) fun x => (o2 (cInt .u64) (cInt .u64)).enc (bits_Sub64 x.1 x.2.1 x.2.2)))]) F) noL 60 Try.f32 ((aCons (cU3) (aOne (cU3))).enc false (a, b)) Q = (u3_Sub_T bits_Sub64 bits_Sub64_s a b).prop (fun x => Q ((o2 (cU3) (cInt .u64)).enc x)) := by kernel_rfl
theorem u3_Sub_c (x : U3 × U3) (hs : u3_Sub_s x.1 x.2 = true) (w : World) (vs : Array Value) (hp : ArgsR ((aCons (cU3) (aOne (cU3))).enc false x) w vs) : Calls Try.prog 32 vs w (Ans ((o2 (cU3) (cInt .u64)).enc (u3_Sub x.1 x.2)) w) :=
  contractT mixed (AllGood.ext bits_Sub64_ok AllGood.nil) Try.func32 (fun _ _ _ _ _ => noL_ok) hs (fun F => u3_Sub_ev F bits_Sub64 bits_Sub64_s x.1 x.2) w vs hp
theorem u3_Sub_ok : GoodF Try.prog 32 (sumOf (aCons (cU3) (aOne (cU3))) (fun x => u3_Sub_s x.1 x.2) fun x => (o2 (cU3) (cInt .u64)).enc (u3_Sub x.1 x.2)) :=
  good_sum (callable_of Try.func32 (by kernel_rfl) (by kernel_rfl)) u3_Sub_c
/-! (flyball/wide.U192).Cmp -/
theorem u3_Cmp_ev (F : Nat → Prop) (wide_order3 : ((Int × Int) × (Int × Int) × (Int × Int)) → Int) (wide_order2 : ((Int × Int) × (Int × Int)) → Int) (a : U3) (b : U3) (Q : AV → Prop) : evF Try.prog (mkC ([(50, .s (orS (sumT (aOne (cLit ecW2 to3 of3 l3)) fun x => (o1 (cInt .i64)).enc (wide_order3 x)) (sumT (aOne (cLit ecW2 to2 of2 l2)) fun x => (o1 (cInt .i64)).enc (wide_order2 x))))]) F) noL 60 Try.f35 ((aCons (cU3) (aOne (cU3))).enc false (a, b)) Q = (u3_Cmp_T wide_order3 a b).prop (fun x => Q ((o1 (cInt .i64)).enc x)) := by kernel_rfl
theorem u3_Cmp_c (x : U3 × U3) (w : World) (vs : Array Value) (hp : ArgsR ((aCons (cU3) (aOne (cU3))).enc false x) w vs) : Calls Try.prog 35 vs w (Ans ((o1 (cInt .i64)).enc (u3_Cmp x.1 x.2)) w) :=
  contractT mixed (AllGood.cons (good_or wide_order3_ok wide_order2_ok) AllGood.nil) Try.func35 (fun _ _ _ _ _ => noL_ok) (Tr.safe_of (t := u3_Cmp_t x.1 x.2) rfl) (fun F => u3_Cmp_ev F wide_order3 wide_order2 x.1 x.2) w vs hp
theorem u3_Cmp_ok : GoodF Try.prog 35 (sumT (aCons (cU3) (aOne (cU3))) fun x => (o1 (cInt .i64)).enc (u3_Cmp x.1 x.2)) :=
  good_sumT (callable_of Try.func35 (by kernel_rfl) (by kernel_rfl)) u3_Cmp_c
/-! (flyball/wide.U192).Len -/
theorem u3_Len_ev (F : Nat → Prop) (u3_top : U3 → U2) (u2_Len : U2 → Int) (bits_Len64 : Int → Int) (a : U3) (Q : AV → Prop) : evF Try.prog (mkC ([(52, .s (sumT (aOne (cU3)) fun x => (o1 (cU2)).enc (u3_top x))), (28, .s (sumT (aOne (cU2)) fun x => (o1 (cInt .i64)).enc (u2_Len x))), (51, .s (sumT (aOne (cInt .u64)) fun x => (o1 (cInt .i64)).enc (bits_Len64 x)))]) F) noL 60 Try.f36 ((aOne (cU3)).enc false a) Q = (u3_Len_T u3_top u2_Len bits_Len64 a).prop (fun x => Q ((o1 (cInt .i64)).enc x)) := by kernel_rfl
theorem u3_Len_c (x : U3) (w : World) (vs : Array Value) (hp : ArgsR ((aOne (cU3)).enc false x) w vs) : Calls Try.prog 36 vs w (Ans ((o1 (cInt .i64)).enc (u3_Len x)) w) :=
  contractT mixed (AllGood.cons u3_top_ok (AllGood.cons u2_Len_ok (AllGood.cons bits_Len64_ok AllGood.nil))) Try.func36 (fun _ _ _ _ _ => noL_ok) (Tr.safe_of (t := u3_Len_t x) rfl) (fun F => u3_Len_ev F u3_top u2_Len bits_Len64 x) w vs hp
theorem u3_Len_ok : GoodF Try.prog 36 (sumT (aOne (cU3)) fun x => (o1 (cInt .i64)).enc (u3_Len x)) :=
  good_sumT (callable_of Try.func36 (by kernel_rfl) (by kernel_rfl)) u3_Len_c
/-! (flyball/wide.U192).Shl -/
def u3_Shl_L0_tm : Tm :=
  Tm.mk
    [none, some (false, [Sh.int IntKind.i64]), some (false, [Sh.ptr 0 0]), none, some (false, [Sh.ptr 1 0]), none, none,
      none, none, none, none, none, none, none, none, none, none, none, none, none, none, none, none, none, none, none,
      none, none, none, none, none, none, none, none, none, none, none, none, none, none, none]
    [Hs.cells 34 [Sh.int IntKind.u64, Sh.int IntKind.u64, Sh.int IntKind.u64],
      Hs.cells 34 [Sh.int IntKind.u64, Sh.int IntKind.u64, Sh.int IntKind.u64]]
    false
def u3_Shl_L0_of : List Pv → Option ((Int × Int × Int) × (Int × Int × Int × Int))
  | [.i v1, .i h0_0, .i h0_1, .i h0_2, .i h1_0, .i h1_1, .i h1_2] => some ((h1_0, h1_1, h1_2), (v1, h0_0, h0_1, h0_2))
  | _ => none
def u3_Shl_L0_to (p : Int × Int × Int) (x : Int × Int × Int × Int) : List Pv := [.i x.1, .i x.2.1, .i x.2.2.1, .i x.2.2.2, .i p.1, .i p.2.1, .i p.2.2]
theorem u3_Shl_L0_ot (l : List Pv) (p : Int × Int × Int) (x : Int × Int × Int × Int) (h : u3_Shl_L0_of l = some (p, x)) : u3_Shl_L0_to p x = l := by
  unfold u3_Shl_L0_of at h
  split at h
  · cases h; rfl
  · cases h
def u3_Shl_L0_dec (s : St) : Option ((Int × Int × Int) × (Int × Int × Int × Int)) := (u3_Shl_L0_tm.dec s).bind u3_Shl_L0_of
def u3_Shl_L0_I (p : Int × Int × Int) (x : Int × Int × Int × Int) : St := u3_Shl_L0_tm.enc (u3_Shl_L0_to p x)
def u3_Shl_L0_tmR : Tm :=
  Tm.mk
    [none, none, none, none, some (false, [Sh.ptr 0 0]), none, none, none, none, none, none, none, none, none, none, none,
      none, none, none, none, none, none, none, none, none, none, none, none, none, none, none, none, none, none, none,
      none, none, none, none, none, none]
    [Hs.cells 34 [Sh.int IntKind.u64, Sh.int IntKind.u64, Sh.int IntKind.u64]] false
def u3_Shl_L0_ofR : List Pv → Option (Int × Int × Int)
  | [.i h0_0, .i h0_1, .i h0_2] => some (h0_0, h0_1, h0_2)
  | _ => none
def u3_Shl_L0_toR (r : Int × Int × Int) : List Pv := [.i r.1, .i r.2.1, .i r.2.2]
theorem u3_Shl_L0_otR (l : List Pv) (r : Int × Int × Int) (h : u3_Shl_L0_ofR l = some r) : u3_Shl_L0_toR r = l := by
  unfold u3_Shl_L0_ofR at h
  split at h
  · cases h; rfl
  · cases h
def u3_Shl_L0_decR (s : St) : Option (Int × Int × Int) := (u3_Shl_L0_tmR.dec s).bind u3_Shl_L0_ofR
def u3_Shl_L0_R (r : Int × Int × Int) : St := u3_Shl_L0_tmR.enc (u3_Shl_L0_toR r)
theorem u3_Shl_L0_ev (F : Nat → Prop) (u3_top : U3 → U2) (u2_Shl : U2 → Int → U2) (u2_Shl_s : U2 → Int → Bool) (h1_0 : Int) (h1_1 : Int) (h1_2 : Int) (v1 : Int) (h0_0 : Int) (h0_1 : Int) (h0_2 : Int) (Q : ((Int × Int × Int) × (Int × Int × Int × Int)) ⊕ (((Int × Int × Int) × (Int × Int × Int × Int)) ⊕ (Int × Int × Int)) → Prop) : evC Try.prog (mkC ([(52, .s (sumT (aOne (cU3)) fun x => (o1 (cU2)).enc (u3_top x))), (30, .s (sumOf (aCons (cU2) (aOne (cInt .i64))) (fun x => u2_Shl_s x.1 x.2) fun x => (o1 (cU2)).enc (u2_Shl x.1 x.2)))]) F) noL 60 (lp Try.f41 0) (u3_Shl_L0_I (h1_0, h1_1, h1_2) (v1, h0_0, h0_1, h0_2)) (fun y s => onO Q (bkB 0 u3_Shl_L0_dec u3_Shl_L0_decR y s)) = (u3_Shl_L0_T  h1_0 h1_1 h1_2 v1 h0_0 h0_1 h0_2).prop (onB (h1_0, h1_1, h1_2) Q) := by kernel_rfl
set_option maxRecDepth 100000 in
theorem u3_Shl_L0_ls {F : Nat → Prop} {B : Nat} {w0 : World} {s : St} {k : X → St → Prop} (hk : (lsB 0 u3_Shl_L0_dec u3_Shl_L0_I u3_Shl_L0_R u3_Shl_L0_ok u3_Shl_L0_rt u3_Shl_L0_v u3_Shl_L0_rv) s k) : EW Try.prog (mkC ([(52, .s (sumT (aOne (cU3)) fun x => (o1 (cU2)).enc (u3_top x))), (30, .s (sumOf (aCons (cU2) (aOne (cInt .i64))) (fun x => u2_Shl_s x.1 x.2) fun x => (o1 (cU2)).enc (u2_Shl x.1 x.2)))]) F) B w0 (.loop (lp Try.f41 0)) s k :=
  lsB_ok (fun _ _ _ h => weak_of u3_Shl_L0_ot (.inl rfl) h) (fun _ _ h => weak_ofR u3_Shl_L0_otR (.inl rfl) h) (step := u3_Shl_L0_step) (fun p x Q h => evC_spec mixed (mkC_ok (AllGood.cons u3_top_ok (AllGood.cons u2_Shl_ok AllGood.nil)) F) (L := noL) (u := 60) _ (loops_nil (by kernel_rfl)) _ _ (Eq.mpr (u3_Shl_L0_ev F u3_top u2_Shl u2_Shl_s p.1 p.2.1 p.2.2 x.1 x.2.1 x.2.2.1 x.2.2.2 Q) h)) (fun _ _ h => run_okB h) hk
theorem u3_Shl_ev (F : Nat → Prop) (u3_top : U3 → U2) (u2_Shl : U2 → Int → U2) (u2_Shl_s : U2 → Int → Bool) (u3_Shl_L0_ok : (Int × Int × Int) → (Int × Int × Int × Int) → Bool) (u3_Shl_L0_rt : (Int × Int × Int) → (Int × Int × Int × Int) → Bool) (u3_Shl_L0_v : (Int × Int × Int) → (Int × Int × Int × Int) → Int × Int × Int × Int) (u3_Shl_L0_rv : (Int × Int × Int) → (Int × Int × Int × Int) → Int × Int × Int) (a : U3) (n : Int) (Q : AV → Prop) : evF Try.prog (mkC ([(52, .s (sumT (aOne (cU3)) fun x => (o1 (cU2)).enc (u3_top x))), (30, .s (sumOf (aCons (cU2) (aOne (cInt .i64))) (fun x => u2_Shl_s x.1 x.2) fun x => (o1 (cU2)).enc (u2_Shl x.1 x.2)))]) F) (fun id => cond (Nat.beq 1 id) (some (lsB 0 u3_Shl_L0_dec u3_Shl_L0_I u3_Shl_L0_R u3_Shl_L0_ok u3_Shl_L0_rt u3_Shl_L0_v u3_Shl_L0_rv)) (none) : Loops) 60 Try.f41 ((aCons (cU3) (aOne (cInt .i64))).enc false (a, n)) Q = (u3_Shl_T u3_top u2_Shl u2_Shl_s u3_Shl_L0_ok u3_Shl_L0_rt u3_Shl_L0_v u3_Shl_L0_rv a n).prop (fun x => Q ((o1 (cU3)).enc x)) := by kernel_rfl
theorem u3_Shl_c (x : U3 × Int) (hs : u3_Shl_s x.1 x.2 = true) (w : World) (vs : Array Value) (hp : ArgsR ((aCons (cU3) (aOne (cInt .i64))).enc false x) w vs) : Calls Try.prog 41 vs w (Ans ((o1 (cU3)).enc (u3_Shl x.1 x.2)) w) :=
  contractT mixed (AllGood.cons u3_top_ok (AllGood.cons u2_Shl_ok AllGood.nil)) Try.func41 (fun _ _ _ => loops_all (m := 1) (by kernel_rfl) (fun i hi => match i, hi with
    | 0, _ => (fun g hg s k hk => u3_Shl_L0_ls (cast (congrFun (congrFun (Option.some.inj (hg.symm.trans (by kernel_rfl))) s) k) hk))
    | (j + 1), hi => absurd hi (by omega))) hs (fun F => u3_Shl_ev F u3_top u2_Shl u2_Shl_s u3_Shl_L0_ok u3_Shl_L0_rt u3_Shl_L0_v u3_Shl_L0_rv x.1 x.2) w vs hp
theorem u3_Shl_ok : GoodF Try.prog 41 (sumOf (aCons (cU3) (aOne (cInt .i64))) (fun x => u3_Shl_s x.1 x.2) fun x => (o1 (cU3)).enc (u3_Shl x.1 x.2)) :=
  good_sum (callable_of Try.func41 (by kernel_rfl) (by kernel_rfl)) u3_Shl_c
/-! (flyball/wide.U192).Shr -/
def u3_Shr_L0_tm : Tm :=
  Tm.mk
    [none, some (false, [Sh.int IntKind.i64]), some (false, [Sh.ptr 0 0]), none, some (false, [Sh.ptr 1 0]),
      some (false, [Sh.bool]), some (false, [Sh.bool]), none, none, none, none, none, none, none, none, none, none, none,
      none, none, none, none, none, none, none, none, none, none, none, none, none, none, none, none, none, none, none,
      none, none, none, none, none, none, none, none, none, none, none, none, none, none, none, none, none, none, none,
      none, none, none, none, none, none, none, none]
    [Hs.cells 34 [Sh.int IntKind.u64, Sh.int IntKind.u64, Sh.int IntKind.u64],
      Hs.cells 34 [Sh.int IntKind.u64, Sh.int IntKind.u64, Sh.int IntKind.u64]]
    false
def u3_Shr_L0_of : List Pv → Option ((Bool × Int × Int × Int) × (Int × Bool × Int × Int × Int))
  | [.i v1, .b v5, .b v6, .i h0_0, .i h0_1, .i h0_2, .i h1_0, .i h1_1, .i h1_2] => some ((v5, h1_0, h1_1, h1_2), (v1, v6, h0_0, h0_1, h0_2))
  | _ => none
def u3_Shr_L0_to (p : Bool × Int × Int × Int) (x : Int × Bool × Int × Int × Int) : List Pv := [.i x.1, .b p.1, .b x.2.1, .i x.2.2.1, .i x.2.2.2.1, .i x.2.2.2.2, .i p.2.1, .i p.2.2.1, .i p.2.2.2]
theorem u3_Shr_L0_ot (l : List Pv) (p : Bool × Int × Int × Int) (x : Int × Bool × Int × Int × Int) (h : u3_Shr_L0_of l = some (p, x)) : u3_Shr_L0_to p x = l := by
  unfold u3_Shr_L0_of at h
  split at h
  · cases h; rfl
  · cases h
def u3_Shr_L0_dec (s : St) : Option ((Bool × Int × Int × Int) × (Int × Bool × Int × Int × Int)) := (u3_Shr_L0_tm.dec s).bind u3_Shr_L0_of
def u3_Shr_L0_I (p : Bool × Int × Int × Int) (x : Int × Bool × Int × Int × Int) : St := u3_Shr_L0_tm.enc (u3_Shr_L0_to p x)
def u3_Shr_L0_tmR : Tm :=
  Tm.mk
    [none, none, none, none, some (false, [Sh.ptr 0 0]), some (false, [Sh.bool]), none, none, none, none, none, none,
      none, none, none, none, none, none, none, none, none, none, none, none, none, none, none, none, none, none, none,
      none, none, none, none, none, none, none, none, none, none, none, none, none, none, none, none, none, none, none,
      none, none, none, none, none, none, none, none, none, none, none, none, none, none]
    [Hs.cells 34 [Sh.int IntKind.u64, Sh.int IntKind.u64, Sh.int IntKind.u64]] false
def u3_Shr_L0_ofR : List Pv → Option (Bool × Int × Int × Int)
  | [.b v5, .i h0_0, .i h0_1, .i h0_2] => some (v5, h0_0, h0_1, h0_2)
  | _ => none
def u3_Shr_L0_toR (r : Bool × Int × Int × Int) : List Pv := [.b r.1, .i r.2.1, .i r.2.2.1, .i r.2.2.2]
theorem u3_Shr_L0_otR (l : List Pv) (r : Bool × Int × Int × Int) (h : u3_Shr_L0_ofR l = some r) : u3_Shr_L0_toR r = l := by
  unfold u3_Shr_L0_ofR at h
  split at h
  · cases h; rfl
  · cases h
def u3_Shr_L0_decR (s : St) : Option (Bool × Int × Int × Int) := (u3_Shr_L0_tmR.dec s).bind u3_Shr_L0_ofR
def u3_Shr_L0_R (r : Bool × Int × Int × Int) : St := u3_Shr_L0_tmR.enc (u3_Shr_L0_toR r)
theorem u3_Shr_L0_ev (F : Nat → Prop) (u3_top : U3 → U2) (u2_Shr : U2 → Int → U2 × Bool) (u2_Shr_s : U2 → Int → Bool) (v5 : Bool) (h1_0 : Int) (h1_1 : Int) (h1_2 : Int) (v1 : Int) (v6 : Bool) (h0_0 : Int) (h0_1 : Int) (h0_2 : Int) (Q : ((Bool × Int × Int × Int) × (Int × Bool × Int × Int × Int)) ⊕ (((Bool × Int × Int × Int) × (Int × Bool × Int × Int × Int)) ⊕ (Bool × Int × Int × Int)) → Prop) : evC Try.prog (mkC ([(52, .s (sumT (aOne (cU3)) fun x => (o1 (cU2)).enc (u3_top x))), (37, .s (sumOf (aCons (cU2) (aOne (cInt .i64))) (fun x => u2_Shr_s x.1 x.2) fun x => (o2 (cU2) (cBool)).enc (u2_Shr x.1 x.2)))]) F) noL 60 (lp Try.f38 0) (u3_Shr_L0_I (v5, h1_0, h1_1, h1_2) (v1, v6, h0_0, h0_1, h0_2)) (fun y s => onO Q (bkB 0 u3_Shr_L0_dec u3_Shr_L0_decR y s)) = (u3_Shr_L0_T  v5 h1_0 h1_1 h1_2 v1 v6 h0_0 h0_1 h0_2).prop (onB (v5, h1_0, h1_1, h1_2) Q) := by kernel_rfl
set_option maxRecDepth 100000 in
theorem u3_Shr_L0_ls {F : Nat → Prop} {B : Nat} {w0 : World} {s : St} {k : X → St → Prop} (hk : (lsB 0 u3_Shr_L0_dec u3_Shr_L0_I u3_Shr_L0_R u3_Shr_L0_ok u3_Shr_L0_rt u3_Shr_L0_v u3_Shr_L0_rv) s k) : EW Try.prog (mkC ([(52, .s (sumT (aOne (cU3)) fun x => (o1 (cU2)).enc (u3_top x))), (37, .s (sumOf (aCons (cU2) (aOne (cInt .i64))) (fun x => u2_Shr_s x.1 x.2) fun x => (o2 (cU2) (cBool)).enc (u2_Shr x.1 x.2)))]) F) B w0 (.loop (lp Try.f38 0)) s k :=
  lsB_ok (fun _ _ _ h => weak_of u3_Shr_L0_ot (.inl rfl) h) (fun _ _ h => weak_ofR u3_Shr_L0_otR (.inl rfl) h) (step := u3_Shr_L0_step) (fun p x Q h => evC_spec mixed (mkC_ok (AllGood.cons u3_top_ok (AllGood.cons u2_Shr_ok AllGood.nil)) F) (L := noL) (u := 60) _ (loops_nil (by kernel_rfl)) _ _ (Eq.mpr (u3_Shr_L0_ev F u3_top u2_Shr u2_Shr_s p.1 p.2.1 p.2.2.1 p.2.2.2 x.1 x.2.1 x.2.2.1 x.2.2.2.1 x.2.2.2.2 Q) h)) (fun _ _ h => run_okB h) hk
theorem u3_Shr_ev (F : Nat → Prop) (u3_top : U3 → U2) (u2_Shr : U2 → Int → U2 × Bool) (u2_Shr_s : U2 → Int → Bool) (u3_Shr_L0_ok : (Bool × Int × Int × Int) → (Int × Bool × Int × Int × Int) → Bool) (u3_Shr_L0_rt : (Bool × Int × Int × Int) → (Int × Bool × Int × Int × Int) → Bool) (u3_Shr_L0_v : (Bool × Int × Int × Int) → (Int × Bool × Int × Int × Int) → Int × Bool × Int × Int × Int) (u3_Shr_L0_rv : (Bool × Int × Int × Int) → (Int × Bool × Int × Int × Int) → Bool × Int × Int × Int) (a : U3) (n : Int) (Q : AV → Prop) : evF Try.prog (mkC ([(52, .s (sumT (aOne (cU3)) fun x => (o1 (cU2)).enc (u3_top x))), (37, .s (sumOf (aCons (cU2) (aOne (cInt .i64))) (fun x => u2_Shr_s x.1 x.2) fun x => (o2 (cU2) (cBool)).enc (u2_Shr x.1 x.2)))]) F) (fun id => cond (Nat.beq 2 id) (some (lsB 0 u3_Shr_L0_dec u3_Shr_L0_I u3_Shr_L0_R u3_Shr_L0_ok u3_Shr_L0_rt u3_Shr_L0_v u3_Shr_L0_rv)) (none) : Loops) 60 Try.f38 ((aCons (cU3) (aOne (cInt .i64))).enc false (a, n)) Q = (u3_Shr_T u3_top u2_Shr u2_Shr_s u3_Shr_L0_ok u3_Shr_L0_rt u3_Shr_L0_v u3_Shr_L0_rv a n).prop (fun x => Q ((o2 (cU3) (cBool)).enc x)) := by kernel_rfl
theorem u3_Shr_c (x : U3 × Int) (hs : u3_Shr_s x.1 x.2 = true) (w : World) (vs : Array Value) (hp : ArgsR ((aCons (cU3) (aOne (cInt .i64))).enc false x) w vs) : Calls Try.prog 38 vs w (Ans ((o2 (cU3) (cBool)).enc (u3_Shr x.1 x.2)) w) :=
  contractT mixed (AllGood.cons u3_top_ok (AllGood.cons u2_Shr_ok AllGood.nil)) Try.func38 (fun _ _ _ => loops_all (m := 1) (by kernel_rfl) (fun i hi => match i, hi with
    | 0, _ => (fun g hg s k hk => u3_Shr_L0_ls (cast (congrFun (congrFun (Option.some.inj (hg.symm.trans (by kernel_rfl))) s) k) hk))
    | (j + 1), hi => absurd hi (by omega))) hs (fun F => u3_Shr_ev F u3_top u2_Shr u2_Shr_s u3_Shr_L0_ok u3_Shr_L0_rt u3_Shr_L0_v u3_Shr_L0_rv x.1 x.2) w vs hp
theorem u3_Shr_ok : GoodF Try.prog 38 (sumOf (aCons (cU3) (aOne (cInt .i64))) (fun x => u3_Shr_s x.1 x.2) fun x => (o2 (cU3) (cBool)).enc (u3_Shr x.1 x.2)) :=
  good_sum (callable_of Try.func38 (by kernel_rfl) (by kernel_rfl)) u3_Shr_c
/-! (flyball/wide.U192).Div -/
def u3_Div_L0_tm : Tm :=
  Tm.mk
    [none, none, some (false, [Sh.ptr 0 0]), none, some (false, [Sh.ptr 1 0]), some (false, [Sh.ptr 2 0]),
      some (false, [Sh.ptr 3 0]), some (false, [Sh.ptr 4 0]), some (false, [Sh.ptr 5 0]),
      some (false, [Sh.int IntKind.i64]), none, none, none, none, some (false, [Sh.bool]), none, none, none, none, none,
      none, none, none, none, none, none, none, none, none, none, none, none, none, none, none, none, none, none, none,
      none, none, none, none, none, none, none, none, none, none, none, none, none, none, none, none, none, none, none,
      none, none, none, none, none, none, none, none]
    [Hs.cells 34 [Sh.int IntKind.u64, Sh.int IntKind.u64, Sh.int IntKind.u64],
      Hs.cells 34 [Sh.int IntKind.u64, Sh.int IntKind.u64, Sh.int IntKind.u64],
      Hs.cells 24 [Sh.int IntKind.u64, Sh.int IntKind.u64],
      Hs.cells 34 [Sh.int IntKind.u64, Sh.int IntKind.u64, Sh.int IntKind.u64],
      Hs.cells 34 [Sh.int IntKind.u64, Sh.int IntKind.u64, Sh.int IntKind.u64],
      Hs.cells 34 [Sh.int IntKind.u64, Sh.int IntKind.u64, Sh.int IntKind.u64]]
    false
def u3_Div_L0_of : List Pv → Option ((Bool × Int × Int × Int × Int × Int × Int × Int × Int × Int × Int × Int) × (Int × Int × Int × Int × Int × Int × Int))
  | [.i v9, .b v14, .i h0_0, .i h0_1, .i h0_2, .i h1_0, .i h1_1, .i h1_2, .i h2_0, .i h2_1, .i h3_0, .i h3_1, .i h3_2, .i h4_0, .i h4_1, .i h4_2, .i h5_0, .i h5_1, .i h5_2] => some ((v14, h0_0, h0_1, h0_2, h1_0, h1_1, h1_2, h2_0, h2_1, h5_0, h5_1, h5_2), (v9, h3_0, h3_1, h3_2, h4_0, h4_1, h4_2))
  | _ => none
def u3_Div_L0_to (p : Bool × Int × Int × Int × Int × Int × Int × Int × Int × Int × Int × Int) (x : Int × Int × Int × Int × Int × Int × Int) : List Pv := [.i x.1, .b p.1, .i p.2.1, .i p.2.2.1, .i p.2.2.2.1, .i p.2.2.2.2.1, .i p.2.2.2.2.2.1, .i p.2.2.2.2.2.2.1, .i p.2.2.2.2.2.2.2.1, .i p.2.2.2.2.2.2.2.2.1, .i x.2.1, .i x.2.2.1, .i x.2.2.2.1, .i x.2.2.2.2.1, .i x.2.2.2.2.2.1, .i x.2.2.2.2.2.2, .i p.2.2.2.2.2.2.2.2.2.1, .i p.2.2.2.2.2.2.2.2.2.2.1, .i p.2.2.2.2.2.2.2.2.2.2.2]
theorem u3_Div_L0_ot (l : List Pv) (p : Bool × Int × Int × Int × Int × Int × Int × Int × Int × Int × Int × Int) (x : Int × Int × Int × Int × Int × Int × Int) (h : u3_Div_L0_of l = some (p, x)) : u3_Div_L0_to p x = l := by
  unfold u3_Div_L0_of at h
  split at h
  · cases h; rfl
  · cases h
def u3_Div_L0_dec (s : St) : Option ((Bool × Int × Int × Int × Int × Int × Int × Int × Int × Int × Int × Int) × (Int × Int × Int × Int × Int × Int × Int)) := (u3_Div_L0_tm.dec s).bind u3_Div_L0_of
def u3_Div_L0_I (p : Bool × Int × Int × Int × Int × Int × Int × Int × Int × Int × Int × Int) (x : Int × Int × Int × Int × Int × Int × Int) : St := u3_Div_L0_tm.enc (u3_Div_L0_to p x)
theorem u3_Div_L0_ev (F : Nat → Prop) (u3_Len : U3 → Int) (u3_Shr : U3 → Int → U3 × Bool) (u3_Shr_s : U3 → Int → Bool) (u3_Shl : U3 → Int → U3) (u3_Shl_s : U3 → Int → Bool) (u3_Cmp : U3 → U3 → Int) (u3_Sub : U3 → U3 → U3 × Int) (u3_Sub_s : U3 → U3 → Bool) (v14 : Bool) (h0_0 : Int) (h0_1 : Int) (h0_2 : Int) (h1_0 : Int) (h1_1 : Int) (h1_2 : Int) (h2_0 : Int) (h2_1 : Int) (h5_0 : Int) (h5_1 : Int) (h5_2 : Int) (v9 : Int) (h3_0 : Int) (h3_1 : Int) (h3_2 : Int) (h4_0 : Int) (h4_1 : Int) (h4_2 : Int) (Q : ((Bool × Int × Int × Int × Int × Int × Int × Int × Int × Int × Int × Int) × (Int × Int × Int × Int × Int × Int × Int)) ⊕ ((Bool × Int × Int × Int × Int × Int × Int × Int × Int × Int × Int × Int) × (Int × Int × Int × Int × Int × Int × Int)) → Prop) : evC Try.prog (mkC ([(36, .s (sumT (aOne (cU3)) fun x => (o1 (cInt .i64)).enc (u3_Len x))), (38, .s (sumOf (aCons (cU3) (aOne (cInt .i64))) (fun x => u3_Shr_s x.1 x.2) fun x => (o2 (cU3) (cBool)).enc (u3_Shr x.1 x.2))), (41, .s (sumOf (aCons (cU3) (aOne (cInt .i64))) (fun x => u3_Shl_s x.1 x.2) fun x => (o1 (cU3)).enc (u3_Shl x.1 x.2))), (35, .s (sumT (aCons (cU3) (aOne (cU3))) fun x => (o1 (cInt .i64)).enc (u3_Cmp x.1 x.2))), (32, .s (sumOf (aCons (cU3) (aOne (cU3))) (fun x => u3_Sub_s x.1 x.2) fun x => (o2 (cU3) (cInt .u64)).enc (u3_Sub x.1 x.2)))]) F) noL 60 (lp Try.f43 0) (u3_Div_L0_I (v14, h0_0, h0_1, h0_2, h1_0, h1_1, h1_2, h2_0, h2_1, h5_0, h5_1, h5_2) (v9, h3_0, h3_1, h3_2, h4_0, h4_1, h4_2)) (fun y s => onO Q (bkE 0 u3_Div_L0_dec y s)) = (u3_Div_L0_T u3_Shr u3_Shr_s u3_Shl u3_Shl_s u3_Cmp u3_Sub u3_Sub_s v14 h0_0 h0_1 h0_2 h1_0 h1_1 h1_2 h2_0 h2_1 h5_0 h5_1 h5_2 v9 h3_0 h3_1 h3_2 h4_0 h4_1 h4_2).prop (onT (v14, h0_0, h0_1, h0_2, h1_0, h1_1, h1_2, h2_0, h2_1, h5_0, h5_1, h5_2) Q) := by kernel_rfl
set_option maxRecDepth 100000 in
theorem u3_Div_L0_ls {F : Nat → Prop} {B : Nat} {w0 : World} {s : St} {k : X → St → Prop} (hk : (lsE 0 u3_Div_L0_dec u3_Div_L0_I u3_Div_L0_ok u3_Div_L0_v) s k) : EW Try.prog (mkC ([(36, .s (sumT (aOne (cU3)) fun x => (o1 (cInt .i64)).enc (u3_Len x))), (38, .s (sumOf (aCons (cU3) (aOne (cInt .i64))) (fun x => u3_Shr_s x.1 x.2) fun x => (o2 (cU3) (cBool)).enc (u3_Shr x.1 x.2))), (41, .s (sumOf (aCons (cU3) (aOne (cInt .i64))) (fun x => u3_Shl_s x.1 x.2) fun x => (o1 (cU3)).enc (u3_Shl x.1 x.2))), (35, .s (sumT (aCons (cU3) (aOne (cU3))) fun x => (o1 (cInt .i64)).enc (u3_Cmp x.1 x.2))), (32, .s (sumOf (aCons (cU3) (aOne (cU3))) (fun x => u3_Sub_s x.1 x.2) fun x => (o2 (cU3) (cInt .u64)).enc (u3_Sub x.1 x.2)))]) F) B w0 (.loop (lp Try.f43 0)) s k :=
  lsE_ok (fun _ _ _ h => weak_of u3_Div_L0_ot (.inl rfl) h) (step := u3_Div_L0_step) (fun p x Q h => evC_spec mixed (mkC_ok (AllGood.cons u3_Len_ok (AllGood.cons u3_Shr_ok (AllGood.cons u3_Shl_ok (AllGood.cons u3_Cmp_ok (AllGood.cons u3_Sub_ok AllGood.nil))))) F) (L := noL) (u := 60) _ (loops_nil (by kernel_rfl)) _ _ (Eq.mpr (u3_Div_L0_ev F u3_Len u3_Shr u3_Shr_s u3_Shl u3_Shl_s u3_Cmp u3_Sub u3_Sub_s p.1 p.2.1 p.2.2.1 p.2.2.2.1 p.2.2.2.2.1 p.2.2.2.2.2.1 p.2.2.2.2.2.2.1 p.2.2.2.2.2.2.2.1 p.2.2.2.2.2.2.2.2.1 p.2.2.2.2.2.2.2.2.2.1 p.2.2.2.2.2.2.2.2.2.2.1 p.2.2.2.2.2.2.2.2.2.2.2 x.1 x.2.1 x.2.2.1 x.2.2.2.1 x.2.2.2.2.1 x.2.2.2.2.2.1 x.2.2.2.2.2.2 Q) h)) (fun _ _ h => run_ok h) hk
theorem u3_Div_ev (F : Nat → Prop) (u3_Len : U3 → Int) (u3_Shr : U3 → Int → U3 × Bool) (u3_Shr_s : U3 → Int → Bool) (u3_Shl : U3 → Int → U3) (u3_Shl_s : U3 → Int → Bool) (u3_Cmp : U3 → U3 → Int) (u3_Sub : U3 → U3 → U3 × Int) (u3_Sub_s : U3 → U3 → Bool) (u3_Div_L0_ok : (Bool × Int × Int × Int × Int × Int × Int × Int × Int × Int × Int × Int) → (Int × Int × Int × Int × Int × Int × Int) → Bool) (u3_Div_L0_v : (Bool × Int × Int × Int × Int × Int × Int × Int × Int × Int × Int × Int) → (Int × Int × Int × Int × Int × Int × Int) → Int × Int × Int × Int × Int × Int × Int) (a : U3) (b : U2) (Q : AV → Prop) : evF Try.prog (mkC ([(36, .s (sumT (aOne (cU3)) fun x => (o1 (cInt .i64)).enc (u3_Len x))), (38, .s (sumOf (aCons (cU3) (aOne (cInt .i64))) (fun x => u3_Shr_s x.1 x.2) fun x => (o2 (cU3) (cBool)).enc (u3_Shr x.1 x.2))), (41, .s (sumOf (aCons (cU3) (aOne (cInt .i64))) (fun x => u3_Shl_s x.1 x.2) fun x => (o1 (cU3)).enc (u3_Shl x.1 x.2))), (35, .s (sumT (aCons (cU3) (aOne (cU3))) fun x => (o1 (cInt .i64)).enc (u3_Cmp x.1 x.2))), (32, .s (sumOf (aCons (cU3) (aOne (cU3))) (fun x => u3_Sub_s x.1 x.2) fun x => (o2 (cU3) (cInt .u64)).enc (u3_Sub x.1 x.2)))]) F) (fun id => cond (Nat.beq 7 id) (some (lsE 0 u3_Div_L0_dec u3_Div_L0_I u3_Div_L0_ok u3_Div_L0_v)) (none) : Loops) 60 Try.f43 ((aCons (cU3) (aOne (cU2))).enc false (a, b)) Q = (u3_Div_T u3_Len u3_Div_L0_ok u3_Div_L0_v a b).prop (fun x => Q ((o2 (cU3) (cU2)).enc x)) := by kernel_rfl
theorem u3_Div_c (x : U3 × U2) (hs : u3_Div_s x.1 x.2 = true) (w : World) (vs : Array Value) (hp : ArgsR ((aCons (cU3) (aOne (cU2))).enc false x) w vs) : Calls Try.prog 43 vs w (Ans ((o2 (cU3) (cU2)).enc (u3_Div x.1 x.2)) w) :=
  contractT mixed (AllGood.cons u3_Len_ok (AllGood.cons u3_Shr_ok (AllGood.cons u3_Shl_ok (AllGood.cons u3_Cmp_ok (AllGood.cons u3_Sub_ok AllGood.nil))))) Try.func43 (fun _ _ _ => loops_all (m := 1) (by kernel_rfl) (fun i hi => match i, hi with
    | 0, _ => (fun g hg s k hk => u3_Div_L0_ls (cast (congrFun (congrFun (Option.some.inj (hg.symm.trans (by kernel_rfl))) s) k) hk))
    | (j + 1), hi => absurd hi (by omega))) hs (fun F => u3_Div_ev F u3_Len u3_Shr u3_Shr_s u3_Shl u3_Shl_s u3_Cmp u3_Sub u3_Sub_s u3_Div_L0_ok u3_Div_L0_v x.1 x.2) w vs hp
theorem u3_Div_ok : GoodF Try.prog 43 (sumOf (aCons (cU3) (aOne (cU2))) (fun x => u3_Div_s x.1 x.2) fun x => (o2 (cU3) (cU2)).enc (u3_Div x.1 x.2)) :=
  good_sum (callable_of Try.func43 (by kernel_rfl) (by kernel_rfl)) u3_Div_c
end Go.Proofs.Ytgaapeaclbpaeaa
