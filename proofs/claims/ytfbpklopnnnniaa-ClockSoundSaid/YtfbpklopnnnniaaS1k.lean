/- Contracts and laws of functions of the program, on the way to the claim. Conditions: as each theorem states. -/
import Derived.Test.YtfbpklopnnnniaaS1j
import Derived.Test.YtfbpklopnnnniaaEvL
namespace Go.Proofs.Ytfbpklopnnnniaa
open Go.Ev Go.Fb


/-! flyball/ints.Widen -/
def ints_Widen_L0_tm : Tm :=
  Tm.mk
    [none, none, none, some (false, [Sh.ptr 0 0]), none, none, some (false, [Sh.ptr 1 0]), some (false, [Sh.ptr 2 0]),
      some (false, [Sh.int IntKind.i64]), some (false, [Sh.int IntKind.i64]), none, none, none, none, none,
      some (false, [Sh.bool]), none, none, none, none, none, none, some (false, [Sh.veci false IntKind.i64]),
      some (false, [Sh.int IntKind.i64]), some (false, [Sh.int IntKind.i64]), none, none, none, none, none, none, none,
      none, none, none, none, none, none, none, none, none, none, none, none, none, none, none, none, none, none, none,
      none, none, none, none, none, none, none, none, none]
    [Hs.cells 23 [Sh.bool, Sh.int IntKind.i64, Sh.int IntKind.i64],
      Hs.cells 23 [Sh.bool, Sh.int IntKind.i64, Sh.int IntKind.i64],
      Hs.cells 23 [Sh.bool, Sh.int IntKind.i64, Sh.int IntKind.i64]]
def ints_Widen_L0_of : List Pv → Option ((Bool × (List Int) × Int × Bool × Int × Int × Bool × Int × Int × Bool × Int × Int) × (Int × Int × Int))
  | [.i v8, .i v9, .b v15, .il v22, .i v23, .i v24, .b h0_0, .i h0_1, .i h0_2, .b h1_0, .i h1_1, .i h1_2, .b h2_0, .i h2_1, .i h2_2] => some ((v15, v22, v23, h0_0, h0_1, h0_2, h1_0, h1_1, h1_2, h2_0, h2_1, h2_2), (v8, v9, v24))
  | _ => none
def ints_Widen_L0_to (p : Bool × (List Int) × Int × Bool × Int × Int × Bool × Int × Int × Bool × Int × Int) (x : Int × Int × Int) : List Pv := [.i x.1, .i x.2.1, .b p.1, .il p.2.1, .i p.2.2.1, .i x.2.2, .b p.2.2.2.1, .i p.2.2.2.2.1, .i p.2.2.2.2.2.1, .b p.2.2.2.2.2.2.1, .i p.2.2.2.2.2.2.2.1, .i p.2.2.2.2.2.2.2.2.1, .b p.2.2.2.2.2.2.2.2.2.1, .i p.2.2.2.2.2.2.2.2.2.2.1, .i p.2.2.2.2.2.2.2.2.2.2.2]
theorem ints_Widen_L0_ot (l : List Pv) (p : Bool × (List Int) × Int × Bool × Int × Int × Bool × Int × Int × Bool × Int × Int) (x : Int × Int × Int) (h : ints_Widen_L0_of l = some (p, x)) : ints_Widen_L0_to p x = l := by
  unfold ints_Widen_L0_of at h
  split at h
  · cases h; rfl
  · cases h
def ints_Widen_L0_dec (s : St) : Option ((Bool × (List Int) × Int × Bool × Int × Int × Bool × Int × Int × Bool × Int × Int) × (Int × Int × Int)) := (ints_Widen_L0_tm.dec s).bind ints_Widen_L0_of
def ints_Widen_L0_I (p : Bool × (List Int) × Int × Bool × Int × Int × Bool × Int × Int × Bool × Int × Int) (x : Int × Int × Int) : St := ints_Widen_L0_tm.enc (ints_Widen_L0_to p x)
def ints_Widen_L0_T  (_v15 : Bool) (v22 : List Int) (v23 : Int) (_h0_0 : Bool) (_h0_1 : Int) (_h0_2 : Int) (_h1_0 : Bool) (_h1_1 : Int) (_h1_2 : Int) (_h2_0 : Bool) (h2_1 : Int) (h2_2 : Int) (v8 : Int) (v9 : Int) (v24 : Int) : Tr ((Int × Int × Int) ⊕ (Int × Int × Int)) :=
  Tr.br (decide (v24 < v23))
    (Tr.ast (and (decide (0 ≤ v24)) (decide (v24 < (v22.length : Int))))
      (Tr.br (decide (v22.getD v24.toNat 0 ≤ h2_1))
        (Tr.br (decide (v22.getD v24.toNat 0 ≥ h2_2))
          (Tr.leaf (Sum.inl (imax v8 (v22.getD v24.toNat 0), imin v9 (v22.getD v24.toNat 0), IntKind.i64.wrap (v24 + 1))))
          (Tr.leaf (Sum.inl (imax v8 (v22.getD v24.toNat 0), v9, IntKind.i64.wrap (v24 + 1)))))
        (Tr.br (decide (v22.getD v24.toNat 0 ≥ h2_2))
          (Tr.leaf (Sum.inl (v8, imin v9 (v22.getD v24.toNat 0), IntKind.i64.wrap (v24 + 1))))
          (Tr.leaf (Sum.inl (v8, v9, IntKind.i64.wrap (v24 + 1)))))))
    (Tr.leaf (Sum.inr (v8, v9, v24)))
theorem ints_Widen_L0_ev (ints_norm : I3 → I3) (ints_Join2 : (I3 × I3) → I3) (ints_Join1 : I3 → I3) (ints_Join0 : Unit → I3) (ints_Make : Int → Int → I3) (v15 : Bool) (v22 : List Int) (v23 : Int) (h0_0 : Bool) (h0_1 : Int) (h0_2 : Int) (h1_0 : Bool) (h1_1 : Int) (h1_2 : Int) (h2_0 : Bool) (h2_1 : Int) (h2_2 : Int) (v8 : Int) (v9 : Int) (v24 : Int) (Q : ((Bool × (List Int) × Int × Bool × Int × Int × Bool × Int × Int × Bool × Int × Int) × (Int × Int × Int)) ⊕ ((Bool × (List Int) × Int × Bool × Int × Int × Bool × Int × Int × Bool × Int × Int) × (Int × Int × Int)) → Prop) : evC Try.prog (mkC [(68, (sumT (aOne (cI3)) fun x => (o1 (cI3)).enc (ints_norm x))), (43, (orS (sumT (aOne (cLit ecI3 to2 of2 l2)) fun x => (o1 (cI3)).enc (ints_Join2 x)) (orS (sumT (aOne (cLit ecI3 to1 of1 l1)) fun x => (o1 (cI3)).enc (ints_Join1 x)) (sumT (aOne (cLit ecI3 to0 of0 l0)) fun x => (o1 (cI3)).enc (ints_Join0 x))))), (37, (sumT (aCons (cInt .i64) (aOne (cInt .i64))) fun x => (o1 (cI3)).enc (ints_Make x.1 x.2)))]) noL 60 (lp Try.f57 0) (ints_Widen_L0_I (v15, v22, v23, h0_0, h0_1, h0_2, h1_0, h1_1, h1_2, h2_0, h2_1, h2_2) (v8, v9, v24)) (fun y s => onO Q (bkE 0 ints_Widen_L0_dec y s)) = (ints_Widen_L0_T  v15 v22 v23 h0_0 h0_1 h0_2 h1_0 h1_1 h1_2 h2_0 h2_1 h2_2 v8 v9 v24).prop (onT (v15, v22, v23, h0_0, h0_1, h0_2, h1_0, h1_1, h1_2, h2_0, h2_1, h2_2) Q) := by kernel_rfl
def ints_Widen_L0_step (p : Bool × (List Int) × Int × Bool × Int × Int × Bool × Int × Int × Bool × Int × Int) (x : Int × Int × Int) : Tr ((Int × Int × Int) ⊕ (Int × Int × Int)) := ints_Widen_L0_T  p.1 p.2.1 p.2.2.1 p.2.2.2.1 p.2.2.2.2.1 p.2.2.2.2.2.1 p.2.2.2.2.2.2.1 p.2.2.2.2.2.2.2.1 p.2.2.2.2.2.2.2.2.1 p.2.2.2.2.2.2.2.2.2.1 p.2.2.2.2.2.2.2.2.2.2.1 p.2.2.2.2.2.2.2.2.2.2.2 x.1 x.2.1 x.2.2
def ints_Widen_L0_r (p : Bool × (List Int) × Int × Bool × Int × Int × Bool × Int × Int × Bool × Int × Int) (x : Int × Int × Int) : Option (Int × Int × Int) := runB (ints_Widen_L0_step p) x
def ints_Widen_L0_v (p : Bool × (List Int) × Int × Bool × Int × Int × Bool × Int × Int × Bool × Int × Int) (x : Int × Int × Int) : Int × Int × Int := (ints_Widen_L0_r p x).getD x
def ints_Widen_L0_ok (p : Bool × (List Int) × Int × Bool × Int × Int × Bool × Int × Int × Bool × Int × Int) (x : Int × Int × Int) : Bool := (ints_Widen_L0_r p x).isSome
set_option maxRecDepth 100000 in
theorem ints_Widen_L0_ls {B : Nat} {w0 : World} {s : St} {k : X → St → Prop} (hk : (lsE 0 ints_Widen_L0_dec ints_Widen_L0_I ints_Widen_L0_ok ints_Widen_L0_v) s k) : EW Try.prog (mkC [(68, (sumT (aOne (cI3)) fun x => (o1 (cI3)).enc (ints_norm x))), (43, (orS (sumT (aOne (cLit ecI3 to2 of2 l2)) fun x => (o1 (cI3)).enc (ints_Join2 x)) (orS (sumT (aOne (cLit ecI3 to1 of1 l1)) fun x => (o1 (cI3)).enc (ints_Join1 x)) (sumT (aOne (cLit ecI3 to0 of0 l0)) fun x => (o1 (cI3)).enc (ints_Join0 x))))), (37, (sumT (aCons (cInt .i64) (aOne (cInt .i64))) fun x => (o1 (cI3)).enc (ints_Make x.1 x.2)))]) B w0 (.loop (lp Try.f57 0)) s k :=
  lsE_ok (fun _ _ _ h => weak_of ints_Widen_L0_ot h) (step := ints_Widen_L0_step) (fun p x Q h => evC_spec mixed (mkC_ok (AllGood.cons ints_norm_ok (AllGood.cons (good_or ints_Join2_ok (good_or ints_Join1_ok ints_Join0_ok)) (AllGood.cons ints_Make_ok AllGood.nil))) B w0) (L := noL) (u := 60) _ (loops_nil (by kernel_rfl)) _ _ (Eq.mpr (ints_Widen_L0_ev ints_norm ints_Join2 ints_Join1 ints_Join0 ints_Make p.1 p.2.1 p.2.2.1 p.2.2.2.1 p.2.2.2.2.1 p.2.2.2.2.2.1 p.2.2.2.2.2.2.1 p.2.2.2.2.2.2.2.1 p.2.2.2.2.2.2.2.2.1 p.2.2.2.2.2.2.2.2.2.1 p.2.2.2.2.2.2.2.2.2.2.1 p.2.2.2.2.2.2.2.2.2.2.2 x.1 x.2.1 x.2.2 Q) h)) (fun _ _ h => run_ok h) hk
def ints_Widen_T (ints_norm : I3 → I3) (ints_Join2 : (I3 × I3) → I3) (ints_Make : Int → Int → I3) (ints_Widen_L0_ok : (Bool × (List Int) × Int × Bool × Int × Int × Bool × Int × Int × Bool × Int × Int) → (Int × Int × Int) → Bool) (ints_Widen_L0_v : (Bool × (List Int) × Int × Bool × Int × Int × Bool × Int × Int × Bool × Int × Int) → (Int × Int × Int) → Int × Int × Int) (old : I3) (now : I3) (steps : List Int) : Tr (I3) :=
  Tr.br (ints_norm old).e (Tr.leaf (ints_norm now))
    (Tr.ast
      (ints_Widen_L0_ok
        (false, steps, (steps.length : Int), (ints_norm old).e, (ints_norm old).lo, (ints_norm old).hi, false, 0, 0,
          (ints_Join2 (ints_norm old, now)).e, (ints_Join2 (ints_norm old, now)).lo, (ints_Join2 (ints_norm old, now)).hi)
        (-1099511627776, 1099511627776, 0))
      (Tr.br ((ints_Join2 (ints_norm old, now)).lo == (ints_norm old).lo)
        (Tr.br ((ints_Join2 (ints_norm old, now)).hi == (ints_norm old).hi)
          (Tr.leaf (ints_Make (ints_Join2 (ints_norm old, now)).lo (ints_Join2 (ints_norm old, now)).hi))
          (Tr.leaf
            (ints_Make (ints_Join2 (ints_norm old, now)).lo
              (ints_Widen_L0_v
                    (false, steps, (steps.length : Int), (ints_norm old).e, (ints_norm old).lo, (ints_norm old).hi, false, 0, 0,
                      (ints_Join2 (ints_norm old, now)).e, (ints_Join2 (ints_norm old, now)).lo,
                      (ints_Join2 (ints_norm old, now)).hi)
                    (-1099511627776, 1099511627776, 0)).snd.fst)))
        (Tr.br ((ints_Join2 (ints_norm old, now)).hi == (ints_norm old).hi)
          (Tr.leaf
            (ints_Make
              (ints_Widen_L0_v
                  (false, steps, (steps.length : Int), (ints_norm old).e, (ints_norm old).lo, (ints_norm old).hi, false, 0, 0,
                    (ints_Join2 (ints_norm old, now)).e, (ints_Join2 (ints_norm old, now)).lo,
                    (ints_Join2 (ints_norm old, now)).hi)
                  (-1099511627776, 1099511627776, 0)).fst
              (ints_Join2 (ints_norm old, now)).hi))
          (Tr.leaf
            (ints_Make
              (ints_Widen_L0_v
                  (false, steps, (steps.length : Int), (ints_norm old).e, (ints_norm old).lo, (ints_norm old).hi, false, 0, 0,
                    (ints_Join2 (ints_norm old, now)).e, (ints_Join2 (ints_norm old, now)).lo,
                    (ints_Join2 (ints_norm old, now)).hi)
                  (-1099511627776, 1099511627776, 0)).fst
              (ints_Widen_L0_v
                    (false, steps, (steps.length : Int), (ints_norm old).e, (ints_norm old).lo, (ints_norm old).hi, false, 0, 0,
                      (ints_Join2 (ints_norm old, now)).e, (ints_Join2 (ints_norm old, now)).lo,
                      (ints_Join2 (ints_norm old, now)).hi)
                    (-1099511627776, 1099511627776, 0)).snd.fst)))))
def ints_Widen_t (old : I3) (now : I3) (steps : List Int) : Tr (I3) := ints_Widen_T ints_norm ints_Join2 ints_Make ints_Widen_L0_ok ints_Widen_L0_v old now steps
def ints_Widen (old : I3) (now : I3) (steps : List Int) : I3 := (ints_Widen_t old now steps).val
theorem ints_Widen_ev (ints_norm : I3 → I3) (ints_Join2 : (I3 × I3) → I3) (ints_Join1 : I3 → I3) (ints_Join0 : Unit → I3) (ints_Make : Int → Int → I3) (ints_Widen_L0_ok : (Bool × (List Int) × Int × Bool × Int × Int × Bool × Int × Int × Bool × Int × Int) → (Int × Int × Int) → Bool) (ints_Widen_L0_v : (Bool × (List Int) × Int × Bool × Int × Int × Bool × Int × Int × Bool × Int × Int) → (Int × Int × Int) → Int × Int × Int) (old : I3) (now : I3) (steps : List Int) (Q : AV → Prop) : evF Try.prog (mkC [(68, (sumT (aOne (cI3)) fun x => (o1 (cI3)).enc (ints_norm x))), (43, (orS (sumT (aOne (cLit ecI3 to2 of2 l2)) fun x => (o1 (cI3)).enc (ints_Join2 x)) (orS (sumT (aOne (cLit ecI3 to1 of1 l1)) fun x => (o1 (cI3)).enc (ints_Join1 x)) (sumT (aOne (cLit ecI3 to0 of0 l0)) fun x => (o1 (cI3)).enc (ints_Join0 x))))), (37, (sumT (aCons (cInt .i64) (aOne (cInt .i64))) fun x => (o1 (cI3)).enc (ints_Make x.1 x.2)))]) (fun id => cond (Nat.beq 7 id) (some (lsE 0 ints_Widen_L0_dec ints_Widen_L0_I ints_Widen_L0_ok ints_Widen_L0_v)) (none) : Loops) 60 Try.f57 ((aCons (cI3) (aCons (cI3) (aOne (cInts .i64)))).enc (old, now, steps)) Q = (ints_Widen_T ints_norm ints_Join2 ints_Make ints_Widen_L0_ok ints_Widen_L0_v old now steps).prop (fun x => Q ((o1 (cI3)).enc x)) := by kernel_rfl
def ints_Widen_s (old : I3) (now : I3) (steps : List Int) : Bool := (ints_Widen_t old now steps).safe
theorem ints_Widen_c (x : I3 × I3 × (List Int)) (hs : ints_Widen_s x.1 x.2.1 x.2.2 = true) (w : World) (vs : Array Value) (hp : ArgsR ((aCons (cI3) (aCons (cI3) (aOne (cInts .i64)))).enc x) w vs) : Calls Try.prog 57 vs w (Ans ((o1 (cI3)).enc (ints_Widen x.1 x.2.1 x.2.2)) w) :=
  contractT mixed (AllGood.cons ints_norm_ok (AllGood.cons (good_or ints_Join2_ok (good_or ints_Join1_ok ints_Join0_ok)) (AllGood.cons ints_Make_ok AllGood.nil))) Try.func57 (fun _ _ => loops_all (m := 1) (by kernel_rfl) (fun i hi => match i, hi with
    | 0, _ => (fun g hg s k hk => ints_Widen_L0_ls (cast (congrFun (congrFun (Option.some.inj (hg.symm.trans (by kernel_rfl))) s) k) hk))
    | (j + 1), hi => absurd hi (by omega))) hs (ints_Widen_ev ints_norm ints_Join2 ints_Join1 ints_Join0 ints_Make ints_Widen_L0_ok ints_Widen_L0_v x.1 x.2.1 x.2.2) w vs hp
theorem ints_Widen_ok : GoodF Try.prog 57 (sumOf (aCons (cI3) (aCons (cI3) (aOne (cInts .i64)))) (fun x => ints_Widen_s x.1 x.2.1 x.2.2) fun x => (o1 (cI3)).enc (ints_Widen x.1 x.2.1 x.2.2)) :=
  good_sum (callable_of Try.func57 (by kernel_rfl) (by kernel_rfl)) ints_Widen_c
/-! flyball/flyballref17.Widen -/
def ref_Widen_L0_tm : Tm :=
  Tm.mk
    [none, none, some (false, [Sh.veci false IntKind.i64]), none, none, none, some (false, [Sh.ptr 0 0]),
      some (false, [Sh.ptr 1 0]), none, some (false, [Sh.ptr 2 0]), some (false, [Sh.int IntKind.i64]),
      some (false, [Sh.int IntKind.i64]), none, none, none, none, none, none, none, some (false, [Sh.bool]), none, none,
      none, none, none, none, none, none, some (false, [Sh.bool]), none, none, none, none, none, none, none, none, none,
      none, none, none, none, none, none, none, none, none, none, none, none, none, none, none, none, none, none, none,
      none, none, none, none, none, none, none, none, none, none, none, none, none, none, none, none, none, none, none,
      none, none]
    [Hs.cells 23 [Sh.bool, Sh.int IntKind.i64, Sh.int IntKind.i64],
      Hs.cells 23 [Sh.bool, Sh.int IntKind.i64, Sh.int IntKind.i64],
      Hs.cells 23 [Sh.bool, Sh.int IntKind.i64, Sh.int IntKind.i64]]
def ref_Widen_L0_of : List Pv → Option (((List Int) × Bool × Bool × Bool × Int × Int × Bool × Int × Int × Bool × Int × Int) × (Int × Int))
  | [.il v2, .i v10, .i v11, .b v19, .b v28, .b h0_0, .i h0_1, .i h0_2, .b h1_0, .i h1_1, .i h1_2, .b h2_0, .i h2_1, .i h2_2] => some ((v2, v19, v28, h0_0, h0_1, h0_2, h1_0, h1_1, h1_2, h2_0, h2_1, h2_2), (v10, v11))
  | _ => none
def ref_Widen_L0_to (p : (List Int) × Bool × Bool × Bool × Int × Int × Bool × Int × Int × Bool × Int × Int) (x : Int × Int) : List Pv := [.il p.1, .i x.1, .i x.2, .b p.2.1, .b p.2.2.1, .b p.2.2.2.1, .i p.2.2.2.2.1, .i p.2.2.2.2.2.1, .b p.2.2.2.2.2.2.1, .i p.2.2.2.2.2.2.2.1, .i p.2.2.2.2.2.2.2.2.1, .b p.2.2.2.2.2.2.2.2.2.1, .i p.2.2.2.2.2.2.2.2.2.2.1, .i p.2.2.2.2.2.2.2.2.2.2.2]
theorem ref_Widen_L0_ot (l : List Pv) (p : (List Int) × Bool × Bool × Bool × Int × Int × Bool × Int × Int × Bool × Int × Int) (x : Int × Int) (h : ref_Widen_L0_of l = some (p, x)) : ref_Widen_L0_to p x = l := by
  unfold ref_Widen_L0_of at h
  split at h
  · cases h; rfl
  · cases h
def ref_Widen_L0_dec (s : St) : Option (((List Int) × Bool × Bool × Bool × Int × Int × Bool × Int × Int × Bool × Int × Int) × (Int × Int)) := (ref_Widen_L0_tm.dec s).bind ref_Widen_L0_of
def ref_Widen_L0_I (p : (List Int) × Bool × Bool × Bool × Int × Int × Bool × Int × Int × Bool × Int × Int) (x : Int × Int) : St := ref_Widen_L0_tm.enc (ref_Widen_L0_to p x)
def ref_Widen_L0_T  (v2 : List Int) (_v19 : Bool) (_v28 : Bool) (_h0_0 : Bool) (_h0_1 : Int) (_h0_2 : Int) (_h1_0 : Bool) (_h1_1 : Int) (_h1_2 : Int) (_h2_0 : Bool) (h2_1 : Int) (_h2_2 : Int) (v10 : Int) (v11 : Int) : Tr ((Int × Int) ⊕ (Int × Int)) :=
  Tr.br (decide (v11 < (v2.length : Int)))
    (Tr.ast (and (decide (0 ≤ v11)) (decide (v11 < (v2.length : Int))))
      (Tr.br (decide (v2.getD v11.toNat 0 ≤ h2_1))
        (Tr.ast (and (decide (0 ≤ v11)) (decide (v11 < (v2.length : Int))))
          (Tr.leaf (Sum.inl (imax v10 (v2.getD v11.toNat 0), IntKind.i64.wrap (v11 + 1)))))
        (Tr.leaf (Sum.inl (v10, IntKind.i64.wrap (v11 + 1))))))
    (Tr.leaf (Sum.inr (v10, v11)))
theorem ref_Widen_L0_ev (ref_Norm : I3 → I3) (ref_Join : I3 → I3 → I3) (v2 : List Int) (v19 : Bool) (v28 : Bool) (h0_0 : Bool) (h0_1 : Int) (h0_2 : Int) (h1_0 : Bool) (h1_1 : Int) (h1_2 : Int) (h2_0 : Bool) (h2_1 : Int) (h2_2 : Int) (v10 : Int) (v11 : Int) (Q : (((List Int) × Bool × Bool × Bool × Int × Int × Bool × Int × Int × Bool × Int × Int) × (Int × Int)) ⊕ (((List Int) × Bool × Bool × Bool × Int × Int × Bool × Int × Int × Bool × Int × Int) × (Int × Int)) → Prop) : evC Try.prog (mkC [(39, (sumT (aOne (cI3)) fun x => (o1 (cI3)).enc (ref_Norm x))), (44, (sumT (aCons (cI3) (aOne (cI3))) fun x => (o1 (cI3)).enc (ref_Join x.1 x.2)))]) noL 60 (lp Try.f58 0) (ref_Widen_L0_I (v2, v19, v28, h0_0, h0_1, h0_2, h1_0, h1_1, h1_2, h2_0, h2_1, h2_2) (v10, v11)) (fun y s => onO Q (bkE 0 ref_Widen_L0_dec y s)) = (ref_Widen_L0_T  v2 v19 v28 h0_0 h0_1 h0_2 h1_0 h1_1 h1_2 h2_0 h2_1 h2_2 v10 v11).prop (onT (v2, v19, v28, h0_0, h0_1, h0_2, h1_0, h1_1, h1_2, h2_0, h2_1, h2_2) Q) := by kernel_rfl
def ref_Widen_L0_step (p : (List Int) × Bool × Bool × Bool × Int × Int × Bool × Int × Int × Bool × Int × Int) (x : Int × Int) : Tr ((Int × Int) ⊕ (Int × Int)) := ref_Widen_L0_T  p.1 p.2.1 p.2.2.1 p.2.2.2.1 p.2.2.2.2.1 p.2.2.2.2.2.1 p.2.2.2.2.2.2.1 p.2.2.2.2.2.2.2.1 p.2.2.2.2.2.2.2.2.1 p.2.2.2.2.2.2.2.2.2.1 p.2.2.2.2.2.2.2.2.2.2.1 p.2.2.2.2.2.2.2.2.2.2.2 x.1 x.2
def ref_Widen_L0_r (p : (List Int) × Bool × Bool × Bool × Int × Int × Bool × Int × Int × Bool × Int × Int) (x : Int × Int) : Option (Int × Int) := runB (ref_Widen_L0_step p) x
def ref_Widen_L0_v (p : (List Int) × Bool × Bool × Bool × Int × Int × Bool × Int × Int × Bool × Int × Int) (x : Int × Int) : Int × Int := (ref_Widen_L0_r p x).getD x
def ref_Widen_L0_ok (p : (List Int) × Bool × Bool × Bool × Int × Int × Bool × Int × Int × Bool × Int × Int) (x : Int × Int) : Bool := (ref_Widen_L0_r p x).isSome
set_option maxRecDepth 100000 in
theorem ref_Widen_L0_ls {B : Nat} {w0 : World} {s : St} {k : X → St → Prop} (hk : (lsE 0 ref_Widen_L0_dec ref_Widen_L0_I ref_Widen_L0_ok ref_Widen_L0_v) s k) : EW Try.prog (mkC [(39, (sumT (aOne (cI3)) fun x => (o1 (cI3)).enc (ref_Norm x))), (44, (sumT (aCons (cI3) (aOne (cI3))) fun x => (o1 (cI3)).enc (ref_Join x.1 x.2)))]) B w0 (.loop (lp Try.f58 0)) s k :=
  lsE_ok (fun _ _ _ h => weak_of ref_Widen_L0_ot h) (step := ref_Widen_L0_step) (fun p x Q h => evC_spec mixed (mkC_ok (AllGood.cons ref_Norm_ok (AllGood.cons ref_Join_ok AllGood.nil)) B w0) (L := noL) (u := 60) _ (loops_nil (by kernel_rfl)) _ _ (Eq.mpr (ref_Widen_L0_ev ref_Norm ref_Join p.1 p.2.1 p.2.2.1 p.2.2.2.1 p.2.2.2.2.1 p.2.2.2.2.2.1 p.2.2.2.2.2.2.1 p.2.2.2.2.2.2.2.1 p.2.2.2.2.2.2.2.2.1 p.2.2.2.2.2.2.2.2.2.1 p.2.2.2.2.2.2.2.2.2.2.1 p.2.2.2.2.2.2.2.2.2.2.2 x.1 x.2 Q) h)) (fun _ _ h => run_ok h) hk
def ref_Widen_L1_tm : Tm :=
  Tm.mk
    [none, none, some (false, [Sh.veci false IntKind.i64]), none, none, none, some (false, [Sh.ptr 0 0]), none, none,
      some (false, [Sh.ptr 1 0]), none, none, some (false, [Sh.int IntKind.i64]), some (false, [Sh.int IntKind.i64]),
      none, none, none, none, none, some (false, [Sh.bool]), none, none, none, none, none, none, none, none,
      some (false, [Sh.bool]), none, none, none, none, none, none, none, none, none, none, none, none, none, none, none,
      none, none, none, none, none, none, none, none, none, none, some (false, [Sh.bool]), none, none, none, none, none,
      none, none, none, none, none, none, none, none, none, none, none, none, none, none, none, none, none, none]
    [Hs.cells 23 [Sh.bool, Sh.int IntKind.i64, Sh.int IntKind.i64],
      Hs.cells 23 [Sh.bool, Sh.int IntKind.i64, Sh.int IntKind.i64]]
def ref_Widen_L1_of : List Pv → Option (((List Int) × Bool × Bool × Bool × Bool × Int × Int × Bool × Int × Int) × (Int × Int))
  | [.il v2, .i v12, .i v13, .b v19, .b v28, .b v54, .b h0_0, .i h0_1, .i h0_2, .b h1_0, .i h1_1, .i h1_2] => some ((v2, v19, v28, v54, h0_0, h0_1, h0_2, h1_0, h1_1, h1_2), (v12, v13))
  | _ => none
def ref_Widen_L1_to (p : (List Int) × Bool × Bool × Bool × Bool × Int × Int × Bool × Int × Int) (x : Int × Int) : List Pv := [.il p.1, .i x.1, .i x.2, .b p.2.1, .b p.2.2.1, .b p.2.2.2.1, .b p.2.2.2.2.1, .i p.2.2.2.2.2.1, .i p.2.2.2.2.2.2.1, .b p.2.2.2.2.2.2.2.1, .i p.2.2.2.2.2.2.2.2.1, .i p.2.2.2.2.2.2.2.2.2]
theorem ref_Widen_L1_ot (l : List Pv) (p : (List Int) × Bool × Bool × Bool × Bool × Int × Int × Bool × Int × Int) (x : Int × Int) (h : ref_Widen_L1_of l = some (p, x)) : ref_Widen_L1_to p x = l := by
  unfold ref_Widen_L1_of at h
  split at h
  · cases h; rfl
  · cases h
def ref_Widen_L1_dec (s : St) : Option (((List Int) × Bool × Bool × Bool × Bool × Int × Int × Bool × Int × Int) × (Int × Int)) := (ref_Widen_L1_tm.dec s).bind ref_Widen_L1_of
def ref_Widen_L1_I (p : (List Int) × Bool × Bool × Bool × Bool × Int × Int × Bool × Int × Int) (x : Int × Int) : St := ref_Widen_L1_tm.enc (ref_Widen_L1_to p x)
def ref_Widen_L1_T  (v2 : List Int) (_v19 : Bool) (_v28 : Bool) (_v54 : Bool) (_h0_0 : Bool) (_h0_1 : Int) (_h0_2 : Int) (_h1_0 : Bool) (_h1_1 : Int) (h1_2 : Int) (v12 : Int) (v13 : Int) : Tr ((Int × Int) ⊕ (Int × Int)) :=
  Tr.br (decide (v13 < (v2.length : Int)))
    (Tr.ast (and (decide (0 ≤ v13)) (decide (v13 < (v2.length : Int))))
      (Tr.br (decide (v2.getD v13.toNat 0 ≥ h1_2))
        (Tr.ast (and (decide (0 ≤ v13)) (decide (v13 < (v2.length : Int))))
          (Tr.leaf (Sum.inl (imin v12 (v2.getD v13.toNat 0), IntKind.i64.wrap (v13 + 1)))))
        (Tr.leaf (Sum.inl (v12, IntKind.i64.wrap (v13 + 1))))))
    (Tr.leaf (Sum.inr (v12, v13)))
theorem ref_Widen_L1_ev (ref_Norm : I3 → I3) (ref_Join : I3 → I3 → I3) (ref_Widen_L0_ok : ((List Int) × Bool × Bool × Bool × Int × Int × Bool × Int × Int × Bool × Int × Int) → (Int × Int) → Bool) (ref_Widen_L0_v : ((List Int) × Bool × Bool × Bool × Int × Int × Bool × Int × Int × Bool × Int × Int) → (Int × Int) → Int × Int) (v2 : List Int) (v19 : Bool) (v28 : Bool) (v54 : Bool) (h0_0 : Bool) (h0_1 : Int) (h0_2 : Int) (h1_0 : Bool) (h1_1 : Int) (h1_2 : Int) (v12 : Int) (v13 : Int) (Q : (((List Int) × Bool × Bool × Bool × Bool × Int × Int × Bool × Int × Int) × (Int × Int)) ⊕ (((List Int) × Bool × Bool × Bool × Bool × Int × Int × Bool × Int × Int) × (Int × Int)) → Prop) : evC Try.prog (mkC [(39, (sumT (aOne (cI3)) fun x => (o1 (cI3)).enc (ref_Norm x))), (44, (sumT (aCons (cI3) (aOne (cI3))) fun x => (o1 (cI3)).enc (ref_Join x.1 x.2)))]) (fun id => cond (Nat.beq 9 id) (some (lsE 0 ref_Widen_L0_dec ref_Widen_L0_I ref_Widen_L0_ok ref_Widen_L0_v)) (none) : Loops) 60 (lp Try.f58 1) (ref_Widen_L1_I (v2, v19, v28, v54, h0_0, h0_1, h0_2, h1_0, h1_1, h1_2) (v12, v13)) (fun y s => onO Q (bkE 2 ref_Widen_L1_dec y s)) = (ref_Widen_L1_T  v2 v19 v28 v54 h0_0 h0_1 h0_2 h1_0 h1_1 h1_2 v12 v13).prop (onT (v2, v19, v28, v54, h0_0, h0_1, h0_2, h1_0, h1_1, h1_2) Q) := by kernel_rfl
def ref_Widen_L1_step (p : (List Int) × Bool × Bool × Bool × Bool × Int × Int × Bool × Int × Int) (x : Int × Int) : Tr ((Int × Int) ⊕ (Int × Int)) := ref_Widen_L1_T  p.1 p.2.1 p.2.2.1 p.2.2.2.1 p.2.2.2.2.1 p.2.2.2.2.2.1 p.2.2.2.2.2.2.1 p.2.2.2.2.2.2.2.1 p.2.2.2.2.2.2.2.2.1 p.2.2.2.2.2.2.2.2.2 x.1 x.2
def ref_Widen_L1_r (p : (List Int) × Bool × Bool × Bool × Bool × Int × Int × Bool × Int × Int) (x : Int × Int) : Option (Int × Int) := runB (ref_Widen_L1_step p) x
def ref_Widen_L1_v (p : (List Int) × Bool × Bool × Bool × Bool × Int × Int × Bool × Int × Int) (x : Int × Int) : Int × Int := (ref_Widen_L1_r p x).getD x
def ref_Widen_L1_ok (p : (List Int) × Bool × Bool × Bool × Bool × Int × Int × Bool × Int × Int) (x : Int × Int) : Bool := (ref_Widen_L1_r p x).isSome
set_option maxRecDepth 100000 in
theorem ref_Widen_L1_ls {B : Nat} {w0 : World} {s : St} {k : X → St → Prop} (hk : (lsE 2 ref_Widen_L1_dec ref_Widen_L1_I ref_Widen_L1_ok ref_Widen_L1_v) s k) : EW Try.prog (mkC [(39, (sumT (aOne (cI3)) fun x => (o1 (cI3)).enc (ref_Norm x))), (44, (sumT (aCons (cI3) (aOne (cI3))) fun x => (o1 (cI3)).enc (ref_Join x.1 x.2)))]) B w0 (.loop (lp Try.f58 1)) s k :=
  lsE_ok (fun _ _ _ h => weak_of ref_Widen_L1_ot h) (step := ref_Widen_L1_step) (fun p x Q h => evC_spec mixed (mkC_ok (AllGood.cons ref_Norm_ok (AllGood.cons ref_Join_ok AllGood.nil)) B w0) (L := (fun id => cond (Nat.beq 9 id) (some (lsE 0 ref_Widen_L0_dec ref_Widen_L0_I ref_Widen_L0_ok ref_Widen_L0_v)) (none) : Loops)) (u := 60) _ (loops_nil (by kernel_rfl)) _ _ (Eq.mpr (ref_Widen_L1_ev ref_Norm ref_Join ref_Widen_L0_ok ref_Widen_L0_v p.1 p.2.1 p.2.2.1 p.2.2.2.1 p.2.2.2.2.1 p.2.2.2.2.2.1 p.2.2.2.2.2.2.1 p.2.2.2.2.2.2.2.1 p.2.2.2.2.2.2.2.2.1 p.2.2.2.2.2.2.2.2.2 x.1 x.2 Q) h)) (fun _ _ h => run_ok h) hk
def ref_Widen_T (ref_Norm : I3 → I3) (ref_Join : I3 → I3 → I3) (ref_Widen_L0_ok : ((List Int) × Bool × Bool × Bool × Int × Int × Bool × Int × Int × Bool × Int × Int) → (Int × Int) → Bool) (ref_Widen_L0_v : ((List Int) × Bool × Bool × Bool × Int × Int × Bool × Int × Int × Bool × Int × Int) → (Int × Int) → Int × Int) (ref_Widen_L1_ok : ((List Int) × Bool × Bool × Bool × Bool × Int × Int × Bool × Int × Int) → (Int × Int) → Bool) (ref_Widen_L1_v : ((List Int) × Bool × Bool × Bool × Bool × Int × Int × Bool × Int × Int) → (Int × Int) → Int × Int) (old : I3) (now : I3) (steps : List Int) : Tr (I3) :=
  Tr.br (ref_Norm old).e (Tr.leaf (ref_Norm now))
    (Tr.br (decide ((ref_Join (ref_Norm old) (ref_Norm now)).lo < (ref_Norm old).lo))
      (Tr.ast
        (ref_Widen_L0_ok
          (steps, false, true, false, 0, 0, (ref_Norm old).e, (ref_Norm old).lo, (ref_Norm old).hi,
            (ref_Join (ref_Norm old) (ref_Norm now)).e, (ref_Join (ref_Norm old) (ref_Norm now)).lo,
            (ref_Join (ref_Norm old) (ref_Norm now)).hi)
          (-1099511627776, 0))
        (Tr.br (decide ((ref_Join (ref_Norm old) (ref_Norm now)).hi > (ref_Norm old).hi))
          (Tr.ast
            (ref_Widen_L1_ok
              (steps, false, true, true, false, 0, 0, (ref_Join (ref_Norm old) (ref_Norm now)).e,
                (ref_Widen_L0_v
                    (steps, false, true, false, 0, 0, (ref_Norm old).e, (ref_Norm old).lo, (ref_Norm old).hi,
                      (ref_Join (ref_Norm old) (ref_Norm now)).e, (ref_Join (ref_Norm old) (ref_Norm now)).lo,
                      (ref_Join (ref_Norm old) (ref_Norm now)).hi)
                    (-1099511627776, 0)).fst,
                (ref_Join (ref_Norm old) (ref_Norm now)).hi)
              (1099511627776, 0))
            (Tr.leaf
              (ref_Norm
                (I3.mk (ref_Join (ref_Norm old) (ref_Norm now)).e
                  (ref_Widen_L0_v
                      (steps, false, true, false, 0, 0, (ref_Norm old).e, (ref_Norm old).lo, (ref_Norm old).hi,
                        (ref_Join (ref_Norm old) (ref_Norm now)).e, (ref_Join (ref_Norm old) (ref_Norm now)).lo,
                        (ref_Join (ref_Norm old) (ref_Norm now)).hi)
                      (-1099511627776, 0)).fst
                  (ref_Widen_L1_v
                      (steps, false, true, true, false, 0, 0, (ref_Join (ref_Norm old) (ref_Norm now)).e,
                        (ref_Widen_L0_v
                            (steps, false, true, false, 0, 0, (ref_Norm old).e, (ref_Norm old).lo, (ref_Norm old).hi,
                              (ref_Join (ref_Norm old) (ref_Norm now)).e, (ref_Join (ref_Norm old) (ref_Norm now)).lo,
                              (ref_Join (ref_Norm old) (ref_Norm now)).hi)
                            (-1099511627776, 0)).fst,
                        (ref_Join (ref_Norm old) (ref_Norm now)).hi)
                      (1099511627776, 0)).fst))))
          (Tr.leaf
            (ref_Norm
              (I3.mk (ref_Join (ref_Norm old) (ref_Norm now)).e
                (ref_Widen_L0_v
                    (steps, false, true, false, 0, 0, (ref_Norm old).e, (ref_Norm old).lo, (ref_Norm old).hi,
                      (ref_Join (ref_Norm old) (ref_Norm now)).e, (ref_Join (ref_Norm old) (ref_Norm now)).lo,
                      (ref_Join (ref_Norm old) (ref_Norm now)).hi)
                    (-1099511627776, 0)).fst
                (ref_Join (ref_Norm old) (ref_Norm now)).hi)))))
      (Tr.br (decide ((ref_Join (ref_Norm old) (ref_Norm now)).hi > (ref_Norm old).hi))
        (Tr.ast
          (ref_Widen_L1_ok
            (steps, false, false, true, false, 0, 0, (ref_Join (ref_Norm old) (ref_Norm now)).e,
              (ref_Join (ref_Norm old) (ref_Norm now)).lo, (ref_Join (ref_Norm old) (ref_Norm now)).hi)
            (1099511627776, 0))
          (Tr.leaf
            (ref_Norm
              (I3.mk (ref_Join (ref_Norm old) (ref_Norm now)).e (ref_Join (ref_Norm old) (ref_Norm now)).lo
                (ref_Widen_L1_v
                    (steps, false, false, true, false, 0, 0, (ref_Join (ref_Norm old) (ref_Norm now)).e,
                      (ref_Join (ref_Norm old) (ref_Norm now)).lo, (ref_Join (ref_Norm old) (ref_Norm now)).hi)
                    (1099511627776, 0)).fst))))
        (Tr.leaf (ref_Norm (ref_Join (ref_Norm old) (ref_Norm now))))))
def ref_Widen_t (old : I3) (now : I3) (steps : List Int) : Tr (I3) := ref_Widen_T ref_Norm ref_Join ref_Widen_L0_ok ref_Widen_L0_v ref_Widen_L1_ok ref_Widen_L1_v old now steps
def ref_Widen (old : I3) (now : I3) (steps : List Int) : I3 := (ref_Widen_t old now steps).val
theorem ref_Widen_ev (ref_Norm : I3 → I3) (ref_Join : I3 → I3 → I3) (ref_Widen_L0_ok : ((List Int) × Bool × Bool × Bool × Int × Int × Bool × Int × Int × Bool × Int × Int) → (Int × Int) → Bool) (ref_Widen_L0_v : ((List Int) × Bool × Bool × Bool × Int × Int × Bool × Int × Int × Bool × Int × Int) → (Int × Int) → Int × Int) (ref_Widen_L1_ok : ((List Int) × Bool × Bool × Bool × Bool × Int × Int × Bool × Int × Int) → (Int × Int) → Bool) (ref_Widen_L1_v : ((List Int) × Bool × Bool × Bool × Bool × Int × Int × Bool × Int × Int) → (Int × Int) → Int × Int) (old : I3) (now : I3) (steps : List Int) (Q : AV → Prop) : evF Try.prog (mkC [(39, (sumT (aOne (cI3)) fun x => (o1 (cI3)).enc (ref_Norm x))), (44, (sumT (aCons (cI3) (aOne (cI3))) fun x => (o1 (cI3)).enc (ref_Join x.1 x.2)))]) (fun id => cond (Nat.beq 17 id) (some (lsE 2 ref_Widen_L1_dec ref_Widen_L1_I ref_Widen_L1_ok ref_Widen_L1_v)) (cond (Nat.beq 9 id) (some (lsE 0 ref_Widen_L0_dec ref_Widen_L0_I ref_Widen_L0_ok ref_Widen_L0_v)) (none)) : Loops) 60 Try.f58 ((aCons (cI3) (aCons (cI3) (aOne (cInts .i64)))).enc (old, now, steps)) Q = (ref_Widen_T ref_Norm ref_Join ref_Widen_L0_ok ref_Widen_L0_v ref_Widen_L1_ok ref_Widen_L1_v old now steps).prop (fun x => Q ((o1 (cI3)).enc x)) := by kernel_rfl
def ref_Widen_s (old : I3) (now : I3) (steps : List Int) : Bool := (ref_Widen_t old now steps).safe
theorem ref_Widen_c (x : I3 × I3 × (List Int)) (hs : ref_Widen_s x.1 x.2.1 x.2.2 = true) (w : World) (vs : Array Value) (hp : ArgsR ((aCons (cI3) (aCons (cI3) (aOne (cInts .i64)))).enc x) w vs) : Calls Try.prog 58 vs w (Ans ((o1 (cI3)).enc (ref_Widen x.1 x.2.1 x.2.2)) w) :=
  contractT mixed (AllGood.cons ref_Norm_ok (AllGood.cons ref_Join_ok AllGood.nil)) Try.func58 (fun _ _ => loops_all (m := 2) (by kernel_rfl) (fun i hi => match i, hi with
    | 0, _ => (fun g hg s k hk => ref_Widen_L0_ls (cast (congrFun (congrFun (Option.some.inj (hg.symm.trans (by kernel_rfl))) s) k) hk))
    | 1, _ => (fun g hg s k hk => ref_Widen_L1_ls (cast (congrFun (congrFun (Option.some.inj (hg.symm.trans (by kernel_rfl))) s) k) hk))
    | (j + 2), hi => absurd hi (by omega))) hs (ref_Widen_ev ref_Norm ref_Join ref_Widen_L0_ok ref_Widen_L0_v ref_Widen_L1_ok ref_Widen_L1_v x.1 x.2.1 x.2.2) w vs hp
theorem ref_Widen_ok : GoodF Try.prog 58 (sumOf (aCons (cI3) (aCons (cI3) (aOne (cInts .i64)))) (fun x => ref_Widen_s x.1 x.2.1 x.2.2) fun x => (o1 (cI3)).enc (ref_Widen x.1 x.2.1 x.2.2)) :=
  good_sum (callable_of Try.func58 (by kernel_rfl) (by kernel_rfl)) ref_Widen_c
/-! flyball/flyballlaw17.IntsWidens -/
def l17_IntsWidens_T (l17_works : Bool) (ints_Widen : I3 → I3 → (List Int) → I3) (ints_Widen_s : I3 → I3 → (List Int) → Bool) (ref_Widen : I3 → I3 → (List Int) → I3) (ref_Widen_s : I3 → I3 → (List Int) → Bool) (ints_Inside : I3 → I3 → Bool) (old : I3) (now : I3) (steps : List Int) : Tr (Bool) :=
  Tr.br (!l17_works) (Tr.leaf false)
    (Tr.br (decide ((steps.length : Int) > 200)) (Tr.leaf l17_works)
      (Tr.ast (ints_Widen_s old now steps)
        (Tr.br l17_works
          (Tr.ast (ref_Widen_s old now steps)
            (Tr.br
              (and ((ints_Widen old now steps).e == (ref_Widen old now steps).e)
                (and ((ints_Widen old now steps).lo == (ref_Widen old now steps).lo)
                  (and ((ints_Widen old now steps).hi == (ref_Widen old now steps).hi) true)))
              (Tr.br (ints_Inside old (ints_Widen old now steps)) (Tr.leaf (ints_Inside now (ints_Widen old now steps)))
                (Tr.leaf false))
              (Tr.leaf false)))
          (Tr.leaf false))))
def l17_IntsWidens_t (old : I3) (now : I3) (steps : List Int) : Tr (Bool) := l17_IntsWidens_T l17_works ints_Widen ints_Widen_s ref_Widen ref_Widen_s ints_Inside old now steps
def l17_IntsWidens (old : I3) (now : I3) (steps : List Int) : Bool := (l17_IntsWidens_t old now steps).val
theorem l17_IntsWidens_ev (l17_works : Bool) (ints_Widen : I3 → I3 → (List Int) → I3) (ints_Widen_s : I3 → I3 → (List Int) → Bool) (ref_Widen : I3 → I3 → (List Int) → I3) (ref_Widen_s : I3 → I3 → (List Int) → Bool) (ints_Inside : I3 → I3 → Bool) (old : I3) (now : I3) (steps : List Int) (Q : AV → Prop) : evF Try.prog (mkC [(38, (sumT aNil fun _ => (o1 (cBool)).enc (l17_works ))), (57, (sumOf (aCons (cI3) (aCons (cI3) (aOne (cInts .i64)))) (fun x => ints_Widen_s x.1 x.2.1 x.2.2) fun x => (o1 (cI3)).enc (ints_Widen x.1 x.2.1 x.2.2))), (58, (sumOf (aCons (cI3) (aCons (cI3) (aOne (cInts .i64)))) (fun x => ref_Widen_s x.1 x.2.1 x.2.2) fun x => (o1 (cI3)).enc (ref_Widen x.1 x.2.1 x.2.2))), (41, (sumT (aCons (cI3) (aOne (cI3))) fun x => (o1 (cBool)).enc (ints_Inside x.1 x.2)))]) noL 60 Try.f12 ((aCons (cI3) (aCons (cI3) (aOne (cInts .i64)))).enc (old, now, steps)) Q = (l17_IntsWidens_T l17_works ints_Widen ints_Widen_s ref_Widen ref_Widen_s ints_Inside old now steps).prop (fun x => Q ((o1 (cBool)).enc x)) := by kernel_rfl
def l17_IntsWidens_s (old : I3) (now : I3) (steps : List Int) : Bool := (l17_IntsWidens_t old now steps).safe
theorem l17_IntsWidens_c (x : I3 × I3 × (List Int)) (hs : l17_IntsWidens_s x.1 x.2.1 x.2.2 = true) (w : World) (vs : Array Value) (hp : ArgsR ((aCons (cI3) (aCons (cI3) (aOne (cInts .i64)))).enc x) w vs) : Calls Try.prog 12 vs w (Ans ((o1 (cBool)).enc (l17_IntsWidens x.1 x.2.1 x.2.2)) w) :=
  contractT mixed (AllGood.cons l17_works_ok (AllGood.cons ints_Widen_ok (AllGood.cons ref_Widen_ok (AllGood.cons ints_Inside_ok AllGood.nil)))) Try.func12 (fun _ _ _ _ => noL_ok) hs (l17_IntsWidens_ev l17_works ints_Widen ints_Widen_s ref_Widen ref_Widen_s ints_Inside x.1 x.2.1 x.2.2) w vs hp
theorem l17_IntsWidens_ok : GoodF Try.prog 12 (sumOf (aCons (cI3) (aCons (cI3) (aOne (cInts .i64)))) (fun x => l17_IntsWidens_s x.1 x.2.1 x.2.2) fun x => (o1 (cBool)).enc (l17_IntsWidens x.1 x.2.1 x.2.2)) :=
  good_sum (callable_of Try.func12 (by kernel_rfl) (by kernel_rfl)) l17_IntsWidens_c
end Go.Proofs.Ytfbpklopnnnniaa
