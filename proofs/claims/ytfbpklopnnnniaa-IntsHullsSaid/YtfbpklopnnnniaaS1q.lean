/- Contracts and laws of functions of the program, on the way to the claim. Conditions: as each theorem states. -/
import Derived.Test.YtfbpklopnnnniaaS1l
namespace Go.Proofs.Ytfbpklopnnnniaa
open Go.Ev Go.Fb


/-! flyball/flyballref17.times -/
def ref_times_T  (x : Int) (y : Int) : Tr (Int) :=
  Tr.br (x == 0) (Tr.leaf 0)
    (Tr.br (y == 0) (Tr.leaf 0)
      (Tr.br (decide (x < 0))
        (Tr.br (decide (y < 0))
          (Tr.ast (!IntKind.i64.wrap (0 - y) == 0)
            (Tr.br
              (decide (IntKind.i64.wrap (0 - x) > IntKind.i64.wrap (Int.tdiv 1099511627776 (IntKind.i64.wrap (0 - y)))))
              (Tr.br (!decide (x < 0) == decide (y < 0)) (Tr.leaf (-1099511627776)) (Tr.leaf 1099511627776))
              (Tr.leaf (IntKind.i64.wrap (x * y)))))
          (Tr.ast (!y == 0)
            (Tr.br (decide (IntKind.i64.wrap (0 - x) > IntKind.i64.wrap (Int.tdiv 1099511627776 y)))
              (Tr.br (!decide (x < 0) == decide (y < 0)) (Tr.leaf (-1099511627776)) (Tr.leaf 1099511627776))
              (Tr.leaf (IntKind.i64.wrap (x * y))))))
        (Tr.br (decide (y < 0))
          (Tr.ast (!IntKind.i64.wrap (0 - y) == 0)
            (Tr.br (decide (x > IntKind.i64.wrap (Int.tdiv 1099511627776 (IntKind.i64.wrap (0 - y)))))
              (Tr.br (!decide (x < 0) == decide (y < 0)) (Tr.leaf (-1099511627776)) (Tr.leaf 1099511627776))
              (Tr.leaf (IntKind.i64.wrap (x * y)))))
          (Tr.ast (!y == 0)
            (Tr.br (decide (x > IntKind.i64.wrap (Int.tdiv 1099511627776 y)))
              (Tr.br (!decide (x < 0) == decide (y < 0)) (Tr.leaf (-1099511627776)) (Tr.leaf 1099511627776))
              (Tr.leaf (IntKind.i64.wrap (x * y))))))))
def ref_times_t (x : Int) (y : Int) : Tr (Int) := ref_times_T  x y
def ref_times (x : Int) (y : Int) : Int := (ref_times_t x y).val
theorem ref_times_ev  (x : Int) (y : Int) (Q : AV → Prop) : evF Try.prog (mkC []) noL 60 Try.f71 ((aCons (cInt .i64) (aOne (cInt .i64))).enc (x, y)) Q = (ref_times_T  x y).prop (fun x => Q ((o1 (cInt .i64)).enc x)) := by kernel_rfl
def ref_times_s (x : Int) (y : Int) : Bool := (ref_times_t x y).safe
theorem ref_times_c (x : Int × Int) (hs : ref_times_s x.1 x.2 = true) (w : World) (vs : Array Value) (hp : ArgsR ((aCons (cInt .i64) (aOne (cInt .i64))).enc x) w vs) : Calls Try.prog 71 vs w (Ans ((o1 (cInt .i64)).enc (ref_times x.1 x.2)) w) :=
  contractT mixed AllGood.nil Try.func71 (fun _ _ _ _ => noL_ok) hs (ref_times_ev  x.1 x.2) w vs hp
theorem ref_times_ok : GoodF Try.prog 71 (sumOf (aCons (cInt .i64) (aOne (cInt .i64))) (fun x => ref_times_s x.1 x.2) fun x => (o1 (cInt .i64)).enc (ref_times x.1 x.2)) :=
  good_sum (callable_of Try.func71 (by kernel_rfl) (by kernel_rfl)) ref_times_c
/-! flyball/flyballref17.Hull -/
def ref_Hull_L1_tm : Tm :=
  Tm.mk
    [some (false, [Sh.int IntKind.i64]), none, none, none, none, none, some (false, [Sh.ptr 0 0]),
      some (false, [Sh.ptr 1 0]), some (false, [Sh.ptr 2 0]), some (false, [Sh.ptr 3 0]),
      some (false, [Sh.int IntKind.i64]), some (false, [Sh.int IntKind.i64]), none, none, none, none, none, none, none,
      none, none, none, none, some (false, [Sh.bool]), none, none, none, some (false, [Sh.int IntKind.i64]),
      some (false, [Sh.ptr 1 2]), some (false, [Sh.int IntKind.i64]), some (false, [Sh.bool]), none, none,
      some (false, [Sh.ptr 2 1]), some (false, [Sh.int IntKind.i64]), none, none, none, none, none, none, none, none,
      none, none, none, none, none, none, none, none, none, none, none, none, none, none, none, none, none, none, none,
      none, none, none, none, none, none, none, none, none, none, none, none, none, none, none, none, none, none, none,
      none, none, none, none, none, none, none]
    [Hs.cells 23 [Sh.bool, Sh.int IntKind.i64, Sh.int IntKind.i64],
      Hs.cells 23 [Sh.bool, Sh.int IntKind.i64, Sh.int IntKind.i64],
      Hs.cells 23 [Sh.bool, Sh.int IntKind.i64, Sh.int IntKind.i64],
      Hs.cells 23 [Sh.bool, Sh.int IntKind.i64, Sh.int IntKind.i64]]
def ref_Hull_L1_of : List Pv → Option ((Int × Int × Bool × Int × Int × Bool × Int × Bool × Int × Int × Bool × Int × Int × Bool × Int × Int) × (Int × Bool × Int × Int))
  | [.i v0, .i v10, .i v11, .b v23, .i v27, .i v29, .b v30, .i v34, .b h0_0, .i h0_1, .i h0_2, .b h1_0, .i h1_1, .i h1_2, .b h2_0, .i h2_1, .i h2_2, .b h3_0, .i h3_1, .i h3_2] => some ((v0, v10, v23, v27, v29, v30, v34, h0_0, h0_1, h0_2, h1_0, h1_1, h1_2, h2_0, h2_1, h2_2), (v11, h3_0, h3_1, h3_2))
  | _ => none
def ref_Hull_L1_to (p : Int × Int × Bool × Int × Int × Bool × Int × Bool × Int × Int × Bool × Int × Int × Bool × Int × Int) (x : Int × Bool × Int × Int) : List Pv := [.i p.1, .i p.2.1, .i x.1, .b p.2.2.1, .i p.2.2.2.1, .i p.2.2.2.2.1, .b p.2.2.2.2.2.1, .i p.2.2.2.2.2.2.1, .b p.2.2.2.2.2.2.2.1, .i p.2.2.2.2.2.2.2.2.1, .i p.2.2.2.2.2.2.2.2.2.1, .b p.2.2.2.2.2.2.2.2.2.2.1, .i p.2.2.2.2.2.2.2.2.2.2.2.1, .i p.2.2.2.2.2.2.2.2.2.2.2.2.1, .b p.2.2.2.2.2.2.2.2.2.2.2.2.2.1, .i p.2.2.2.2.2.2.2.2.2.2.2.2.2.2.1, .i p.2.2.2.2.2.2.2.2.2.2.2.2.2.2.2, .b x.2.1, .i x.2.2.1, .i x.2.2.2]
theorem ref_Hull_L1_ot (l : List Pv) (p : Int × Int × Bool × Int × Int × Bool × Int × Bool × Int × Int × Bool × Int × Int × Bool × Int × Int) (x : Int × Bool × Int × Int) (h : ref_Hull_L1_of l = some (p, x)) : ref_Hull_L1_to p x = l := by
  unfold ref_Hull_L1_of at h
  split at h
  · cases h; rfl
  · cases h
def ref_Hull_L1_dec (s : St) : Option ((Int × Int × Bool × Int × Int × Bool × Int × Bool × Int × Int × Bool × Int × Int × Bool × Int × Int) × (Int × Bool × Int × Int)) := (ref_Hull_L1_tm.dec s).bind ref_Hull_L1_of
def ref_Hull_L1_I (p : Int × Int × Bool × Int × Int × Bool × Int × Bool × Int × Int × Bool × Int × Int × Bool × Int × Int) (x : Int × Bool × Int × Int) : St := ref_Hull_L1_tm.enc (ref_Hull_L1_to p x)
def ref_Hull_L1_T (ref_times : Int → Int → Int) (ref_times_s : Int → Int → Bool) (v0 : Int) (v10 : Int) (_v23 : Bool) (_v27 : Int) (_v29 : Int) (_v30 : Bool) (_v34 : Int) (_h0_0 : Bool) (_h0_1 : Int) (_h0_2 : Int) (_h1_0 : Bool) (_h1_1 : Int) (_h1_2 : Int) (_h2_0 : Bool) (_h2_1 : Int) (h2_2 : Int) (v11 : Int) (h3_0 : Bool) (h3_1 : Int) (h3_2 : Int) : Tr ((Int × Bool × Int × Int) ⊕ (Int × Bool × Int × Int)) :=
  Tr.br (decide (v11 ≤ h2_2))
    (Tr.br (v0 == 1)
      (Tr.br h3_0
        (Tr.leaf
          (Sum.inl
            (IntKind.i64.wrap (v11 + 1), false, imin (IntKind.i64.wrap (v10 - v11)) (IntKind.i64.wrap (v10 - v11)),
              imax (IntKind.i64.wrap (v10 - v11)) (IntKind.i64.wrap (v10 - v11)))))
        (Tr.leaf
          (Sum.inl
            (IntKind.i64.wrap (v11 + 1), h3_0, imin h3_1 (IntKind.i64.wrap (v10 - v11)),
              imax h3_2 (IntKind.i64.wrap (v10 - v11))))))
      (Tr.br (v0 == 2)
        (Tr.ast (ref_times_s v10 v11)
          (Tr.br h3_0
            (Tr.leaf
              (Sum.inl
                (IntKind.i64.wrap (v11 + 1), false, imin (ref_times v10 v11) (ref_times v10 v11),
                  imax (ref_times v10 v11) (ref_times v10 v11))))
            (Tr.leaf
              (Sum.inl
                (IntKind.i64.wrap (v11 + 1), h3_0, imin h3_1 (ref_times v10 v11), imax h3_2 (ref_times v10 v11))))))
        (Tr.br (v0 == 3)
          (Tr.br (v11 == 0) (Tr.leaf (Sum.inl (IntKind.i64.wrap (v11 + 1), h3_0, h3_1, h3_2)))
            (Tr.ast (!v11 == 0)
              (Tr.br h3_0
                (Tr.leaf
                  (Sum.inl
                    (IntKind.i64.wrap (v11 + 1), false,
                      imin (IntKind.i64.wrap (v10.tdiv v11)) (IntKind.i64.wrap (v10.tdiv v11)),
                      imax (IntKind.i64.wrap (v10.tdiv v11)) (IntKind.i64.wrap (v10.tdiv v11)))))
                (Tr.leaf
                  (Sum.inl
                    (IntKind.i64.wrap (v11 + 1), h3_0, imin h3_1 (IntKind.i64.wrap (v10.tdiv v11)),
                      imax h3_2 (IntKind.i64.wrap (v10.tdiv v11))))))))
          (Tr.br h3_0
            (Tr.leaf
              (Sum.inl
                (IntKind.i64.wrap (v11 + 1), false, imin (IntKind.i64.wrap (v10 + v11)) (IntKind.i64.wrap (v10 + v11)),
                  imax (IntKind.i64.wrap (v10 + v11)) (IntKind.i64.wrap (v10 + v11)))))
            (Tr.leaf
              (Sum.inl
                (IntKind.i64.wrap (v11 + 1), h3_0, imin h3_1 (IntKind.i64.wrap (v10 + v11)),
                  imax h3_2 (IntKind.i64.wrap (v10 + v11)))))))))
    (Tr.leaf (Sum.inr (v11, h3_0, h3_1, h3_2)))
theorem ref_Hull_L1_ev (ref_Norm : I3 → I3) (ref_times : Int → Int → Int) (ref_times_s : Int → Int → Bool) (v0 : Int) (v10 : Int) (v23 : Bool) (v27 : Int) (v29 : Int) (v30 : Bool) (v34 : Int) (h0_0 : Bool) (h0_1 : Int) (h0_2 : Int) (h1_0 : Bool) (h1_1 : Int) (h1_2 : Int) (h2_0 : Bool) (h2_1 : Int) (h2_2 : Int) (v11 : Int) (h3_0 : Bool) (h3_1 : Int) (h3_2 : Int) (Q : ((Int × Int × Bool × Int × Int × Bool × Int × Bool × Int × Int × Bool × Int × Int × Bool × Int × Int) × (Int × Bool × Int × Int)) ⊕ ((Int × Int × Bool × Int × Int × Bool × Int × Bool × Int × Int × Bool × Int × Int × Bool × Int × Int) × (Int × Bool × Int × Int)) → Prop) : evC Try.prog (mkC [(39, (sumT (aOne (cI3)) fun x => (o1 (cI3)).enc (ref_Norm x))), (71, (sumOf (aCons (cInt .i64) (aOne (cInt .i64))) (fun x => ref_times_s x.1 x.2) fun x => (o1 (cInt .i64)).enc (ref_times x.1 x.2)))]) noL 60 (lp Try.f49 1) (ref_Hull_L1_I (v0, v10, v23, v27, v29, v30, v34, h0_0, h0_1, h0_2, h1_0, h1_1, h1_2, h2_0, h2_1, h2_2) (v11, h3_0, h3_1, h3_2)) (fun y s => onO Q (bkE 2 ref_Hull_L1_dec y s)) = (ref_Hull_L1_T ref_times ref_times_s v0 v10 v23 v27 v29 v30 v34 h0_0 h0_1 h0_2 h1_0 h1_1 h1_2 h2_0 h2_1 h2_2 v11 h3_0 h3_1 h3_2).prop (onT (v0, v10, v23, v27, v29, v30, v34, h0_0, h0_1, h0_2, h1_0, h1_1, h1_2, h2_0, h2_1, h2_2) Q) := by kernel_rfl
def ref_Hull_L1_step (p : Int × Int × Bool × Int × Int × Bool × Int × Bool × Int × Int × Bool × Int × Int × Bool × Int × Int) (x : Int × Bool × Int × Int) : Tr ((Int × Bool × Int × Int) ⊕ (Int × Bool × Int × Int)) := ref_Hull_L1_T ref_times ref_times_s p.1 p.2.1 p.2.2.1 p.2.2.2.1 p.2.2.2.2.1 p.2.2.2.2.2.1 p.2.2.2.2.2.2.1 p.2.2.2.2.2.2.2.1 p.2.2.2.2.2.2.2.2.1 p.2.2.2.2.2.2.2.2.2.1 p.2.2.2.2.2.2.2.2.2.2.1 p.2.2.2.2.2.2.2.2.2.2.2.1 p.2.2.2.2.2.2.2.2.2.2.2.2.1 p.2.2.2.2.2.2.2.2.2.2.2.2.2.1 p.2.2.2.2.2.2.2.2.2.2.2.2.2.2.1 p.2.2.2.2.2.2.2.2.2.2.2.2.2.2.2 x.1 x.2.1 x.2.2.1 x.2.2.2
def ref_Hull_L1_r (p : Int × Int × Bool × Int × Int × Bool × Int × Bool × Int × Int × Bool × Int × Int × Bool × Int × Int) (x : Int × Bool × Int × Int) : Option (Int × Bool × Int × Int) := runB (ref_Hull_L1_step p) x
def ref_Hull_L1_v (p : Int × Int × Bool × Int × Int × Bool × Int × Bool × Int × Int × Bool × Int × Int × Bool × Int × Int) (x : Int × Bool × Int × Int) : Int × Bool × Int × Int := (ref_Hull_L1_r p x).getD x
def ref_Hull_L1_ok (p : Int × Int × Bool × Int × Int × Bool × Int × Bool × Int × Int × Bool × Int × Int × Bool × Int × Int) (x : Int × Bool × Int × Int) : Bool := (ref_Hull_L1_r p x).isSome
theorem ref_Hull_L1_ls {B : Nat} {w0 : World} {s : St} {k : X → St → Prop} (hk : (lsE 2 ref_Hull_L1_dec ref_Hull_L1_I ref_Hull_L1_ok ref_Hull_L1_v) s k) : EW Try.prog (mkC [(39, (sumT (aOne (cI3)) fun x => (o1 (cI3)).enc (ref_Norm x))), (71, (sumOf (aCons (cInt .i64) (aOne (cInt .i64))) (fun x => ref_times_s x.1 x.2) fun x => (o1 (cInt .i64)).enc (ref_times x.1 x.2)))]) B w0 (.loop (lp Try.f49 1)) s k :=
  lsE_ok (fun _ _ _ h => weak_of ref_Hull_L1_ot h) (step := ref_Hull_L1_step) (fun p x Q h => evC_spec mixed (mkC_ok (AllGood.cons ref_Norm_ok (AllGood.cons ref_times_ok AllGood.nil)) B w0) (L := noL) (u := 60) _ (loops_nil (by kernel_rfl)) _ _ (Eq.mpr (ref_Hull_L1_ev ref_Norm ref_times ref_times_s p.1 p.2.1 p.2.2.1 p.2.2.2.1 p.2.2.2.2.1 p.2.2.2.2.2.1 p.2.2.2.2.2.2.1 p.2.2.2.2.2.2.2.1 p.2.2.2.2.2.2.2.2.1 p.2.2.2.2.2.2.2.2.2.1 p.2.2.2.2.2.2.2.2.2.2.1 p.2.2.2.2.2.2.2.2.2.2.2.1 p.2.2.2.2.2.2.2.2.2.2.2.2.1 p.2.2.2.2.2.2.2.2.2.2.2.2.2.1 p.2.2.2.2.2.2.2.2.2.2.2.2.2.2.1 p.2.2.2.2.2.2.2.2.2.2.2.2.2.2.2 x.1 x.2.1 x.2.2.1 x.2.2.2 Q) h)) (fun _ _ h => run_ok h) hk
def ref_Hull_L0_tm : Tm :=
  Tm.mk
    [some (false, [Sh.int IntKind.i64]), none, none, none, none, none, some (false, [Sh.ptr 0 0]),
      some (false, [Sh.ptr 1 0]), some (false, [Sh.ptr 2 0]), some (false, [Sh.ptr 3 0]),
      some (false, [Sh.int IntKind.i64]), none, none, none, none, none, none, none, none, none, none, none, none,
      some (false, [Sh.bool]), none, none, none, none, none, none, none, none, none, none, none, none, none, none, none,
      none, none, none, none, none, none, none, none, none, none, none, none, none, none, none, none, none, none, none,
      none, none, none, none, none, none, none, none, none, none, none, none, none, none, none, none, none, none, none,
      none, none, none, none, none, none, none, none, none, none, none]
    [Hs.cells 23 [Sh.bool, Sh.int IntKind.i64, Sh.int IntKind.i64],
      Hs.cells 23 [Sh.bool, Sh.int IntKind.i64, Sh.int IntKind.i64],
      Hs.cells 23 [Sh.bool, Sh.int IntKind.i64, Sh.int IntKind.i64],
      Hs.cells 23 [Sh.bool, Sh.int IntKind.i64, Sh.int IntKind.i64]]
def ref_Hull_L0_of : List Pv → Option ((Int × Bool × Bool × Int × Int × Bool × Int × Int × Bool × Int × Int) × (Int × Bool × Int × Int))
  | [.i v0, .i v10, .b v23, .b h0_0, .i h0_1, .i h0_2, .b h1_0, .i h1_1, .i h1_2, .b h2_0, .i h2_1, .i h2_2, .b h3_0, .i h3_1, .i h3_2] => some ((v0, v23, h0_0, h0_1, h0_2, h1_0, h1_1, h1_2, h2_0, h2_1, h2_2), (v10, h3_0, h3_1, h3_2))
  | _ => none
def ref_Hull_L0_to (p : Int × Bool × Bool × Int × Int × Bool × Int × Int × Bool × Int × Int) (x : Int × Bool × Int × Int) : List Pv := [.i p.1, .i x.1, .b p.2.1, .b p.2.2.1, .i p.2.2.2.1, .i p.2.2.2.2.1, .b p.2.2.2.2.2.1, .i p.2.2.2.2.2.2.1, .i p.2.2.2.2.2.2.2.1, .b p.2.2.2.2.2.2.2.2.1, .i p.2.2.2.2.2.2.2.2.2.1, .i p.2.2.2.2.2.2.2.2.2.2, .b x.2.1, .i x.2.2.1, .i x.2.2.2]
theorem ref_Hull_L0_ot (l : List Pv) (p : Int × Bool × Bool × Int × Int × Bool × Int × Int × Bool × Int × Int) (x : Int × Bool × Int × Int) (h : ref_Hull_L0_of l = some (p, x)) : ref_Hull_L0_to p x = l := by
  unfold ref_Hull_L0_of at h
  split at h
  · cases h; rfl
  · cases h
def ref_Hull_L0_dec (s : St) : Option ((Int × Bool × Bool × Int × Int × Bool × Int × Int × Bool × Int × Int) × (Int × Bool × Int × Int)) := (ref_Hull_L0_tm.dec s).bind ref_Hull_L0_of
def ref_Hull_L0_I (p : Int × Bool × Bool × Int × Int × Bool × Int × Int × Bool × Int × Int) (x : Int × Bool × Int × Int) : St := ref_Hull_L0_tm.enc (ref_Hull_L0_to p x)
def ref_Hull_L0_T (ref_Hull_L1_ok : (Int × Int × Bool × Int × Int × Bool × Int × Bool × Int × Int × Bool × Int × Int × Bool × Int × Int) → (Int × Bool × Int × Int) → Bool) (ref_Hull_L1_v : (Int × Int × Bool × Int × Int × Bool × Int × Bool × Int × Int × Bool × Int × Int × Bool × Int × Int) → (Int × Bool × Int × Int) → Int × Bool × Int × Int) (v0 : Int) (v23 : Bool) (h0_0 : Bool) (h0_1 : Int) (h0_2 : Int) (h1_0 : Bool) (h1_1 : Int) (h1_2 : Int) (h2_0 : Bool) (h2_1 : Int) (h2_2 : Int) (v10 : Int) (h3_0 : Bool) (h3_1 : Int) (h3_2 : Int) : Tr ((Int × Bool × Int × Int) ⊕ (Int × Bool × Int × Int)) :=
  Tr.br (decide (v10 ≤ h1_2))
    (Tr.ast
      (ref_Hull_L1_ok (v0, v10, v23, v10, h1_2, true, h2_1, h0_0, h0_1, h0_2, h1_0, h1_1, h1_2, h2_0, h2_1, h2_2)
        (h2_1, h3_0, h3_1, h3_2))
      (Tr.leaf
        (Sum.inl
          (IntKind.i64.wrap (v10 + 1),
            (ref_Hull_L1_v (v0, v10, v23, v10, h1_2, true, h2_1, h0_0, h0_1, h0_2, h1_0, h1_1, h1_2, h2_0, h2_1, h2_2)
                  (h2_1, h3_0, h3_1, h3_2)).snd.fst,
            (ref_Hull_L1_v (v0, v10, v23, v10, h1_2, true, h2_1, h0_0, h0_1, h0_2, h1_0, h1_1, h1_2, h2_0, h2_1, h2_2)
                    (h2_1, h3_0, h3_1, h3_2)).snd.snd.fst,
            (ref_Hull_L1_v (v0, v10, v23, v10, h1_2, true, h2_1, h0_0, h0_1, h0_2, h1_0, h1_1, h1_2, h2_0, h2_1, h2_2)
                    (h2_1, h3_0, h3_1, h3_2)).snd.snd.snd))))
    (Tr.leaf (Sum.inr (v10, h3_0, h3_1, h3_2)))
theorem ref_Hull_L0_ev (ref_Norm : I3 → I3) (ref_times : Int → Int → Int) (ref_times_s : Int → Int → Bool) (ref_Hull_L1_ok : (Int × Int × Bool × Int × Int × Bool × Int × Bool × Int × Int × Bool × Int × Int × Bool × Int × Int) → (Int × Bool × Int × Int) → Bool) (ref_Hull_L1_v : (Int × Int × Bool × Int × Int × Bool × Int × Bool × Int × Int × Bool × Int × Int × Bool × Int × Int) → (Int × Bool × Int × Int) → Int × Bool × Int × Int) (v0 : Int) (v23 : Bool) (h0_0 : Bool) (h0_1 : Int) (h0_2 : Int) (h1_0 : Bool) (h1_1 : Int) (h1_2 : Int) (h2_0 : Bool) (h2_1 : Int) (h2_2 : Int) (v10 : Int) (h3_0 : Bool) (h3_1 : Int) (h3_2 : Int) (Q : ((Int × Bool × Bool × Int × Int × Bool × Int × Int × Bool × Int × Int) × (Int × Bool × Int × Int)) ⊕ ((Int × Bool × Bool × Int × Int × Bool × Int × Int × Bool × Int × Int) × (Int × Bool × Int × Int)) → Prop) : evC Try.prog (mkC [(39, (sumT (aOne (cI3)) fun x => (o1 (cI3)).enc (ref_Norm x))), (71, (sumOf (aCons (cInt .i64) (aOne (cInt .i64))) (fun x => ref_times_s x.1 x.2) fun x => (o1 (cInt .i64)).enc (ref_times x.1 x.2)))]) (fun id => cond (Nat.beq 10 id) (some (lsE 2 ref_Hull_L1_dec ref_Hull_L1_I ref_Hull_L1_ok ref_Hull_L1_v)) (none) : Loops) 60 (lp Try.f49 0) (ref_Hull_L0_I (v0, v23, h0_0, h0_1, h0_2, h1_0, h1_1, h1_2, h2_0, h2_1, h2_2) (v10, h3_0, h3_1, h3_2)) (fun y s => onO Q (bkE 0 ref_Hull_L0_dec y s)) = (ref_Hull_L0_T ref_Hull_L1_ok ref_Hull_L1_v v0 v23 h0_0 h0_1 h0_2 h1_0 h1_1 h1_2 h2_0 h2_1 h2_2 v10 h3_0 h3_1 h3_2).prop (onT (v0, v23, h0_0, h0_1, h0_2, h1_0, h1_1, h1_2, h2_0, h2_1, h2_2) Q) := by kernel_rfl
def ref_Hull_L0_step (p : Int × Bool × Bool × Int × Int × Bool × Int × Int × Bool × Int × Int) (x : Int × Bool × Int × Int) : Tr ((Int × Bool × Int × Int) ⊕ (Int × Bool × Int × Int)) := ref_Hull_L0_T ref_Hull_L1_ok ref_Hull_L1_v p.1 p.2.1 p.2.2.1 p.2.2.2.1 p.2.2.2.2.1 p.2.2.2.2.2.1 p.2.2.2.2.2.2.1 p.2.2.2.2.2.2.2.1 p.2.2.2.2.2.2.2.2.1 p.2.2.2.2.2.2.2.2.2.1 p.2.2.2.2.2.2.2.2.2.2 x.1 x.2.1 x.2.2.1 x.2.2.2
def ref_Hull_L0_r (p : Int × Bool × Bool × Int × Int × Bool × Int × Int × Bool × Int × Int) (x : Int × Bool × Int × Int) : Option (Int × Bool × Int × Int) := runB (ref_Hull_L0_step p) x
def ref_Hull_L0_v (p : Int × Bool × Bool × Int × Int × Bool × Int × Int × Bool × Int × Int) (x : Int × Bool × Int × Int) : Int × Bool × Int × Int := (ref_Hull_L0_r p x).getD x
def ref_Hull_L0_ok (p : Int × Bool × Bool × Int × Int × Bool × Int × Int × Bool × Int × Int) (x : Int × Bool × Int × Int) : Bool := (ref_Hull_L0_r p x).isSome
theorem ref_Hull_L0_ls {B : Nat} {w0 : World} {s : St} {k : X → St → Prop} (hk : (lsE 0 ref_Hull_L0_dec ref_Hull_L0_I ref_Hull_L0_ok ref_Hull_L0_v) s k) : EW Try.prog (mkC [(39, (sumT (aOne (cI3)) fun x => (o1 (cI3)).enc (ref_Norm x))), (71, (sumOf (aCons (cInt .i64) (aOne (cInt .i64))) (fun x => ref_times_s x.1 x.2) fun x => (o1 (cInt .i64)).enc (ref_times x.1 x.2)))]) B w0 (.loop (lp Try.f49 0)) s k :=
  lsE_ok (fun _ _ _ h => weak_of ref_Hull_L0_ot h) (step := ref_Hull_L0_step) (fun p x Q h => evC_spec mixed (mkC_ok (AllGood.cons ref_Norm_ok (AllGood.cons ref_times_ok AllGood.nil)) B w0) (L := (fun id => cond (Nat.beq 10 id) (some (lsE 2 ref_Hull_L1_dec ref_Hull_L1_I ref_Hull_L1_ok ref_Hull_L1_v)) (none) : Loops)) (u := 60) _ ((by kernel_rfl : [lp Try.f49 1] = loopsIn (lp Try.f49 0)) ▸ (loops_cons (fun g hg s k hk => ref_Hull_L1_ls (cast (congrFun (congrFun (Option.some.inj (hg.symm.trans (by kernel_rfl))) s) k) hk)) (fun _ h => nomatch h))) _ _ (Eq.mpr (ref_Hull_L0_ev ref_Norm ref_times ref_times_s ref_Hull_L1_ok ref_Hull_L1_v p.1 p.2.1 p.2.2.1 p.2.2.2.1 p.2.2.2.2.1 p.2.2.2.2.2.1 p.2.2.2.2.2.2.1 p.2.2.2.2.2.2.2.1 p.2.2.2.2.2.2.2.2.1 p.2.2.2.2.2.2.2.2.2.1 p.2.2.2.2.2.2.2.2.2.2 x.1 x.2.1 x.2.2.1 x.2.2.2 Q) h)) (fun _ _ h => run_ok h) hk
def ref_Hull_T (ref_Norm : I3 → I3) (ref_Hull_L0_ok : (Int × Bool × Bool × Int × Int × Bool × Int × Int × Bool × Int × Int) → (Int × Bool × Int × Int) → Bool) (ref_Hull_L0_v : (Int × Bool × Bool × Int × Int × Bool × Int × Int × Bool × Int × Int) → (Int × Bool × Int × Int) → Int × Bool × Int × Int) (what : Int) (a : I3) (b : I3) : Tr (I3) :=
  Tr.br (ref_Norm a).e (Tr.leaf (I3.mk true 0 0))
    (Tr.br (ref_Norm b).e (Tr.leaf (I3.mk true 0 0))
      (Tr.ast
        (ref_Hull_L0_ok
          (what, false, false, 0, 0, (ref_Norm a).e, (ref_Norm a).lo, (ref_Norm a).hi, (ref_Norm b).e, (ref_Norm b).lo,
            (ref_Norm b).hi)
          ((ref_Norm a).lo, true, 0, 0))
        (Tr.br
          (ref_Hull_L0_v
                (what, false, false, 0, 0, (ref_Norm a).e, (ref_Norm a).lo, (ref_Norm a).hi, (ref_Norm b).e,
                  (ref_Norm b).lo, (ref_Norm b).hi)
                ((ref_Norm a).lo, true, 0, 0)).snd.fst
          (Tr.leaf
            (I3.mk
              (ref_Hull_L0_v
                    (what, false, false, 0, 0, (ref_Norm a).e, (ref_Norm a).lo, (ref_Norm a).hi, (ref_Norm b).e,
                      (ref_Norm b).lo, (ref_Norm b).hi)
                    ((ref_Norm a).lo, true, 0, 0)).snd.fst
              (ref_Hull_L0_v
                      (what, false, false, 0, 0, (ref_Norm a).e, (ref_Norm a).lo, (ref_Norm a).hi, (ref_Norm b).e,
                        (ref_Norm b).lo, (ref_Norm b).hi)
                      ((ref_Norm a).lo, true, 0, 0)).snd.snd.fst
              (ref_Hull_L0_v
                      (what, false, false, 0, 0, (ref_Norm a).e, (ref_Norm a).lo, (ref_Norm a).hi, (ref_Norm b).e,
                        (ref_Norm b).lo, (ref_Norm b).hi)
                      ((ref_Norm a).lo, true, 0, 0)).snd.snd.snd))
          (Tr.leaf
            (I3.mk false
              (imax
                (imin
                  (ref_Hull_L0_v
                          (what, false, false, 0, 0, (ref_Norm a).e, (ref_Norm a).lo, (ref_Norm a).hi, (ref_Norm b).e,
                            (ref_Norm b).lo, (ref_Norm b).hi)
                          ((ref_Norm a).lo, true, 0, 0)).snd.snd.fst
                  1099511627775)
                (-1099511627776))
              (imax
                (imin
                  (ref_Hull_L0_v
                          (what, false, false, 0, 0, (ref_Norm a).e, (ref_Norm a).lo, (ref_Norm a).hi, (ref_Norm b).e,
                            (ref_Norm b).lo, (ref_Norm b).hi)
                          ((ref_Norm a).lo, true, 0, 0)).snd.snd.snd
                  1099511627776)
                (-1099511627775)))))))
def ref_Hull_t (what : Int) (a : I3) (b : I3) : Tr (I3) := ref_Hull_T ref_Norm ref_Hull_L0_ok ref_Hull_L0_v what a b
def ref_Hull (what : Int) (a : I3) (b : I3) : I3 := (ref_Hull_t what a b).val
theorem ref_Hull_ev (ref_Norm : I3 → I3) (ref_times : Int → Int → Int) (ref_times_s : Int → Int → Bool) (ref_Hull_L1_ok : (Int × Int × Bool × Int × Int × Bool × Int × Bool × Int × Int × Bool × Int × Int × Bool × Int × Int) → (Int × Bool × Int × Int) → Bool) (ref_Hull_L1_v : (Int × Int × Bool × Int × Int × Bool × Int × Bool × Int × Int × Bool × Int × Int × Bool × Int × Int) → (Int × Bool × Int × Int) → Int × Bool × Int × Int) (ref_Hull_L0_ok : (Int × Bool × Bool × Int × Int × Bool × Int × Int × Bool × Int × Int) → (Int × Bool × Int × Int) → Bool) (ref_Hull_L0_v : (Int × Bool × Bool × Int × Int × Bool × Int × Int × Bool × Int × Int) → (Int × Bool × Int × Int) → Int × Bool × Int × Int) (what : Int) (a : I3) (b : I3) (Q : AV → Prop) : evF Try.prog (mkC [(39, (sumT (aOne (cI3)) fun x => (o1 (cI3)).enc (ref_Norm x))), (71, (sumOf (aCons (cInt .i64) (aOne (cInt .i64))) (fun x => ref_times_s x.1 x.2) fun x => (o1 (cInt .i64)).enc (ref_times x.1 x.2)))]) (fun id => cond (Nat.beq 7 id) (some (lsE 0 ref_Hull_L0_dec ref_Hull_L0_I ref_Hull_L0_ok ref_Hull_L0_v)) (cond (Nat.beq 10 id) (some (lsE 2 ref_Hull_L1_dec ref_Hull_L1_I ref_Hull_L1_ok ref_Hull_L1_v)) (none)) : Loops) 60 Try.f49 ((aCons (cInt .i64) (aCons (cI3) (aOne (cI3)))).enc (what, a, b)) Q = (ref_Hull_T ref_Norm ref_Hull_L0_ok ref_Hull_L0_v what a b).prop (fun x => Q ((o1 (cI3)).enc x)) := by kernel_rfl
def ref_Hull_s (what : Int) (a : I3) (b : I3) : Bool := (ref_Hull_t what a b).safe
theorem ref_Hull_c (x : Int × I3 × I3) (hs : ref_Hull_s x.1 x.2.1 x.2.2 = true) (w : World) (vs : Array Value) (hp : ArgsR ((aCons (cInt .i64) (aCons (cI3) (aOne (cI3)))).enc x) w vs) : Calls Try.prog 49 vs w (Ans ((o1 (cI3)).enc (ref_Hull x.1 x.2.1 x.2.2)) w) :=
  contractT mixed (AllGood.cons ref_Norm_ok (AllGood.cons ref_times_ok AllGood.nil)) Try.func49 (fun _ _ => loops_all (m := 2) (by kernel_rfl) (fun i hi => match i, hi with
    | 0, _ => (fun g hg s k hk => ref_Hull_L0_ls (cast (congrFun (congrFun (Option.some.inj (hg.symm.trans (by kernel_rfl))) s) k) hk))
    | 1, _ => (fun g hg s k hk => ref_Hull_L1_ls (cast (congrFun (congrFun (Option.some.inj (hg.symm.trans (by kernel_rfl))) s) k) hk))
    | (j + 2), hi => absurd hi (by omega))) hs (ref_Hull_ev ref_Norm ref_times ref_times_s ref_Hull_L1_ok ref_Hull_L1_v ref_Hull_L0_ok ref_Hull_L0_v x.1 x.2.1 x.2.2) w vs hp
theorem ref_Hull_ok : GoodF Try.prog 49 (sumOf (aCons (cInt .i64) (aCons (cI3) (aOne (cI3)))) (fun x => ref_Hull_s x.1 x.2.1 x.2.2) fun x => (o1 (cI3)).enc (ref_Hull x.1 x.2.1 x.2.2)) :=
  good_sum (callable_of Try.func49 (by kernel_rfl) (by kernel_rfl)) ref_Hull_c
/-! flyball/flyballlaw17.IntsHulls -/
def l17_IntsHulls_T (l17_works : Bool) (ref_Small : I3 → Int → Bool) (ints_Point : Int → I3) (ints_Neg : I3 → I3) (ref_Hull : Int → I3 → I3 → I3) (ref_Hull_s : Int → I3 → I3 → Bool) (ref_Norm : I3 → I3) (ints_Make : Int → Int → I3) (ints_Meet : I3 → I3 → I3) (ints_Join2 : (I3 × I3) → I3) (ints_Abs : I3 → I3) (ints_Add : I3 → I3 → I3) (ints_Sub : I3 → I3 → I3) (ints_Mul : I3 → I3 → I3) (ints_Div : I3 → I3 → I3) (a : I3) (b : I3) : Tr (Bool) :=
  Tr.br (!l17_works) (Tr.leaf false)
    (Tr.br (!ref_Small a 12) (Tr.leaf l17_works)
      (Tr.br (!ref_Small b 12) (Tr.leaf l17_works)
        (Tr.ast (ref_Hull_s 1 (ints_Point 0) a)
          (Tr.br l17_works
            (Tr.br
              (and ((ints_Neg a).e == (ref_Norm (ref_Hull 1 (ints_Point 0) a)).e)
                (and ((ints_Neg a).lo == (ref_Norm (ref_Hull 1 (ints_Point 0) a)).lo)
                  (and ((ints_Neg a).hi == (ref_Norm (ref_Hull 1 (ints_Point 0) a)).hi) true)))
              (Tr.br
                (and
                  ((ints_Abs a).e ==
                    (ints_Join2
                        (ints_Meet a (ints_Make 0 1099511627776), ints_Meet (ints_Neg a) (ints_Make 0 1099511627776))).e)
                  (and
                    ((ints_Abs a).lo ==
                      (ints_Join2
                          (ints_Meet a (ints_Make 0 1099511627776),
                            ints_Meet (ints_Neg a) (ints_Make 0 1099511627776))).lo)
                    (and
                      ((ints_Abs a).hi ==
                        (ints_Join2
                            (ints_Meet a (ints_Make 0 1099511627776),
                              ints_Meet (ints_Neg a) (ints_Make 0 1099511627776))).hi)
                      true)))
                (Tr.ast (ref_Hull_s 0 a b)
                  (Tr.br
                    (and ((ints_Add a b).e == (ref_Hull 0 a b).e)
                      (and ((ints_Add a b).lo == (ref_Hull 0 a b).lo)
                        (and ((ints_Add a b).hi == (ref_Hull 0 a b).hi) true)))
                    (Tr.ast (ref_Hull_s 1 a b)
                      (Tr.br
                        (and ((ints_Sub a b).e == (ref_Hull 1 a b).e)
                          (and ((ints_Sub a b).lo == (ref_Hull 1 a b).lo)
                            (and ((ints_Sub a b).hi == (ref_Hull 1 a b).hi) true)))
                        (Tr.ast (ref_Hull_s 2 a b)
                          (Tr.br
                            (and ((ints_Mul a b).e == (ref_Hull 2 a b).e)
                              (and ((ints_Mul a b).lo == (ref_Hull 2 a b).lo)
                                (and ((ints_Mul a b).hi == (ref_Hull 2 a b).hi) true)))
                            (Tr.ast (ref_Hull_s 3 a b)
                              (Tr.leaf
                                ((ints_Div a b).e == (ref_Hull 3 a b).e &&
                                  ((ints_Div a b).lo == (ref_Hull 3 a b).lo &&
                                    ((ints_Div a b).hi == (ref_Hull 3 a b).hi && true)))))
                            (Tr.leaf false)))
                        (Tr.leaf false)))
                    (Tr.leaf false)))
                (Tr.leaf false))
              (Tr.leaf false))
            (Tr.leaf false)))))
def l17_IntsHulls_t (a : I3) (b : I3) : Tr (Bool) := l17_IntsHulls_T l17_works ref_Small ints_Point ints_Neg ref_Hull ref_Hull_s ref_Norm ints_Make ints_Meet ints_Join2 ints_Abs ints_Add ints_Sub ints_Mul ints_Div a b
def l17_IntsHulls (a : I3) (b : I3) : Bool := (l17_IntsHulls_t a b).val
theorem l17_IntsHulls_ev (l17_works : Bool) (ref_Small : I3 → Int → Bool) (ints_Point : Int → I3) (ints_Neg : I3 → I3) (ref_Hull : Int → I3 → I3 → I3) (ref_Hull_s : Int → I3 → I3 → Bool) (ref_Norm : I3 → I3) (ints_Make : Int → Int → I3) (ints_Meet : I3 → I3 → I3) (ints_Join2 : (I3 × I3) → I3) (ints_Join1 : I3 → I3) (ints_Join0 : Unit → I3) (ints_Abs : I3 → I3) (ints_Add : I3 → I3 → I3) (ints_Sub : I3 → I3 → I3) (ints_Mul : I3 → I3 → I3) (ints_Div : I3 → I3 → I3) (a : I3) (b : I3) (Q : AV → Prop) : evF Try.prog (mkC [(38, (sumT aNil fun _ => (o1 (cBool)).enc (l17_works ))), (47, (sumT (aCons (cI3) (aOne (cInt .i64))) fun x => (o1 (cBool)).enc (ref_Small x.1 x.2))), (35, (sumT (aOne (cInt .i64)) fun x => (o1 (cI3)).enc (ints_Point x))), (48, (sumT (aOne (cI3)) fun x => (o1 (cI3)).enc (ints_Neg x))), (49, (sumOf (aCons (cInt .i64) (aCons (cI3) (aOne (cI3)))) (fun x => ref_Hull_s x.1 x.2.1 x.2.2) fun x => (o1 (cI3)).enc (ref_Hull x.1 x.2.1 x.2.2))), (39, (sumT (aOne (cI3)) fun x => (o1 (cI3)).enc (ref_Norm x))), (37, (sumT (aCons (cInt .i64) (aOne (cInt .i64))) fun x => (o1 (cI3)).enc (ints_Make x.1 x.2))), (45, (sumT (aCons (cI3) (aOne (cI3))) fun x => (o1 (cI3)).enc (ints_Meet x.1 x.2))), (43, (orS (sumT (aOne (cLit ecI3 to2 of2 l2)) fun x => (o1 (cI3)).enc (ints_Join2 x)) (orS (sumT (aOne (cLit ecI3 to1 of1 l1)) fun x => (o1 (cI3)).enc (ints_Join1 x)) (sumT (aOne (cLit ecI3 to0 of0 l0)) fun x => (o1 (cI3)).enc (ints_Join0 x))))), (50, (sumT (aOne (cI3)) fun x => (o1 (cI3)).enc (ints_Abs x))), (51, (sumT (aCons (cI3) (aOne (cI3))) fun x => (o1 (cI3)).enc (ints_Add x.1 x.2))), (52, (sumT (aCons (cI3) (aOne (cI3))) fun x => (o1 (cI3)).enc (ints_Sub x.1 x.2))), (53, (sumT (aCons (cI3) (aOne (cI3))) fun x => (o1 (cI3)).enc (ints_Mul x.1 x.2))), (54, (sumT (aCons (cI3) (aOne (cI3))) fun x => (o1 (cI3)).enc (ints_Div x.1 x.2)))]) noL 60 Try.f8 ((aCons (cI3) (aOne (cI3))).enc (a, b)) Q = (l17_IntsHulls_T l17_works ref_Small ints_Point ints_Neg ref_Hull ref_Hull_s ref_Norm ints_Make ints_Meet ints_Join2 ints_Abs ints_Add ints_Sub ints_Mul ints_Div a b).prop (fun x => Q ((o1 (cBool)).enc x)) := by kernel_rfl
def l17_IntsHulls_s (a : I3) (b : I3) : Bool := (l17_IntsHulls_t a b).safe
theorem l17_IntsHulls_c (x : I3 × I3) (hs : l17_IntsHulls_s x.1 x.2 = true) (w : World) (vs : Array Value) (hp : ArgsR ((aCons (cI3) (aOne (cI3))).enc x) w vs) : Calls Try.prog 8 vs w (Ans ((o1 (cBool)).enc (l17_IntsHulls x.1 x.2)) w) :=
  contractT mixed (AllGood.cons l17_works_ok (AllGood.cons ref_Small_ok (AllGood.cons ints_Point_ok (AllGood.cons ints_Neg_ok (AllGood.cons ref_Hull_ok (AllGood.cons ref_Norm_ok (AllGood.cons ints_Make_ok (AllGood.cons ints_Meet_ok (AllGood.cons (good_or ints_Join2_ok (good_or ints_Join1_ok ints_Join0_ok)) (AllGood.cons ints_Abs_ok (AllGood.cons ints_Add_ok (AllGood.cons ints_Sub_ok (AllGood.cons ints_Mul_ok (AllGood.cons ints_Div_ok AllGood.nil)))))))))))))) Try.func8 (fun _ _ _ _ => noL_ok) hs (l17_IntsHulls_ev l17_works ref_Small ints_Point ints_Neg ref_Hull ref_Hull_s ref_Norm ints_Make ints_Meet ints_Join2 ints_Join1 ints_Join0 ints_Abs ints_Add ints_Sub ints_Mul ints_Div x.1 x.2) w vs hp
theorem l17_IntsHulls_ok : GoodF Try.prog 8 (sumOf (aCons (cI3) (aOne (cI3))) (fun x => l17_IntsHulls_s x.1 x.2) fun x => (o1 (cBool)).enc (l17_IntsHulls x.1 x.2)) :=
  good_sum (callable_of Try.func8 (by kernel_rfl) (by kernel_rfl)) l17_IntsHulls_c
end Go.Proofs.Ytfbpklopnnnniaa
