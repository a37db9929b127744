/- Layer 2: contracts of the functions, part two. Conditions: as each theorem states. -/
import Derived.Test.YtggmmkdfgjnjfaaNd
import Derived.Test.YtggmmkdfgjnjfaaXb
namespace Go.Proofs.Ytggmmkdfgjnjfaa
open Go.Ev Go.Fb
def r1_Words_L0_tm : Tm :=
  Tm.mk
    [some (false, [Sh.vecb false]), some (false, [Sh.int IntKind.i64]), none, none, some (false, [Sh.nil]),
      some (false, [Sh.own 0]), some (false, [Sh.int IntKind.i64]), none, none, none, none, none, none, none, none, none,
      none, none, none, none, none, none, none, none, none, none, none, none, none, none, none, none, none, none, none,
      none, none, none, none, none]
    [Hs.growi 47 IntKind.u64] false
def r1_Words_L0_of : List Pv → Option (((List Bool) × Int) × (Int × (List Int)))
  | [.bl v0, .i v1, .i v6, .il h0] => some ((v0, v1), (v6, h0))
  | _ => none
def r1_Words_L0_to (p : (List Bool) × Int) (x : Int × (List Int)) : List Pv := [.bl p.1, .i p.2, .i x.1, .il x.2]
theorem r1_Words_L0_ot (l : List Pv) (p : (List Bool) × Int) (x : Int × (List Int)) (h : r1_Words_L0_of l = some (p, x)) : r1_Words_L0_to p x = l := by
  unfold r1_Words_L0_of at h
  split at h
  · cases h; rfl
  · cases h
def r1_Words_L0_dec (s : St) : Option (((List Bool) × Int) × (Int × (List Int))) := (r1_Words_L0_tm.dec s).bind r1_Words_L0_of
def r1_Words_L0_I (p : (List Bool) × Int) (x : Int × (List Int)) : St := r1_Words_L0_tm.enc (r1_Words_L0_to p x)
theorem r1_Words_L0_ev (F : Nat → Prop)  (v0 : List Bool) (v1 : Int) (v6 : Int) (h0 : List Int) (Q : (((List Bool) × Int) × (Int × (List Int))) ⊕ (((List Bool) × Int) × (Int × (List Int))) → Prop) : evC Try.prog (mkC ([]) F) noL 60 (lp Try.f60 0) (r1_Words_L0_I (v0, v1) (v6, h0)) (fun y s => onO Q (bkE 0 r1_Words_L0_dec y s)) = (r1_Words_L0_T  v0 v1 v6 h0).prop (onT (v0, v1) Q) := by kernel_rfl
set_option maxRecDepth 100000 in
theorem r1_Words_L0_ls {F : Nat → Prop} {B : Nat} {w0 : World} {s : St} {k : X → St → Prop} (hk : (lsE 0 r1_Words_L0_dec r1_Words_L0_I r1_Words_L0_ok r1_Words_L0_v) s k) : EW Try.prog (mkC ([]) F) B w0 (.loop (lp Try.f60 0)) s k :=
  lsE_ok (fun _ _ _ h => weak_of r1_Words_L0_ot (.inl rfl) h) (step := r1_Words_L0_step) (fun p x Q h => evC_spec mixed (mkC_ok AllGood.nil F) (L := noL) (u := 60) _ (loops_nil (by kernel_rfl)) _ _ (Eq.mpr (r1_Words_L0_ev F  p.1 p.2 x.1 x.2 Q) h)) (fun _ _ h => run_ok h) hk
theorem r1_Words_ev (F : Nat → Prop) (r1_Words_L0_ok : ((List Bool) × Int) → (Int × (List Int)) → Bool) (r1_Words_L0_v : ((List Bool) × Int) → (Int × (List Int)) → Int × (List Int)) (b : List Bool) (n : Int) (Q : AV → Prop) : evF Try.prog (mkC ([]) F) (fun id => cond (Nat.beq 3 id) (some (lsE 0 r1_Words_L0_dec r1_Words_L0_I r1_Words_L0_ok r1_Words_L0_v)) (none) : Loops) 60 Try.f60 ((aCons (cBools) (aOne (cInt .i64))).enc false (b, n)) Q = (r1_Words_T r1_Words_L0_ok r1_Words_L0_v b n).prop (fun x => Q ((o1 (cInts .u64)).enc x)) := by kernel_rfl
theorem r1_Words_c (x : (List Bool) × Int) (hs : r1_Words_s x.1 x.2 = true) (w : World) (vs : Array Value) (hp : ArgsR ((aCons (cBools) (aOne (cInt .i64))).enc false x) w vs) : Calls Try.prog 60 vs w (Ans ((o1 (cInts .u64)).enc (r1_Words x.1 x.2)) w) :=
  contractT mixed AllGood.nil Try.func60 (fun _ _ _ => loops_all (m := 1) (by kernel_rfl) (fun i hi => match i, hi with
    | 0, _ => (fun g hg s k hk => r1_Words_L0_ls (cast (congrFun (congrFun (Option.some.inj (hg.symm.trans (by kernel_rfl))) s) k) hk))
    | (j + 1), hi => absurd hi (by omega))) hs (fun F => r1_Words_ev F r1_Words_L0_ok r1_Words_L0_v x.1 x.2) w vs hp
theorem r1_Words_ok : GoodF Try.prog 60 (sumOf (aCons (cBools) (aOne (cInt .i64))) (fun x => r1_Words_s x.1 x.2) fun x => (o1 (cInts .u64)).enc (r1_Words x.1 x.2)) :=
  good_sum (callable_of Try.func60 (by kernel_rfl) (by kernel_rfl)) r1_Words_c
end Go.Proofs.Ytggmmkdfgjnjfaa
