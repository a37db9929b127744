/- Layer 2: what the functions compute, as definitions. Conditions: none. -/
import Derived.Test.YtdkbeajkedffeaaGreatWd
namespace Go.Fb
open Go.Ev
def n_trim_L0_T  (v0 : List Int) : Tr (((List Int)) ⊕ ((List Int))) :=
  Tr.br (decide ((v0.length : Int) > 0))
    (Tr.ast (decide (0 ≤ IntKind.i64.wrap ((v0.length : Int) - 1)) && decide (IntKind.i64.wrap ((v0.length : Int) - 1) < (v0.length : Int)))
      (Tr.br (v0.getD (IntKind.i64.wrap ((v0.length : Int) - 1)).toNat 0 == 0)
        (Tr.ast
          (decide (0 ≤ (some (IntKind.i64.wrap ((v0.length : Int) - 1))).getD (v0.length : Int)) &&
            decide ((some (IntKind.i64.wrap ((v0.length : Int) - 1))).getD (v0.length : Int) ≤ (v0.length : Int)))
          (Tr.leaf
            (Sum.inl
              (List.take (((some (IntKind.i64.wrap ((v0.length : Int) - 1))).getD (v0.length : Int)).toNat - Int.toNat 0)
                (List.drop (Int.toNat 0) v0)))))
        (Tr.leaf (Sum.inr v0))))
    (Tr.leaf (Sum.inr v0))
def n_trim_L0_step (_p : Unit) (x : (List Int)) : Tr (((List Int)) ⊕ ((List Int))) := n_trim_L0_T  x
def n_trim_L0_r (p : Unit) (x : (List Int)) : Option ((List Int)) := runB (n_trim_L0_step p) x
def n_trim_L0_v (p : Unit) (x : (List Int)) : (List Int) := (n_trim_L0_r p x).getD x
def n_trim_L0_ok (p : Unit) (x : (List Int)) : Bool := (n_trim_L0_r p x).isSome
def n_trim_T (n_trim_L0_ok : Unit → ((List Int)) → Bool) (n_trim_L0_v : Unit → ((List Int)) → (List Int)) (a : List Int) : Tr ((List Int)) :=
  Tr.ast (n_trim_L0_ok () a) (Tr.leaf (n_trim_L0_v () a))
def n_trim_t (a : List Int) : Tr ((List Int)) := n_trim_T n_trim_L0_ok n_trim_L0_v a
def n_trim (a : List Int) : (List Int) := (n_trim_t a).val
def n_trim_s (a : List Int) : Bool := (n_trim_t a).safe
def n_New_T (n_trim : (List Int) → (List Int)) (n_trim_s : (List Int) → Bool) (x : Int) : Tr ((List Int)) :=
  Tr.ast (n_trim_s [IntKind.u32.wrap x, IntKind.u32.wrap (shrI IntKind.u64 x 32)])
    (Tr.leaf (n_trim [IntKind.u32.wrap x, IntKind.u32.wrap (shrI IntKind.u64 x 32)]))
def n_New_t (x : Int) : Tr ((List Int)) := n_New_T n_trim n_trim_s x
def n_New (x : Int) : (List Int) := (n_New_t x).val
def n_New_s (x : Int) : Bool := (n_New_t x).safe
def n_at_T  (a : List Int) (i : Int) : Tr (Int) :=
  Tr.br (decide (i < (a.length : Int)))
    (Tr.ast (decide (0 ≤ i) && decide (i < (a.length : Int))) (Tr.leaf (IntKind.u64.wrap (a.getD i.toNat 0)))) (Tr.leaf 0)
def n_at_t (a : List Int) (i : Int) : Tr (Int) := n_at_T  a i
def n_at (a : List Int) (i : Int) : Int := (n_at_t a i).val
def n_at_s (a : List Int) (i : Int) : Bool := (n_at_t a i).safe
def s_Rev_L0_T  (v0_0 : Nat) (v0_1 : Nat) (v2 : Int) (v3 : Int) (h0 : List Int) : Tr ((Int × Int × (List Int)) ⊕ (Int × Int × (List Int))) :=
  Tr.br (decide (v2 < v3))
    (Tr.ast (decide (0 ≤ v3) && decide (v3 < (v0_1 : Int)))
      (Tr.ast (decide (0 ≤ v2) && decide (v2 < (v0_1 : Int)))
        (Tr.ast (decide (0 ≤ v2) && decide (v2 < (v0_1 : Int)))
          (Tr.ast (decide (0 ≤ v3) && decide (v3 < (v0_1 : Int)))
            (Tr.leaf
              (Sum.inl
                (IntKind.i64.wrap (v2 + 1), IntKind.i64.wrap (v3 - 1),
                  (h0.set (v0_0 + v2.toNat) (h0.getD (v0_0 + v3.toNat) 0)).set (v0_0 + v3.toNat)
                    (h0.getD (v0_0 + v2.toNat) 0))))))))
    (Tr.leaf (Sum.inr (v2, v3, h0)))
def s_Rev_L0_step (p : Nat × Nat) (x : Int × Int × (List Int)) : Tr ((Int × Int × (List Int)) ⊕ (Int × Int × (List Int))) := s_Rev_L0_T  p.1 p.2 x.1 x.2.1 x.2.2
def s_Rev_L0_r (p : Nat × Nat) (x : Int × Int × (List Int)) : Option (Int × Int × (List Int)) := runB (s_Rev_L0_step p) x
def s_Rev_L0_v (p : Nat × Nat) (x : Int × Int × (List Int)) : Int × Int × (List Int) := (s_Rev_L0_r p x).getD x
def s_Rev_L0_ok (p : Nat × Nat) (x : Int × Int × (List Int)) : Bool := (s_Rev_L0_r p x).isSome
def s_Rev_T (s_Rev_L0_ok : (Nat × Nat) → (Int × Int × (List Int)) → Bool) (s_Rev_L0_v : (Nat × Nat) → (Int × Int × (List Int)) → Int × Int × (List Int)) (xs : List Int) (lo n : Nat)  : Tr ((Unit) × List Int) :=
  Tr.ast (s_Rev_L0_ok (lo, n) (0, IntKind.i64.wrap ((n : Int) - 1), xs))
    (Tr.leaf ((), (s_Rev_L0_v (lo, n) (0, IntKind.i64.wrap ((n : Int) - 1), xs)).snd.snd))
def s_Rev_t (xs : List Int) (lo n : Nat)  : Tr ((Unit) × List Int) := s_Rev_T s_Rev_L0_ok s_Rev_L0_v xs lo n 
def s_Rev (xs : List Int) (lo n : Nat)  : (Unit) × List Int := (s_Rev_t xs lo n ).val
def s_Rev_s (xs : List Int) (lo n : Nat)  : Bool := (s_Rev_t xs lo n ).safe
end Go.Fb
namespace Go.Fb
open Go.Ev
def bwd (zs : List Int) : List (Int × Int) := ((List.range zs.length).reverse).map fun j : Nat => ((j : Int), zs.getD j 0)
def n_short_w (s : List Int × Int) (x : Int × Int) : Int := bitsI BinOp.or IntKind.u64 (shlI IntKind.u64 s.2 32) (IntKind.u64.wrap x.2)
def n_short_st (b : Int) (s : List Int × Int) (x : Int × Int) : List Int × Int :=
  (s.1.set x.1.toNat (IntKind.u32.wrap (IntKind.u64.wrap ((n_short_w s x).tdiv (IntKind.u64.wrap b)))), (n_short_w s x).tmod (IntKind.u64.wrap b))
def n_short_f (a : List Int) (b : Int) : List Int × Int := (bwd a).foldl (n_short_st b) (List.replicate a.length 0, 0)
def n_short (a : List Int) (b : Int) : List Int × List Int := (n_trim (n_short_f a b).1, n_New (n_short_f a b).2)
def n_short_s (a : List Int) (b : Int) : Bool := decide (4 * (a.length : Int) ≤ 281474976710656) && (!(IntKind.u64.wrap b == 0) && (n_trim_s (n_short_f a b).1 && n_New_s (n_short_f a b).2))
def n_Text_L1_T  (_v0 : List Int) (_v2 : List UInt8) (_v4 : List Int) (_v8 : List Int) (_v9 : Int) (_v10 : Bool) (_v12 : List Int) (_v14 : List Int) (_v15 : List Int) (_v16 : List Int) (_v17 : Int) (v5 : Int) (v18 : Int) (h0 : List Int) : Tr ((Int × Int × (List Int)) ⊕ (Int × Int × (List Int))) :=
  Tr.br (decide (v18 < 9))
    (Tr.ast (decide ((h0.length + [IntKind.u8.wrap (IntKind.u64.wrap (48 + v5.tmod 10))].length) * 1 ≤ 140737488355328))
      (Tr.leaf
        (Sum.inl
          (IntKind.u64.wrap (v5.tdiv 10), IntKind.i64.wrap (v18 + 1),
            h0 ++ [IntKind.u8.wrap (IntKind.u64.wrap (48 + v5.tmod 10))]))))
    (Tr.leaf (Sum.inr (v5, v18, h0)))
def n_Text_L1_step (p : (List Int) × (List UInt8) × (List Int) × (List Int) × Int × Bool × (List Int) × (List Int) × (List Int) × (List Int) × Int) (x : Int × Int × (List Int)) : Tr ((Int × Int × (List Int)) ⊕ (Int × Int × (List Int))) := n_Text_L1_T  p.1 p.2.1 p.2.2.1 p.2.2.2.1 p.2.2.2.2.1 p.2.2.2.2.2.1 p.2.2.2.2.2.2.1 p.2.2.2.2.2.2.2.1 p.2.2.2.2.2.2.2.2.1 p.2.2.2.2.2.2.2.2.2.1 p.2.2.2.2.2.2.2.2.2.2 x.1 x.2.1 x.2.2
def n_Text_L1_r (p : (List Int) × (List UInt8) × (List Int) × (List Int) × Int × Bool × (List Int) × (List Int) × (List Int) × (List Int) × Int) (x : Int × Int × (List Int)) : Option (Int × Int × (List Int)) := runB (n_Text_L1_step p) x
def n_Text_L1_v (p : (List Int) × (List UInt8) × (List Int) × (List Int) × Int × Bool × (List Int) × (List Int) × (List Int) × (List Int) × Int) (x : Int × Int × (List Int)) : Int × Int × (List Int) := (n_Text_L1_r p x).getD x
def n_Text_L1_ok (p : (List Int) × (List UInt8) × (List Int) × (List Int) × Int × Bool × (List Int) × (List Int) × (List Int) × (List Int) × Int) (x : Int × Int × (List Int)) : Bool := (n_Text_L1_r p x).isSome
def n_Text_L0_T (n_short : List Int → Int → List Int × List Int) (n_short_s : List Int → Int → Bool) (n_at : (List Int) → Int → Int) (n_at_s : (List Int) → Int → Bool) (n_Text_L1_ok : ((List Int) × (List UInt8) × (List Int) × (List Int) × Int × Bool × (List Int) × (List Int) × (List Int) × (List Int) × Int) → (Int × Int × (List Int)) → Bool) (n_Text_L1_v : ((List Int) × (List UInt8) × (List Int) × (List Int) × Int × Bool × (List Int) × (List Int) × (List Int) × (List Int) × Int) → (Int × Int × (List Int)) → Int × Int × (List Int)) (v2 : List UInt8) (v0 : List Int) (h0 : List Int) : Tr (((List Int) × (List Int)) ⊕ ((List Int) × (List Int))) :=
  Tr.br (decide ((v0.length : Int) > 0))
    (Tr.ast (n_short_s v0 1000000000)
      (Tr.ast (n_at_s (n_short v0 1000000000).snd 0)
        (Tr.ast
          (n_Text_L1_ok
            ((n_short v0 1000000000).fst, v2, (n_short v0 1000000000).snd, v0, (v0.length : Int), true, v0,
              (n_short v0 1000000000).fst, (n_short v0 1000000000).snd, (n_short v0 1000000000).snd,
              n_at (n_short v0 1000000000).snd 0)
            (n_at (n_short v0 1000000000).snd 0, 0, h0))
          (Tr.leaf
            (Sum.inl
              ((n_short v0 1000000000).fst,
                (n_Text_L1_v
                      ((n_short v0 1000000000).fst, v2, (n_short v0 1000000000).snd, v0, (v0.length : Int), true, v0,
                        (n_short v0 1000000000).fst, (n_short v0 1000000000).snd, (n_short v0 1000000000).snd,
                        n_at (n_short v0 1000000000).snd 0)
                      (n_at (n_short v0 1000000000).snd 0, 0, h0)).snd.snd))))))
    (Tr.leaf (Sum.inr (v0, h0)))
def n_Text_L0_step (p : (List UInt8)) (x : (List Int) × (List Int)) : Tr (((List Int) × (List Int)) ⊕ ((List Int) × (List Int))) := n_Text_L0_T n_short n_short_s n_at n_at_s n_Text_L1_ok n_Text_L1_v p x.1 x.2
def n_Text_L0_r (p : (List UInt8)) (x : (List Int) × (List Int)) : Option ((List Int) × (List Int)) := runB (n_Text_L0_step p) x
def n_Text_L0_v (p : (List UInt8)) (x : (List Int) × (List Int)) : (List Int) × (List Int) := (n_Text_L0_r p x).getD x
def n_Text_L0_ok (p : (List UInt8)) (x : (List Int) × (List Int)) : Bool := (n_Text_L0_r p x).isSome
def n_Text_L2_T  (_v2 : List UInt8) (h0 : List Int) (v3_0 : Nat) (v3_1 : Nat) : Tr ((Nat × Nat) ⊕ (Nat × Nat)) :=
  Tr.br (decide ((v3_1 : Int) > 0))
    (Tr.ast (decide (0 ≤ IntKind.i64.wrap ((v3_1 : Int) - 1)) && decide (IntKind.i64.wrap ((v3_1 : Int) - 1) < (v3_1 : Int)))
      (Tr.br (h0.getD (v3_0 + (IntKind.i64.wrap ((v3_1 : Int) - 1)).toNat) 0 == 48)
        (Tr.ast
          (decide (0 ≤ (some (IntKind.i64.wrap ((v3_1 : Int) - 1))).getD (v3_1 : Int)) &&
            decide ((some (IntKind.i64.wrap ((v3_1 : Int) - 1))).getD (v3_1 : Int) ≤ (v3_1 : Int)))
          (Tr.leaf
            (Sum.inl (v3_0 + Int.toNat 0, ((some (IntKind.i64.wrap ((v3_1 : Int) - 1))).getD (v3_1 : Int)).toNat - Int.toNat 0))))
        (Tr.leaf (Sum.inr (v3_0, v3_1)))))
    (Tr.leaf (Sum.inr (v3_0, v3_1)))
def n_Text_L2_step (p : (List UInt8) × (List Int)) (x : Nat × Nat) : Tr ((Nat × Nat) ⊕ (Nat × Nat)) := n_Text_L2_T  p.1 p.2 x.1 x.2
def n_Text_L2_r (p : (List UInt8) × (List Int)) (x : Nat × Nat) : Option (Nat × Nat) := runB (n_Text_L2_step p) x
def n_Text_L2_v (p : (List UInt8) × (List Int)) (x : Nat × Nat) : Nat × Nat := (n_Text_L2_r p x).getD x
def n_Text_L2_ok (p : (List UInt8) × (List Int)) (x : Nat × Nat) : Bool := (n_Text_L2_r p x).isSome
def n_Text_T (n_trim : (List Int) → (List Int)) (n_trim_s : (List Int) → Bool) (s_Rev : List Int → Nat → Nat → (Unit) × List Int) (s_Rev_s : List Int → Nat → Nat → Bool) (n_Text_L0_ok : ((List UInt8)) → ((List Int) × (List Int)) → Bool) (n_Text_L0_v : ((List UInt8)) → ((List Int) × (List Int)) → (List Int) × (List Int)) (n_Text_L2_ok : ((List UInt8) × (List Int)) → (Nat × Nat) → Bool) (n_Text_L2_v : ((List UInt8) × (List Int)) → (Nat × Nat) → Nat × Nat) (a : List Int) : Tr ((List UInt8)) :=
  Tr.ast (n_trim_s a)
    (Tr.ast (n_Text_L0_ok #[].toList (n_trim a, []))
      (Tr.ast
        (n_Text_L2_ok (#[].toList, (n_Text_L0_v #[].toList (n_trim a, [])).snd)
          (0, (n_Text_L0_v #[].toList (n_trim a, [])).snd.length))
        (Tr.br
          (((n_Text_L2_v (#[].toList, (n_Text_L0_v #[].toList (n_trim a, [])).snd)
                  (0, (n_Text_L0_v #[].toList (n_trim a, [])).snd.length)).snd : Int) ==
            0)
          (Tr.leaf [48])
          (Tr.ast
            (s_Rev_s (n_Text_L0_v #[].toList (n_trim a, [])).snd
              (n_Text_L2_v (#[].toList, (n_Text_L0_v #[].toList (n_trim a, [])).snd)
                  (0, (n_Text_L0_v #[].toList (n_trim a, [])).snd.length)).fst
              (n_Text_L2_v (#[].toList, (n_Text_L0_v #[].toList (n_trim a, [])).snd)
                  (0, (n_Text_L0_v #[].toList (n_trim a, [])).snd.length)).snd)
            (Tr.leaf
              (List.map (fun n => UInt8.ofNat n.toNat)
                (List.take
                  (n_Text_L2_v (#[].toList, (n_Text_L0_v #[].toList (n_trim a, [])).snd)
                      (0, (n_Text_L0_v #[].toList (n_trim a, [])).snd.length)).snd
                  (List.drop
                    (n_Text_L2_v (#[].toList, (n_Text_L0_v #[].toList (n_trim a, [])).snd)
                        (0, (n_Text_L0_v #[].toList (n_trim a, [])).snd.length)).fst
                    (s_Rev (n_Text_L0_v #[].toList (n_trim a, [])).snd
                        (n_Text_L2_v (#[].toList, (n_Text_L0_v #[].toList (n_trim a, [])).snd)
                            (0, (n_Text_L0_v #[].toList (n_trim a, [])).snd.length)).fst
                        (n_Text_L2_v (#[].toList, (n_Text_L0_v #[].toList (n_trim a, [])).snd)
                            (0, (n_Text_L0_v #[].toList (n_trim a, [])).snd.length)).snd).snd))))))))
def n_Text_t (a : List Int) : Tr ((List UInt8)) := n_Text_T n_trim n_trim_s s_Rev s_Rev_s n_Text_L0_ok n_Text_L0_v n_Text_L2_ok n_Text_L2_v a
def n_Text (a : List Int) : (List UInt8) := (n_Text_t a).val
def n_Text_s (a : List Int) : Bool := (n_Text_t a).safe
end Go.Fb
