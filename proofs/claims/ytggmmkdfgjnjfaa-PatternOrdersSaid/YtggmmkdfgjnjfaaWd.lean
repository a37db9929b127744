/- Layer 1: what the functions compute, as definitions. Conditions: none. -/
import Derived.Test.YtggmmkdfgjnjfaaEd
namespace Go.Fb
open Go.Ev
def len8 := ByteArray.mk (([0, 1, 2, 2, 3, 3, 3, 3, 4, 4, 4, 4, 4, 4, 4, 4, 5, 5, 5, 5, 5, 5, 5, 5, 5, 5, 5, 5, 5, 5, 5, 5, 6, 6, 6, 6, 6, 6, 6, 6, 6, 6, 6, 6, 6, 6, 6, 6, 6, 6, 6, 6, 6, 6, 6, 6, 6, 6, 6, 6, 6, 6, 6, 6].append [7, 7, 7, 7, 7, 7, 7, 7, 7, 7, 7, 7, 7, 7, 7, 7, 7, 7, 7, 7, 7, 7, 7, 7, 7, 7, 7, 7, 7, 7, 7, 7, 7, 7, 7, 7, 7, 7, 7, 7, 7, 7, 7, 7, 7, 7, 7, 7, 7, 7, 7, 7, 7, 7, 7, 7, 7, 7, 7, 7, 7, 7, 7, 7]).append ([8, 8, 8, 8, 8, 8, 8, 8, 8, 8, 8, 8, 8, 8, 8, 8, 8, 8, 8, 8, 8, 8, 8, 8, 8, 8, 8, 8, 8, 8, 8, 8, 8, 8, 8, 8, 8, 8, 8, 8, 8, 8, 8, 8, 8, 8, 8, 8, 8, 8, 8, 8, 8, 8, 8, 8, 8, 8, 8, 8, 8, 8, 8, 8].append [8, 8, 8, 8, 8, 8, 8, 8, 8, 8, 8, 8, 8, 8, 8, 8, 8, 8, 8, 8, 8, 8, 8, 8, 8, 8, 8, 8, 8, 8, 8, 8, 8, 8, 8, 8, 8, 8, 8, 8, 8, 8, 8, 8, 8, 8, 8, 8, 8, 8, 8, 8, 8, 8, 8, 8, 8, 8, 8, 8, 8, 8, 8, 8])).toArray
end Go.Fb
namespace Go.Fb
open Go.Ev
def r1_Of1_L1_T  (v0 : List Int) (v4 : Int) (_v6 : Int) (_v7 : List Int) (_v8 : Int) (_v9 : Bool) (v5 : Int) (h0 : List Bool) : Tr ((Int × (List Bool)) ⊕ (Int × (List Bool))) :=
  Tr.br (decide (v5 < 64))
    (Tr.ast (and (decide (0 ≤ v4)) (decide (v4 < (v0.length : Int))))
      (Tr.ast (decide (0 ≤ IntKind.u64.wrap v5))
        (Tr.ast
          (decide
            ((h0.length +
                  [bitsI BinOp.and IntKind.u64 (shrI IntKind.u64 (v0.getD v4.toNat 0) (IntKind.u64.wrap v5)) 1 ==
                        1].length) *
                1 ≤
              140737488355328))
          (Tr.leaf
            (Sum.inl
              (IntKind.i64.wrap (v5 + 1),
                h0 ++
                  [bitsI BinOp.and IntKind.u64 (shrI IntKind.u64 (v0.getD v4.toNat 0) (IntKind.u64.wrap v5)) 1 == 1]))))))
    (Tr.leaf (Sum.inr (v5, h0)))
def r1_Of1_L1_step (p : (List Int) × Int × Int × (List Int) × Int × Bool) (x : Int × (List Bool)) : Tr ((Int × (List Bool)) ⊕ (Int × (List Bool))) := r1_Of1_L1_T  p.1 p.2.1 p.2.2.1 p.2.2.2.1 p.2.2.2.2.1 p.2.2.2.2.2 x.1 x.2
def r1_Of1_L1_r (p : (List Int) × Int × Int × (List Int) × Int × Bool) (x : Int × (List Bool)) : Option (Int × (List Bool)) := runB (r1_Of1_L1_step p) x
def r1_Of1_L1_v (p : (List Int) × Int × Int × (List Int) × Int × Bool) (x : Int × (List Bool)) : Int × (List Bool) := (r1_Of1_L1_r p x).getD x
def r1_Of1_L1_ok (p : (List Int) × Int × Int × (List Int) × Int × Bool) (x : Int × (List Bool)) : Bool := (r1_Of1_L1_r p x).isSome
def r1_Of1_T (r1_Of1_L1_ok : ((List Int) × Int × Int × (List Int) × Int × Bool) → (Int × (List Bool)) → Bool) (r1_Of1_L1_v : ((List Int) × Int × Int × (List Int) × Int × Bool) → (Int × (List Bool)) → Int × (List Bool)) (l : Int) : Tr ((List Bool)) :=
  Tr.ast (r1_Of1_L1_ok (to1 l, 0, 0, to1 l, ((to1 l).length : Int), true) (0, []))
    (Tr.leaf (r1_Of1_L1_v (to1 l, 0, 0, to1 l, ((to1 l).length : Int), true) (0, [])).snd)
def r1_Of1_t (l : Int) : Tr ((List Bool)) := r1_Of1_T r1_Of1_L1_ok r1_Of1_L1_v l
def r1_Of1 (l : Int) : (List Bool) := (r1_Of1_t l).val
def r1_Of1_s (l : Int) : Bool := (r1_Of1_t l).safe
def r1_Of2_L1_T  (v0 : List Int) (v4 : Int) (_v6 : Int) (_v7 : List Int) (_v8 : Int) (_v9 : Bool) (v5 : Int) (h0 : List Bool) : Tr ((Int × (List Bool)) ⊕ (Int × (List Bool))) :=
  Tr.br (decide (v5 < 64))
    (Tr.ast (and (decide (0 ≤ v4)) (decide (v4 < (v0.length : Int))))
      (Tr.ast (decide (0 ≤ IntKind.u64.wrap v5))
        (Tr.ast
          (decide
            ((h0.length +
                  [bitsI BinOp.and IntKind.u64 (shrI IntKind.u64 (v0.getD v4.toNat 0) (IntKind.u64.wrap v5)) 1 ==
                        1].length) *
                1 ≤
              140737488355328))
          (Tr.leaf
            (Sum.inl
              (IntKind.i64.wrap (v5 + 1),
                h0 ++
                  [bitsI BinOp.and IntKind.u64 (shrI IntKind.u64 (v0.getD v4.toNat 0) (IntKind.u64.wrap v5)) 1 == 1]))))))
    (Tr.leaf (Sum.inr (v5, h0)))
def r1_Of2_L1_step (p : (List Int) × Int × Int × (List Int) × Int × Bool) (x : Int × (List Bool)) : Tr ((Int × (List Bool)) ⊕ (Int × (List Bool))) := r1_Of2_L1_T  p.1 p.2.1 p.2.2.1 p.2.2.2.1 p.2.2.2.2.1 p.2.2.2.2.2 x.1 x.2
def r1_Of2_L1_r (p : (List Int) × Int × Int × (List Int) × Int × Bool) (x : Int × (List Bool)) : Option (Int × (List Bool)) := runB (r1_Of2_L1_step p) x
def r1_Of2_L1_v (p : (List Int) × Int × Int × (List Int) × Int × Bool) (x : Int × (List Bool)) : Int × (List Bool) := (r1_Of2_L1_r p x).getD x
def r1_Of2_L1_ok (p : (List Int) × Int × Int × (List Int) × Int × Bool) (x : Int × (List Bool)) : Bool := (r1_Of2_L1_r p x).isSome
def r1_Of2_T (r1_Of2_L1_ok : ((List Int) × Int × Int × (List Int) × Int × Bool) → (Int × (List Bool)) → Bool) (r1_Of2_L1_v : ((List Int) × Int × Int × (List Int) × Int × Bool) → (Int × (List Bool)) → Int × (List Bool)) (l : Int × Int) : Tr ((List Bool)) :=
  Tr.ast (r1_Of2_L1_ok (to2 l, 0, 0, to2 l, ((to2 l).length : Int), true) (0, []))
    (Tr.ast
      (r1_Of2_L1_ok (to2 l, IntKind.i64.wrap (0 + 1), IntKind.i64.wrap (0 + 1), to2 l, ((to2 l).length : Int), true)
        (0, (r1_Of2_L1_v (to2 l, 0, 0, to2 l, ((to2 l).length : Int), true) (0, [])).snd))
      (Tr.leaf
        (r1_Of2_L1_v (to2 l, IntKind.i64.wrap (0 + 1), IntKind.i64.wrap (0 + 1), to2 l, ((to2 l).length : Int), true)
            (0, (r1_Of2_L1_v (to2 l, 0, 0, to2 l, ((to2 l).length : Int), true) (0, [])).snd)).snd))
def r1_Of2_t (l : Int × Int) : Tr ((List Bool)) := r1_Of2_T r1_Of2_L1_ok r1_Of2_L1_v l
def r1_Of2 (l : Int × Int) : (List Bool) := (r1_Of2_t l).val
def r1_Of2_s (l : Int × Int) : Bool := (r1_Of2_t l).safe
def r1_bit_T  (a : List Bool) (i : Int) : Tr (Bool) :=
  Tr.br (decide (i ≥ 0))
    (Tr.br (decide (i < (a.length : Int)))
      (Tr.ast (and (decide (0 ≤ i)) (decide (i < (a.length : Int)))) (Tr.leaf (a.getD i.toNat false))) (Tr.leaf false))
    (Tr.leaf false)
def r1_bit_t (a : List Bool) (i : Int) : Tr (Bool) := r1_bit_T  a i
def r1_bit (a : List Bool) (i : Int) : Bool := (r1_bit_t a i).val
def r1_bit_s (a : List Bool) (i : Int) : Bool := (r1_bit_t a i).safe
def r1_Cmp_L0_T (r1_bit : (List Bool) → Int → Bool) (r1_bit_s : (List Bool) → Int → Bool) (v0 : List Bool) (v1 : List Bool) (_v4 : Int) (v5 : Int) : Tr ((Int) ⊕ ((Int) ⊕ (Int))) :=
  Tr.br (decide (v5 ≥ 0))
    (Tr.ast (r1_bit_s v0 v5)
      (Tr.ast (r1_bit_s v1 v5)
        (Tr.br (!r1_bit v0 v5 == r1_bit v1 v5)
          (Tr.br (r1_bit v0 v5) (Tr.leaf (Sum.inr (Sum.inr 1))) (Tr.leaf (Sum.inr (Sum.inr (-1)))))
          (Tr.leaf (Sum.inl (IntKind.i64.wrap (v5 - 1)))))))
    (Tr.leaf (Sum.inr (Sum.inl v5)))
def r1_Cmp_L0_step (p : (List Bool) × (List Bool) × Int) (x : Int) : Tr ((Int) ⊕ ((Int) ⊕ (Int))) := r1_Cmp_L0_T r1_bit r1_bit_s p.1 p.2.1 p.2.2 x
def r1_Cmp_L0_r (p : (List Bool) × (List Bool) × Int) (x : Int) : Option ((Int) ⊕ (Int)) := runB (r1_Cmp_L0_step p) x
def r1_Cmp_L0_rt (p : (List Bool) × (List Bool) × Int) (x : Int) : Bool := isR (r1_Cmp_L0_r p x)
def r1_Cmp_L0_v (p : (List Bool) × (List Bool) × Int) (x : Int) : Int := outL_ x (r1_Cmp_L0_r p x)
def r1_Cmp_L0_rv (p : (List Bool) × (List Bool) × Int) (x : Int) : Int := outR_ 0 (r1_Cmp_L0_r p x)
def r1_Cmp_L0_ok (p : (List Bool) × (List Bool) × Int) (x : Int) : Bool := (r1_Cmp_L0_r p x).isSome
def r1_Cmp_T (r1_Cmp_L0_ok : ((List Bool) × (List Bool) × Int) → Int → Bool) (r1_Cmp_L0_rt : ((List Bool) × (List Bool) × Int) → Int → Bool) (r1_Cmp_L0_rv : ((List Bool) × (List Bool) × Int) → Int → Int) (a : List Bool) (b : List Bool) : Tr (Int) :=
  Tr.ast (r1_Cmp_L0_ok (a, b, 0) (IntKind.i64.wrap (imax (a.length : Int) (b.length : Int) - 1)))
    (Tr.br (r1_Cmp_L0_rt (a, b, 0) (IntKind.i64.wrap (imax (a.length : Int) (b.length : Int) - 1)))
      (Tr.leaf (r1_Cmp_L0_rv (a, b, 0) (IntKind.i64.wrap (imax (a.length : Int) (b.length : Int) - 1)))) (Tr.leaf 0))
def r1_Cmp_t (a : List Bool) (b : List Bool) : Tr (Int) := r1_Cmp_T r1_Cmp_L0_ok r1_Cmp_L0_rt r1_Cmp_L0_rv a b
def r1_Cmp (a : List Bool) (b : List Bool) : Int := (r1_Cmp_t a b).val
def r1_Cmp_s (a : List Bool) (b : List Bool) : Bool := (r1_Cmp_t a b).safe
def r1_Sub_L0_T (r1_bit : (List Bool) → Int → Bool) (r1_bit_s : (List Bool) → Int → Bool) (v0 : List Bool) (v1 : List Bool) (v2 : Int) (_v7 : Bool) (v9 : Bool) (v10 : Int) (h0 : List Bool) : Tr ((Bool × Int × (List Bool)) ⊕ (Bool × Int × (List Bool))) :=
  Tr.br (decide (v10 < v2))
    (Tr.ast (r1_bit_s v0 v10)
      (Tr.ast (r1_bit_s v1 v10)
        (Tr.ast (decide ((h0.length + [!(!r1_bit v0 v10 == r1_bit v1 v10) == v9].length) * 1 ≤ 140737488355328))
          (Tr.br (!r1_bit v0 v10)
            (Tr.br (r1_bit v1 v10)
              (Tr.leaf (Sum.inl (true, IntKind.i64.wrap (v10 + 1), h0 ++ [!(!r1_bit v0 v10 == r1_bit v1 v10) == v9])))
              (Tr.br v9
                (Tr.leaf (Sum.inl (true, IntKind.i64.wrap (v10 + 1), h0 ++ [!(!r1_bit v0 v10 == r1_bit v1 v10) == v9])))
                (Tr.br (r1_bit v0 v10)
                  (Tr.br (r1_bit v1 v10)
                    (Tr.leaf (Sum.inl (v9, IntKind.i64.wrap (v10 + 1), h0 ++ [!(!r1_bit v0 v10 == r1_bit v1 v10) == v9])))
                    (Tr.leaf
                      (Sum.inl (false, IntKind.i64.wrap (v10 + 1), h0 ++ [!(!r1_bit v0 v10 == r1_bit v1 v10) == v9]))))
                  (Tr.leaf
                    (Sum.inl (false, IntKind.i64.wrap (v10 + 1), h0 ++ [!(!r1_bit v0 v10 == r1_bit v1 v10) == v9]))))))
            (Tr.br (r1_bit v0 v10)
              (Tr.br (r1_bit v1 v10)
                (Tr.leaf (Sum.inl (v9, IntKind.i64.wrap (v10 + 1), h0 ++ [!(!r1_bit v0 v10 == r1_bit v1 v10) == v9])))
                (Tr.leaf (Sum.inl (false, IntKind.i64.wrap (v10 + 1), h0 ++ [!(!r1_bit v0 v10 == r1_bit v1 v10) == v9]))))
              (Tr.leaf
                (Sum.inl (false, IntKind.i64.wrap (v10 + 1), h0 ++ [!(!r1_bit v0 v10 == r1_bit v1 v10) == v9]))))))))
    (Tr.leaf (Sum.inr (v9, v10, h0)))
def r1_Sub_L0_step (p : (List Bool) × (List Bool) × Int × Bool) (x : Bool × Int × (List Bool)) : Tr ((Bool × Int × (List Bool)) ⊕ (Bool × Int × (List Bool))) := r1_Sub_L0_T r1_bit r1_bit_s p.1 p.2.1 p.2.2.1 p.2.2.2 x.1 x.2.1 x.2.2
def r1_Sub_L0_r (p : (List Bool) × (List Bool) × Int × Bool) (x : Bool × Int × (List Bool)) : Option (Bool × Int × (List Bool)) := runB (r1_Sub_L0_step p) x
def r1_Sub_L0_v (p : (List Bool) × (List Bool) × Int × Bool) (x : Bool × Int × (List Bool)) : Bool × Int × (List Bool) := (r1_Sub_L0_r p x).getD x
def r1_Sub_L0_ok (p : (List Bool) × (List Bool) × Int × Bool) (x : Bool × Int × (List Bool)) : Bool := (r1_Sub_L0_r p x).isSome
def r1_Sub_T (r1_Sub_L0_ok : ((List Bool) × (List Bool) × Int × Bool) → (Bool × Int × (List Bool)) → Bool) (r1_Sub_L0_v : ((List Bool) × (List Bool) × Int × Bool) → (Bool × Int × (List Bool)) → Bool × Int × (List Bool)) (a : List Bool) (b : List Bool) (n : Int) : Tr ((List Bool) × Bool) :=
  Tr.ast (r1_Sub_L0_ok (a, b, n, false) (false, 0, []))
    (Tr.leaf ((r1_Sub_L0_v (a, b, n, false) (false, 0, [])).snd.snd, (r1_Sub_L0_v (a, b, n, false) (false, 0, [])).fst))
def r1_Sub_t (a : List Bool) (b : List Bool) (n : Int) : Tr ((List Bool) × Bool) := r1_Sub_T r1_Sub_L0_ok r1_Sub_L0_v a b n
def r1_Sub (a : List Bool) (b : List Bool) (n : Int) : (List Bool) × Bool := (r1_Sub_t a b n).val
def r1_Sub_s (a : List Bool) (b : List Bool) (n : Int) : Bool := (r1_Sub_t a b n).safe
def r1_Shl_L0_T  (_v0 : List Bool) (v1 : Int) (v6 : Int) (h0 : List Bool) : Tr ((Int × (List Bool)) ⊕ (Int × (List Bool))) :=
  Tr.br (decide (v6 < v1))
    (Tr.ast (decide ((h0.length + [false].length) * 1 ≤ 140737488355328))
      (Tr.leaf (Sum.inl (IntKind.i64.wrap (v6 + 1), h0 ++ [false]))))
    (Tr.leaf (Sum.inr (v6, h0)))
def r1_Shl_L0_step (p : (List Bool) × Int) (x : Int × (List Bool)) : Tr ((Int × (List Bool)) ⊕ (Int × (List Bool))) := r1_Shl_L0_T  p.1 p.2 x.1 x.2
def r1_Shl_L0_r (p : (List Bool) × Int) (x : Int × (List Bool)) : Option (Int × (List Bool)) := runB (r1_Shl_L0_step p) x
def r1_Shl_L0_v (p : (List Bool) × Int) (x : Int × (List Bool)) : Int × (List Bool) := (r1_Shl_L0_r p x).getD x
def r1_Shl_L0_ok (p : (List Bool) × Int) (x : Int × (List Bool)) : Bool := (r1_Shl_L0_r p x).isSome
def r1_Shl_T (r1_Shl_L0_ok : ((List Bool) × Int) → (Int × (List Bool)) → Bool) (r1_Shl_L0_v : ((List Bool) × Int) → (Int × (List Bool)) → Int × (List Bool)) (a : List Bool) (n : Int) : Tr ((List Bool)) :=
  Tr.ast (r1_Shl_L0_ok (a, n) (0, []))
    (Tr.ast (decide (((r1_Shl_L0_v (a, n) (0, [])).snd.length + a.length) * 1 ≤ 140737488355328))
      (Tr.leaf ((r1_Shl_L0_v (a, n) (0, [])).snd ++ a)))
def r1_Shl_t (a : List Bool) (n : Int) : Tr ((List Bool)) := r1_Shl_T r1_Shl_L0_ok r1_Shl_L0_v a n
def r1_Shl (a : List Bool) (n : Int) : (List Bool) := (r1_Shl_t a n).val
def r1_Shl_s (a : List Bool) (n : Int) : Bool := (r1_Shl_t a n).safe
def r1_Len_L0_T  (v0 : List Bool) (_v2 : Int) (v3 : Int) : Tr ((Int) ⊕ (Int)) :=
  Tr.br (decide (v3 > 0))
    (Tr.ast (and (decide (0 ≤ IntKind.i64.wrap (v3 - 1))) (decide (IntKind.i64.wrap (v3 - 1) < (v0.length : Int))))
      (Tr.br (!v0.getD (IntKind.i64.wrap (v3 - 1)).toNat false) (Tr.leaf (Sum.inl (IntKind.i64.wrap (v3 - 1))))
        (Tr.leaf (Sum.inr v3))))
    (Tr.leaf (Sum.inr v3))
def r1_Len_L0_step (p : (List Bool) × Int) (x : Int) : Tr ((Int) ⊕ (Int)) := r1_Len_L0_T  p.1 p.2 x
def r1_Len_L0_r (p : (List Bool) × Int) (x : Int) : Option (Int) := runB (r1_Len_L0_step p) x
def r1_Len_L0_v (p : (List Bool) × Int) (x : Int) : Int := (r1_Len_L0_r p x).getD x
def r1_Len_L0_ok (p : (List Bool) × Int) (x : Int) : Bool := (r1_Len_L0_r p x).isSome
def r1_Len_T (r1_Len_L0_ok : ((List Bool) × Int) → Int → Bool) (r1_Len_L0_v : ((List Bool) × Int) → Int → Int) (a : List Bool) : Tr (Int) :=
  Tr.ast (r1_Len_L0_ok (a, 0) (a.length : Int)) (Tr.leaf (r1_Len_L0_v (a, 0) (a.length : Int)))
def r1_Len_t (a : List Bool) : Tr (Int) := r1_Len_T r1_Len_L0_ok r1_Len_L0_v a
def r1_Len (a : List Bool) : Int := (r1_Len_t a).val
def r1_Len_s (a : List Bool) : Bool := (r1_Len_t a).safe
def r1_Div_L0_T (r1_Cmp : (List Bool) → (List Bool) → Int) (r1_Cmp_s : (List Bool) → (List Bool) → Bool) (r1_Sub : (List Bool) → (List Bool) → Int → (List Bool) × Bool) (r1_Sub_s : (List Bool) → (List Bool) → Int → Bool) (r1_Len : (List Bool) → Int) (r1_Len_s : (List Bool) → Bool) (v0 : List Bool) (v1 : List Bool) (v7 : List Bool) (v8 : Int) (h0 : List Bool) : Tr (((List Bool) × Int × (List Bool)) ⊕ ((List Bool) × Int × (List Bool))) :=
  let t0 : List Bool := [v0.getD v8.toNat false];
  let t1 : Int := IntKind.i64.wrap (v8 - 1);
  let t2 : Bool := decide (0 ≤ v8);
  let t3 : List Bool := t0 ++ v7;
  let t4 : Int := r1_Cmp t3 v1;
  let t5 : Int := (t3.length : Int);
  let t6 : Nat := (t0.length + v7.length) * 1;
  let t7 : Int := (some (r1_Len t3)).getD t5;
  let t8 : List Bool := (r1_Sub t3 v1 t5).fst;
  let t9 : Int := (t8.length : Int);
  let t10 : Int := (some (r1_Len t8)).getD t9;
  Tr.br (decide (v8 ≥ 0))
    (Tr.ast (and t2 (decide (v8 < (v0.length : Int))))
      (Tr.ast (decide (t6 ≤ 140737488355328))
        (Tr.ast (r1_Cmp_s t3 v1)
          (Tr.br (decide (t4 ≥ 0))
            (Tr.ast (r1_Sub_s t3 v1 t5)
              (Tr.ast (and t2 (decide (v8 < (h0.length : Int))))
                (Tr.ast (r1_Len_s t8)
                  (Tr.ast (and (decide (0 ≤ t10)) (decide (t10 ≤ t9)))
                    (Tr.leaf
                      (Sum.inl
                        (List.take (t10.toNat - Int.toNat 0) (List.drop (Int.toNat 0) t8), t1, h0.set v8.toNat true)))))))
            (Tr.ast (r1_Len_s t3)
              (Tr.ast (and (decide (0 ≤ t7)) (decide (t7 ≤ t5)))
                (Tr.leaf (Sum.inl (List.take (t7.toNat - Int.toNat 0) (List.drop (Int.toNat 0) t3), t1, h0)))))))))
    (Tr.leaf (Sum.inr (v7, v8, h0)))
def r1_Div_L0_step (p : (List Bool) × (List Bool)) (x : (List Bool) × Int × (List Bool)) : Tr (((List Bool) × Int × (List Bool)) ⊕ ((List Bool) × Int × (List Bool))) := r1_Div_L0_T r1_Cmp r1_Cmp_s r1_Sub r1_Sub_s r1_Len r1_Len_s p.1 p.2 x.1 x.2.1 x.2.2
def r1_Div_L0_r (p : (List Bool) × (List Bool)) (x : (List Bool) × Int × (List Bool)) : Option ((List Bool) × Int × (List Bool)) := runB (r1_Div_L0_step p) x
def r1_Div_L0_v (p : (List Bool) × (List Bool)) (x : (List Bool) × Int × (List Bool)) : (List Bool) × Int × (List Bool) := (r1_Div_L0_r p x).getD x
def r1_Div_L0_ok (p : (List Bool) × (List Bool)) (x : (List Bool) × Int × (List Bool)) : Bool := (r1_Div_L0_r p x).isSome
def r1_Div_T (r1_Div_L0_ok : ((List Bool) × (List Bool)) → ((List Bool) × Int × (List Bool)) → Bool) (r1_Div_L0_v : ((List Bool) × (List Bool)) → ((List Bool) × Int × (List Bool)) → (List Bool) × Int × (List Bool)) (a : List Bool) (b : List Bool) : Tr ((List Bool) × (List Bool)) :=
  Tr.ast (and (decide ((a.length : Int) ≤ (a.length : Int))) (decide ((1 : Int) * (a.length : Int) ≤ 281474976710656)))
    (Tr.ast (r1_Div_L0_ok (a, b) ([], IntKind.i64.wrap ((a.length : Int) - 1), List.replicate ((a.length : Int)).toNat false))
      (Tr.leaf
        ((r1_Div_L0_v (a, b) ([], IntKind.i64.wrap ((a.length : Int) - 1), List.replicate ((a.length : Int)).toNat false)).snd.snd,
          (r1_Div_L0_v (a, b) ([], IntKind.i64.wrap ((a.length : Int) - 1), List.replicate ((a.length : Int)).toNat false)).fst)))
def r1_Div_t (a : List Bool) (b : List Bool) : Tr ((List Bool) × (List Bool)) := r1_Div_T r1_Div_L0_ok r1_Div_L0_v a b
def r1_Div (a : List Bool) (b : List Bool) : (List Bool) × (List Bool) := (r1_Div_t a b).val
def r1_Div_s (a : List Bool) (b : List Bool) : Bool := (r1_Div_t a b).safe
end Go.Fb
namespace Go.Fb
open Go.Ev
end Go.Fb
