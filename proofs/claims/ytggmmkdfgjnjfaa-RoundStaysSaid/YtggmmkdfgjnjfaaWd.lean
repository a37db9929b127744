/- Layer 1: what the functions compute, as definitions. Conditions: none. -/
import Derived.Test.YtggmmkdfgjnjfaaEd
namespace Go.Fb
open Go.Ev
def len8 := ByteArray.mk (([0, 1, 2, 2, 3, 3, 3, 3, 4, 4, 4, 4, 4, 4, 4, 4, 5, 5, 5, 5, 5, 5, 5, 5, 5, 5, 5, 5, 5, 5, 5, 5, 6, 6, 6, 6, 6, 6, 6, 6, 6, 6, 6, 6, 6, 6, 6, 6, 6, 6, 6, 6, 6, 6, 6, 6, 6, 6, 6, 6, 6, 6, 6, 6].append [7, 7, 7, 7, 7, 7, 7, 7, 7, 7, 7, 7, 7, 7, 7, 7, 7, 7, 7, 7, 7, 7, 7, 7, 7, 7, 7, 7, 7, 7, 7, 7, 7, 7, 7, 7, 7, 7, 7, 7, 7, 7, 7, 7, 7, 7, 7, 7, 7, 7, 7, 7, 7, 7, 7, 7, 7, 7, 7, 7, 7, 7, 7, 7]).append ([8, 8, 8, 8, 8, 8, 8, 8, 8, 8, 8, 8, 8, 8, 8, 8, 8, 8, 8, 8, 8, 8, 8, 8, 8, 8, 8, 8, 8, 8, 8, 8, 8, 8, 8, 8, 8, 8, 8, 8, 8, 8, 8, 8, 8, 8, 8, 8, 8, 8, 8, 8, 8, 8, 8, 8, 8, 8, 8, 8, 8, 8, 8, 8].append [8, 8, 8, 8, 8, 8, 8, 8, 8, 8, 8, 8, 8, 8, 8, 8, 8, 8, 8, 8, 8, 8, 8, 8, 8, 8, 8, 8, 8, 8, 8, 8, 8, 8, 8, 8, 8, 8, 8, 8, 8, 8, 8, 8, 8, 8, 8, 8, 8, 8, 8, 8, 8, 8, 8, 8, 8, 8, 8, 8, 8, 8, 8, 8])).toArray
def bits_Len64_T  (x : Int) : Tr (Int) :=
  let t0 : Int := shrI IntKind.u64 x 16;
  let t1 : Int := shrI IntKind.u64 x 32;
  let t2 : Int := IntKind.u8.wrap t1;
  let t3 : Int := IntKind.u8.wrap (shrI IntKind.u64 x 8);
  let t4 : Int := IntKind.u8.wrap t0;
  let t5 : Int := shrI IntKind.u64 t1 16;
  let t6 : Int := IntKind.u8.wrap (shrI IntKind.u64 t0 8);
  let t7 : Int := IntKind.u8.wrap t5;
  let t8 : Int := IntKind.u8.wrap (shrI IntKind.u64 t1 8);
  let t9 : Int := IntKind.i64.wrap (0 + 16);
  let t10 : Int := IntKind.i64.wrap (32 + 16);
  let t11 : Int := IntKind.u8.wrap (shrI IntKind.u64 t5 8);
  let t12 : Int :=
    (len8.size : Int);
  Tr.br (decide (x ≥ 4294967296))
    (Tr.br (decide (t1 ≥ 65536))
      (Tr.br (decide (t5 ≥ 256))
        (Tr.ast (and (decide (0 ≤ t11)) (decide (t11 < t12)))
          (Tr.leaf
            (IntKind.i64.wrap
              (IntKind.i64.wrap (t10 + 8) +
                IntKind.i64.wrap
                  (strAt
                    len8
                    t11)))))
        (Tr.ast (and (decide (0 ≤ t7)) (decide (t7 < t12)))
          (Tr.leaf
            (IntKind.i64.wrap
              (t10 +
                IntKind.i64.wrap
                  (strAt
                    len8
                    t7))))))
      (Tr.br (decide (t1 ≥ 256))
        (Tr.ast (and (decide (0 ≤ t8)) (decide (t8 < t12)))
          (Tr.leaf
            (IntKind.i64.wrap
              (IntKind.i64.wrap (32 + 8) +
                IntKind.i64.wrap
                  (strAt
                    len8
                    t8)))))
        (Tr.ast (and (decide (0 ≤ t2)) (decide (t2 < t12)))
          (Tr.leaf
            (IntKind.i64.wrap
              (32 +
                IntKind.i64.wrap
                  (strAt
                    len8
                    t2)))))))
    (Tr.br (decide (x ≥ 65536))
      (Tr.br (decide (t0 ≥ 256))
        (Tr.ast (and (decide (0 ≤ t6)) (decide (t6 < t12)))
          (Tr.leaf
            (IntKind.i64.wrap
              (IntKind.i64.wrap (t9 + 8) +
                IntKind.i64.wrap
                  (strAt
                    len8
                    t6)))))
        (Tr.ast (and (decide (0 ≤ t4)) (decide (t4 < t12)))
          (Tr.leaf
            (IntKind.i64.wrap
              (t9 +
                IntKind.i64.wrap
                  (strAt
                    len8
                    t4))))))
      (Tr.br (decide (x ≥ 256))
        (Tr.ast (and (decide (0 ≤ t3)) (decide (t3 < t12)))
          (Tr.leaf
            (IntKind.i64.wrap
              (IntKind.i64.wrap (0 + 8) +
                IntKind.i64.wrap
                  (strAt
                    len8
                    t3)))))
        (Tr.ast (and (decide (0 ≤ IntKind.u8.wrap x)) (decide (IntKind.u8.wrap x < t12)))
          (Tr.leaf
            (IntKind.i64.wrap
              (0 +
                IntKind.i64.wrap
                  (strAt
                    len8
                    (IntKind.u8.wrap x))))))))
def bits_Len64_t (x : Int) : Tr (Int) := bits_Len64_T  x
def bits_Len64 (x : Int) : Int := (bits_Len64_t x).val
def u2_Len_T (bits_Len64 : Int → Int) (a : U2) : Tr (Int) :=
  Tr.br (decide (a.hi > 0)) (Tr.leaf (IntKind.i64.wrap (64 + bits_Len64 a.hi))) (Tr.leaf (bits_Len64 a.lo))
def u2_Len_t (a : U2) : Tr (Int) := u2_Len_T bits_Len64 a
def u2_Len (a : U2) : Int := (u2_Len_t a).val
def u2_Shl_L0_T  (_h1_0 : Int) (_h1_1 : Int) (v1 : Int) (h0_0 : Int) (h0_1 : Int) : Tr ((Int × Int × Int) ⊕ ((Int × Int × Int) ⊕ (Int × Int))) :=
  Tr.br (decide (v1 ≥ 64))
    (Tr.br (and (h0_1 == 0) true) (Tr.leaf (Sum.inr (Sum.inr (h0_1, 0))))
      (Tr.leaf (Sum.inl (IntKind.i64.wrap (v1 - 64), h0_1, 0))))
    (Tr.leaf (Sum.inr (Sum.inl (v1, h0_0, h0_1))))
def u2_Shl_L0_step (p : Int × Int) (x : Int × Int × Int) : Tr ((Int × Int × Int) ⊕ ((Int × Int × Int) ⊕ (Int × Int))) := u2_Shl_L0_T  p.1 p.2 x.1 x.2.1 x.2.2
def u2_Shl_L0_r (p : Int × Int) (x : Int × Int × Int) : Option ((Int × Int × Int) ⊕ (Int × Int)) := runB (u2_Shl_L0_step p) x
def u2_Shl_L0_rt (p : Int × Int) (x : Int × Int × Int) : Bool := isR (u2_Shl_L0_r p x)
def u2_Shl_L0_v (p : Int × Int) (x : Int × Int × Int) : Int × Int × Int := outL_ x (u2_Shl_L0_r p x)
def u2_Shl_L0_rv (p : Int × Int) (x : Int × Int × Int) : Int × Int := outR_ (0, 0) (u2_Shl_L0_r p x)
def u2_Shl_L0_ok (p : Int × Int) (x : Int × Int × Int) : Bool := (u2_Shl_L0_r p x).isSome
def u2_Shl_T (u2_Shl_L0_ok : (Int × Int) → (Int × Int × Int) → Bool) (u2_Shl_L0_rt : (Int × Int) → (Int × Int × Int) → Bool) (u2_Shl_L0_v : (Int × Int) → (Int × Int × Int) → Int × Int × Int) (u2_Shl_L0_rv : (Int × Int) → (Int × Int × Int) → Int × Int) (a : U2) (n : Int) : Tr (U2) :=
  Tr.ast (u2_Shl_L0_ok (0, 0) (n, a.hi, a.lo))
    (Tr.br (u2_Shl_L0_rt (0, 0) (n, a.hi, a.lo))
      (Tr.leaf (U2.mk (u2_Shl_L0_rv (0, 0) (n, a.hi, a.lo)).fst (u2_Shl_L0_rv (0, 0) (n, a.hi, a.lo)).snd))
      (Tr.br (decide ((u2_Shl_L0_v (0, 0) (n, a.hi, a.lo)).fst ≤ 0))
        (Tr.leaf (U2.mk (u2_Shl_L0_v (0, 0) (n, a.hi, a.lo)).snd.fst (u2_Shl_L0_v (0, 0) (n, a.hi, a.lo)).snd.snd))
        (Tr.ast (decide (0 ≤ (u2_Shl_L0_v (0, 0) (n, a.hi, a.lo)).fst))
          (Tr.ast (decide (0 ≤ IntKind.i64.wrap (64 - (u2_Shl_L0_v (0, 0) (n, a.hi, a.lo)).fst)))
            (Tr.ast (decide (0 ≤ (u2_Shl_L0_v (0, 0) (n, a.hi, a.lo)).fst))
              (Tr.leaf
                (U2.mk
                  (bitsI BinOp.or IntKind.u64
                    (shlI IntKind.u64 (u2_Shl_L0_v (0, 0) (n, a.hi, a.lo)).snd.fst
                      (u2_Shl_L0_v (0, 0) (n, a.hi, a.lo)).fst)
                    (shrI IntKind.u64 (u2_Shl_L0_v (0, 0) (n, a.hi, a.lo)).snd.snd
                      (IntKind.i64.wrap (64 - (u2_Shl_L0_v (0, 0) (n, a.hi, a.lo)).fst))))
                  (shlI IntKind.u64 (u2_Shl_L0_v (0, 0) (n, a.hi, a.lo)).snd.snd
                    (u2_Shl_L0_v (0, 0) (n, a.hi, a.lo)).fst))))))))
def u2_Shl_t (a : U2) (n : Int) : Tr (U2) := u2_Shl_T u2_Shl_L0_ok u2_Shl_L0_rt u2_Shl_L0_v u2_Shl_L0_rv a n
def u2_Shl (a : U2) (n : Int) : U2 := (u2_Shl_t a n).val
def u2_Shl_s (a : U2) (n : Int) : Bool := (u2_Shl_t a n).safe
def u2_Shr_L0_T  (_v5 : Bool) (_h1_0 : Int) (_h1_1 : Int) (v1 : Int) (v6 : Bool) (h0_0 : Int) (h0_1 : Int) : Tr ((Int × Bool × Int × Int) ⊕ ((Int × Bool × Int × Int) ⊕ (Bool × Int × Int))) :=
  Tr.br (decide (v1 ≥ 64))
    (Tr.br v6
      (Tr.br (and (h0_0 == 0) true) (Tr.leaf (Sum.inr (Sum.inr (true, 0, h0_0))))
        (Tr.leaf (Sum.inl (IntKind.i64.wrap (v1 - 64), true, 0, h0_0))))
      (Tr.br (and (h0_0 == 0) true) (Tr.leaf (Sum.inr (Sum.inr (h0_1 != 0, 0, h0_0))))
        (Tr.leaf (Sum.inl (IntKind.i64.wrap (v1 - 64), h0_1 != 0, 0, h0_0)))))
    (Tr.leaf (Sum.inr (Sum.inl (v1, v6, h0_0, h0_1))))
def u2_Shr_L0_step (p : Bool × Int × Int) (x : Int × Bool × Int × Int) : Tr ((Int × Bool × Int × Int) ⊕ ((Int × Bool × Int × Int) ⊕ (Bool × Int × Int))) := u2_Shr_L0_T  p.1 p.2.1 p.2.2 x.1 x.2.1 x.2.2.1 x.2.2.2
def u2_Shr_L0_r (p : Bool × Int × Int) (x : Int × Bool × Int × Int) : Option ((Int × Bool × Int × Int) ⊕ (Bool × Int × Int)) := runB (u2_Shr_L0_step p) x
def u2_Shr_L0_rt (p : Bool × Int × Int) (x : Int × Bool × Int × Int) : Bool := isR (u2_Shr_L0_r p x)
def u2_Shr_L0_v (p : Bool × Int × Int) (x : Int × Bool × Int × Int) : Int × Bool × Int × Int := outL_ x (u2_Shr_L0_r p x)
def u2_Shr_L0_rv (p : Bool × Int × Int) (x : Int × Bool × Int × Int) : Bool × Int × Int := outR_ (false, 0, 0) (u2_Shr_L0_r p x)
def u2_Shr_L0_ok (p : Bool × Int × Int) (x : Int × Bool × Int × Int) : Bool := (u2_Shr_L0_r p x).isSome
def u2_Shr_T (u2_Shr_L0_ok : (Bool × Int × Int) → (Int × Bool × Int × Int) → Bool) (u2_Shr_L0_rt : (Bool × Int × Int) → (Int × Bool × Int × Int) → Bool) (u2_Shr_L0_v : (Bool × Int × Int) → (Int × Bool × Int × Int) → Int × Bool × Int × Int) (u2_Shr_L0_rv : (Bool × Int × Int) → (Int × Bool × Int × Int) → Bool × Int × Int) (a : U2) (n : Int) : Tr (U2 × Bool) :=
  let t0 : Bool × Int × Int := (false, 0, 0);
  let t1 : Int × Bool × Int × Int := (n, false, a.hi, a.lo);
  let t2 : Int × Bool × Int × Int := u2_Shr_L0_v t0 t1;
  let t3 : Bool × Int × Int := u2_Shr_L0_rv t0 t1;
  let t4 : Int × Int := t3.snd;
  let t5 : Int := t2.fst;
  let t6 : Bool × Int × Int := t2.snd;
  let t7 : Int × Int := t6.snd;
  let t8 : Bool := t6.fst;
  let t9 : Int := t7.fst;
  let t10 : Int := t7.snd;
  let t11 : Int := IntKind.i64.wrap (64 - t5);
  let t12 : Bool := decide (0 ≤ t5);
  let t13 : Bool := decide (0 ≤ t11);
  let t14 : U2 :=
    U2.mk (shrI IntKind.u64 t9 t5) (bitsI BinOp.or IntKind.u64 (shrI IntKind.u64 t10 t5) (shlI IntKind.u64 t9 t11));
  Tr.ast (u2_Shr_L0_ok t0 t1)
    (Tr.br (u2_Shr_L0_rt t0 t1) (Tr.leaf (U2.mk t4.fst t4.snd, t3.fst))
      (Tr.br (decide (t5 ≤ 0)) (Tr.leaf (U2.mk t9 t10, t8))
        (Tr.ast t12
          (Tr.ast t12
            (Tr.ast t13 (Tr.br t8 (Tr.leaf (t14, true)) (Tr.ast t13 (Tr.leaf (t14, shlI IntKind.u64 t10 t11 != 0)))))))))
def u2_Shr_t (a : U2) (n : Int) : Tr (U2 × Bool) := u2_Shr_T u2_Shr_L0_ok u2_Shr_L0_rt u2_Shr_L0_v u2_Shr_L0_rv a n
def u2_Shr (a : U2) (n : Int) : U2 × Bool := (u2_Shr_t a n).val
def u2_Shr_s (a : U2) (n : Int) : Bool := (u2_Shr_t a n).safe
end Go.Fb
namespace Go.Fb
open Go.Ev
def r1_Of1_L1_T  (v0 : List Int) (v4 : Int) (_v6 : Int) (_v7 : List Int) (_v8 : Int) (_v9 : Bool) (v5 : Int) (h0 : List Bool) : Tr ((Int × (List Bool)) ⊕ (Int × (List Bool))) :=
  Tr.br (decide (v5 < 64))
    (Tr.ast (and (decide (0 ≤ v4)) (decide (v4 < (v0.length : Int))))
      (Tr.ast (decide (0 ≤ IntKind.u64.wrap v5))
        (Tr.ast
          (decide
            ((h0.length +
                  [bitsI BinOp.and IntKind.u64 (shrI IntKind.u64 (v0.getD v4.toNat 0) (IntKind.u64.wrap v5)) 1 ==
                        1].length) *
                1 ≤
              140737488355328))
          (Tr.leaf
            (Sum.inl
              (IntKind.i64.wrap (v5 + 1),
                h0 ++
                  [bitsI BinOp.and IntKind.u64 (shrI IntKind.u64 (v0.getD v4.toNat 0) (IntKind.u64.wrap v5)) 1 == 1]))))))
    (Tr.leaf (Sum.inr (v5, h0)))
def r1_Of1_L1_step (p : (List Int) × Int × Int × (List Int) × Int × Bool) (x : Int × (List Bool)) : Tr ((Int × (List Bool)) ⊕ (Int × (List Bool))) := r1_Of1_L1_T  p.1 p.2.1 p.2.2.1 p.2.2.2.1 p.2.2.2.2.1 p.2.2.2.2.2 x.1 x.2
def r1_Of1_L1_r (p : (List Int) × Int × Int × (List Int) × Int × Bool) (x : Int × (List Bool)) : Option (Int × (List Bool)) := runB (r1_Of1_L1_step p) x
def r1_Of1_L1_v (p : (List Int) × Int × Int × (List Int) × Int × Bool) (x : Int × (List Bool)) : Int × (List Bool) := (r1_Of1_L1_r p x).getD x
def r1_Of1_L1_ok (p : (List Int) × Int × Int × (List Int) × Int × Bool) (x : Int × (List Bool)) : Bool := (r1_Of1_L1_r p x).isSome
def r1_Of1_T (r1_Of1_L1_ok : ((List Int) × Int × Int × (List Int) × Int × Bool) → (Int × (List Bool)) → Bool) (r1_Of1_L1_v : ((List Int) × Int × Int × (List Int) × Int × Bool) → (Int × (List Bool)) → Int × (List Bool)) (l : Int) : Tr ((List Bool)) :=
  Tr.ast (r1_Of1_L1_ok (to1 l, 0, 0, to1 l, ((to1 l).length : Int), true) (0, []))
    (Tr.leaf (r1_Of1_L1_v (to1 l, 0, 0, to1 l, ((to1 l).length : Int), true) (0, [])).snd)
def r1_Of1_t (l : Int) : Tr ((List Bool)) := r1_Of1_T r1_Of1_L1_ok r1_Of1_L1_v l
def r1_Of1 (l : Int) : (List Bool) := (r1_Of1_t l).val
def r1_Of1_s (l : Int) : Bool := (r1_Of1_t l).safe
def r1_Of2_L1_T  (v0 : List Int) (v4 : Int) (_v6 : Int) (_v7 : List Int) (_v8 : Int) (_v9 : Bool) (v5 : Int) (h0 : List Bool) : Tr ((Int × (List Bool)) ⊕ (Int × (List Bool))) :=
  Tr.br (decide (v5 < 64))
    (Tr.ast (and (decide (0 ≤ v4)) (decide (v4 < (v0.length : Int))))
      (Tr.ast (decide (0 ≤ IntKind.u64.wrap v5))
        (Tr.ast
          (decide
            ((h0.length +
                  [bitsI BinOp.and IntKind.u64 (shrI IntKind.u64 (v0.getD v4.toNat 0) (IntKind.u64.wrap v5)) 1 ==
                        1].length) *
                1 ≤
              140737488355328))
          (Tr.leaf
            (Sum.inl
              (IntKind.i64.wrap (v5 + 1),
                h0 ++
                  [bitsI BinOp.and IntKind.u64 (shrI IntKind.u64 (v0.getD v4.toNat 0) (IntKind.u64.wrap v5)) 1 == 1]))))))
    (Tr.leaf (Sum.inr (v5, h0)))
def r1_Of2_L1_step (p : (List Int) × Int × Int × (List Int) × Int × Bool) (x : Int × (List Bool)) : Tr ((Int × (List Bool)) ⊕ (Int × (List Bool))) := r1_Of2_L1_T  p.1 p.2.1 p.2.2.1 p.2.2.2.1 p.2.2.2.2.1 p.2.2.2.2.2 x.1 x.2
def r1_Of2_L1_r (p : (List Int) × Int × Int × (List Int) × Int × Bool) (x : Int × (List Bool)) : Option (Int × (List Bool)) := runB (r1_Of2_L1_step p) x
def r1_Of2_L1_v (p : (List Int) × Int × Int × (List Int) × Int × Bool) (x : Int × (List Bool)) : Int × (List Bool) := (r1_Of2_L1_r p x).getD x
def r1_Of2_L1_ok (p : (List Int) × Int × Int × (List Int) × Int × Bool) (x : Int × (List Bool)) : Bool := (r1_Of2_L1_r p x).isSome
def r1_Of2_T (r1_Of2_L1_ok : ((List Int) × Int × Int × (List Int) × Int × Bool) → (Int × (List Bool)) → Bool) (r1_Of2_L1_v : ((List Int) × Int × Int × (List Int) × Int × Bool) → (Int × (List Bool)) → Int × (List Bool)) (l : Int × Int) : Tr ((List Bool)) :=
  Tr.ast (r1_Of2_L1_ok (to2 l, 0, 0, to2 l, ((to2 l).length : Int), true) (0, []))
    (Tr.ast
      (r1_Of2_L1_ok (to2 l, IntKind.i64.wrap (0 + 1), IntKind.i64.wrap (0 + 1), to2 l, ((to2 l).length : Int), true)
        (0, (r1_Of2_L1_v (to2 l, 0, 0, to2 l, ((to2 l).length : Int), true) (0, [])).snd))
      (Tr.leaf
        (r1_Of2_L1_v (to2 l, IntKind.i64.wrap (0 + 1), IntKind.i64.wrap (0 + 1), to2 l, ((to2 l).length : Int), true)
            (0, (r1_Of2_L1_v (to2 l, 0, 0, to2 l, ((to2 l).length : Int), true) (0, [])).snd)).snd))
def r1_Of2_t (l : Int × Int) : Tr ((List Bool)) := r1_Of2_T r1_Of2_L1_ok r1_Of2_L1_v l
def r1_Of2 (l : Int × Int) : (List Bool) := (r1_Of2_t l).val
def r1_Of2_s (l : Int × Int) : Bool := (r1_Of2_t l).safe
def r1_bit_T  (a : List Bool) (i : Int) : Tr (Bool) :=
  Tr.br (decide (i ≥ 0))
    (Tr.br (decide (i < (a.length : Int)))
      (Tr.ast (and (decide (0 ≤ i)) (decide (i < (a.length : Int)))) (Tr.leaf (a.getD i.toNat false))) (Tr.leaf false))
    (Tr.leaf false)
def r1_bit_t (a : List Bool) (i : Int) : Tr (Bool) := r1_bit_T  a i
def r1_bit (a : List Bool) (i : Int) : Bool := (r1_bit_t a i).val
def r1_bit_s (a : List Bool) (i : Int) : Bool := (r1_bit_t a i).safe
def r1_Add_L0_T (r1_bit : (List Bool) → Int → Bool) (r1_bit_s : (List Bool) → Int → Bool) (v0 : List Bool) (v1 : List Bool) (v6 : Bool) (v7 : Int) (h0 : List Bool) : Tr ((Bool × Int × (List Bool)) ⊕ (Bool × Int × (List Bool))) :=
  let t0 : List Bool := [!(!r1_bit v0 v7 == r1_bit v1 v7) == v6];
  let t1 : Nat := (h0.length + t0.length) * 1;
  let t2 : Int × List Bool := (IntKind.i64.wrap (v7 + 1), h0 ++ t0);
  Tr.br (decide (v7 < (v0.length : Int)))
    (Tr.ast (r1_bit_s v0 v7)
      (Tr.ast (r1_bit_s v1 v7)
        (Tr.ast (decide (t1 ≤ 140737488355328))
          (Tr.br (r1_bit v0 v7)
            (Tr.br (r1_bit v1 v7) (Tr.leaf (Sum.inl (true, t2)))
              (Tr.br (r1_bit v0 v7)
                (Tr.br v6 (Tr.leaf (Sum.inl (true, t2)))
                  (Tr.br (r1_bit v1 v7) (Tr.leaf (Sum.inl (v6, t2))) (Tr.leaf (Sum.inl (false, t2)))))
                (Tr.br (r1_bit v1 v7) (Tr.leaf (Sum.inl (v6, t2))) (Tr.leaf (Sum.inl (false, t2))))))
            (Tr.br (r1_bit v0 v7)
              (Tr.br v6 (Tr.leaf (Sum.inl (true, t2)))
                (Tr.br (r1_bit v1 v7) (Tr.leaf (Sum.inl (v6, t2))) (Tr.leaf (Sum.inl (false, t2)))))
              (Tr.br (r1_bit v1 v7) (Tr.leaf (Sum.inl (v6, t2))) (Tr.leaf (Sum.inl (false, t2)))))))))
    (Tr.br (decide (v7 < (v1.length : Int)))
      (Tr.ast (r1_bit_s v0 v7)
        (Tr.ast (r1_bit_s v1 v7)
          (Tr.ast (decide (t1 ≤ 140737488355328))
            (Tr.br (r1_bit v0 v7)
              (Tr.br (r1_bit v1 v7) (Tr.leaf (Sum.inl (true, t2)))
                (Tr.br (r1_bit v0 v7)
                  (Tr.br v6 (Tr.leaf (Sum.inl (true, t2)))
                    (Tr.br (r1_bit v1 v7) (Tr.leaf (Sum.inl (v6, t2))) (Tr.leaf (Sum.inl (false, t2)))))
                  (Tr.br (r1_bit v1 v7) (Tr.leaf (Sum.inl (v6, t2))) (Tr.leaf (Sum.inl (false, t2))))))
              (Tr.br (r1_bit v0 v7)
                (Tr.br v6 (Tr.leaf (Sum.inl (true, t2)))
                  (Tr.br (r1_bit v1 v7) (Tr.leaf (Sum.inl (v6, t2))) (Tr.leaf (Sum.inl (false, t2)))))
                (Tr.br (r1_bit v1 v7) (Tr.leaf (Sum.inl (v6, t2))) (Tr.leaf (Sum.inl (false, t2)))))))))
      (Tr.br v6
        (Tr.ast (r1_bit_s v0 v7)
          (Tr.ast (r1_bit_s v1 v7)
            (Tr.ast (decide (t1 ≤ 140737488355328))
              (Tr.br (r1_bit v0 v7)
                (Tr.br (r1_bit v1 v7) (Tr.leaf (Sum.inl (true, t2)))
                  (Tr.br (r1_bit v0 v7)
                    (Tr.br v6 (Tr.leaf (Sum.inl (true, t2)))
                      (Tr.br (r1_bit v1 v7) (Tr.leaf (Sum.inl (v6, t2))) (Tr.leaf (Sum.inl (false, t2)))))
                    (Tr.br (r1_bit v1 v7) (Tr.leaf (Sum.inl (v6, t2))) (Tr.leaf (Sum.inl (false, t2))))))
                (Tr.br (r1_bit v0 v7)
                  (Tr.br v6 (Tr.leaf (Sum.inl (true, t2)))
                    (Tr.br (r1_bit v1 v7) (Tr.leaf (Sum.inl (v6, t2))) (Tr.leaf (Sum.inl (false, t2)))))
                  (Tr.br (r1_bit v1 v7) (Tr.leaf (Sum.inl (v6, t2))) (Tr.leaf (Sum.inl (false, t2)))))))))
        (Tr.leaf (Sum.inr (v6, v7, h0)))))
def r1_Add_L0_step (p : (List Bool) × (List Bool)) (x : Bool × Int × (List Bool)) : Tr ((Bool × Int × (List Bool)) ⊕ (Bool × Int × (List Bool))) := r1_Add_L0_T r1_bit r1_bit_s p.1 p.2 x.1 x.2.1 x.2.2
def r1_Add_L0_r (p : (List Bool) × (List Bool)) (x : Bool × Int × (List Bool)) : Option (Bool × Int × (List Bool)) := runB (r1_Add_L0_step p) x
def r1_Add_L0_v (p : (List Bool) × (List Bool)) (x : Bool × Int × (List Bool)) : Bool × Int × (List Bool) := (r1_Add_L0_r p x).getD x
def r1_Add_L0_ok (p : (List Bool) × (List Bool)) (x : Bool × Int × (List Bool)) : Bool := (r1_Add_L0_r p x).isSome
def r1_Add_T (r1_Add_L0_ok : ((List Bool) × (List Bool)) → (Bool × Int × (List Bool)) → Bool) (r1_Add_L0_v : ((List Bool) × (List Bool)) → (Bool × Int × (List Bool)) → Bool × Int × (List Bool)) (a : List Bool) (b : List Bool) : Tr ((List Bool)) :=
  Tr.ast (r1_Add_L0_ok (a, b) (false, 0, [])) (Tr.leaf (r1_Add_L0_v (a, b) (false, 0, [])).snd.snd)
def r1_Add_t (a : List Bool) (b : List Bool) : Tr ((List Bool)) := r1_Add_T r1_Add_L0_ok r1_Add_L0_v a b
def r1_Add (a : List Bool) (b : List Bool) : (List Bool) := (r1_Add_t a b).val
def r1_Add_s (a : List Bool) (b : List Bool) : Bool := (r1_Add_t a b).safe
def r1_Cmp_L0_T (r1_bit : (List Bool) → Int → Bool) (r1_bit_s : (List Bool) → Int → Bool) (v0 : List Bool) (v1 : List Bool) (_v4 : Int) (v5 : Int) : Tr ((Int) ⊕ ((Int) ⊕ (Int))) :=
  Tr.br (decide (v5 ≥ 0))
    (Tr.ast (r1_bit_s v0 v5)
      (Tr.ast (r1_bit_s v1 v5)
        (Tr.br (!r1_bit v0 v5 == r1_bit v1 v5)
          (Tr.br (r1_bit v0 v5) (Tr.leaf (Sum.inr (Sum.inr 1))) (Tr.leaf (Sum.inr (Sum.inr (-1)))))
          (Tr.leaf (Sum.inl (IntKind.i64.wrap (v5 - 1)))))))
    (Tr.leaf (Sum.inr (Sum.inl v5)))
def r1_Cmp_L0_step (p : (List Bool) × (List Bool) × Int) (x : Int) : Tr ((Int) ⊕ ((Int) ⊕ (Int))) := r1_Cmp_L0_T r1_bit r1_bit_s p.1 p.2.1 p.2.2 x
def r1_Cmp_L0_r (p : (List Bool) × (List Bool) × Int) (x : Int) : Option ((Int) ⊕ (Int)) := runB (r1_Cmp_L0_step p) x
def r1_Cmp_L0_rt (p : (List Bool) × (List Bool) × Int) (x : Int) : Bool := isR (r1_Cmp_L0_r p x)
def r1_Cmp_L0_v (p : (List Bool) × (List Bool) × Int) (x : Int) : Int := outL_ x (r1_Cmp_L0_r p x)
def r1_Cmp_L0_rv (p : (List Bool) × (List Bool) × Int) (x : Int) : Int := outR_ 0 (r1_Cmp_L0_r p x)
def r1_Cmp_L0_ok (p : (List Bool) × (List Bool) × Int) (x : Int) : Bool := (r1_Cmp_L0_r p x).isSome
def r1_Cmp_T (r1_Cmp_L0_ok : ((List Bool) × (List Bool) × Int) → Int → Bool) (r1_Cmp_L0_rt : ((List Bool) × (List Bool) × Int) → Int → Bool) (r1_Cmp_L0_rv : ((List Bool) × (List Bool) × Int) → Int → Int) (a : List Bool) (b : List Bool) : Tr (Int) :=
  Tr.ast (r1_Cmp_L0_ok (a, b, 0) (IntKind.i64.wrap (imax (a.length : Int) (b.length : Int) - 1)))
    (Tr.br (r1_Cmp_L0_rt (a, b, 0) (IntKind.i64.wrap (imax (a.length : Int) (b.length : Int) - 1)))
      (Tr.leaf (r1_Cmp_L0_rv (a, b, 0) (IntKind.i64.wrap (imax (a.length : Int) (b.length : Int) - 1)))) (Tr.leaf 0))
def r1_Cmp_t (a : List Bool) (b : List Bool) : Tr (Int) := r1_Cmp_T r1_Cmp_L0_ok r1_Cmp_L0_rt r1_Cmp_L0_rv a b
def r1_Cmp (a : List Bool) (b : List Bool) : Int := (r1_Cmp_t a b).val
def r1_Cmp_s (a : List Bool) (b : List Bool) : Bool := (r1_Cmp_t a b).safe
def r1_Sub_L0_T (r1_bit : (List Bool) → Int → Bool) (r1_bit_s : (List Bool) → Int → Bool) (v0 : List Bool) (v1 : List Bool) (v2 : Int) (_v7 : Bool) (v9 : Bool) (v10 : Int) (h0 : List Bool) : Tr ((Bool × Int × (List Bool)) ⊕ (Bool × Int × (List Bool))) :=
  Tr.br (decide (v10 < v2))
    (Tr.ast (r1_bit_s v0 v10)
      (Tr.ast (r1_bit_s v1 v10)
        (Tr.ast (decide ((h0.length + [!(!r1_bit v0 v10 == r1_bit v1 v10) == v9].length) * 1 ≤ 140737488355328))
          (Tr.br (!r1_bit v0 v10)
            (Tr.br (r1_bit v1 v10)
              (Tr.leaf (Sum.inl (true, IntKind.i64.wrap (v10 + 1), h0 ++ [!(!r1_bit v0 v10 == r1_bit v1 v10) == v9])))
              (Tr.br v9
                (Tr.leaf (Sum.inl (true, IntKind.i64.wrap (v10 + 1), h0 ++ [!(!r1_bit v0 v10 == r1_bit v1 v10) == v9])))
                (Tr.br (r1_bit v0 v10)
                  (Tr.br (r1_bit v1 v10)
                    (Tr.leaf (Sum.inl (v9, IntKind.i64.wrap (v10 + 1), h0 ++ [!(!r1_bit v0 v10 == r1_bit v1 v10) == v9])))
                    (Tr.leaf
                      (Sum.inl (false, IntKind.i64.wrap (v10 + 1), h0 ++ [!(!r1_bit v0 v10 == r1_bit v1 v10) == v9]))))
                  (Tr.leaf
                    (Sum.inl (false, IntKind.i64.wrap (v10 + 1), h0 ++ [!(!r1_bit v0 v10 == r1_bit v1 v10) == v9]))))))
            (Tr.br (r1_bit v0 v10)
              (Tr.br (r1_bit v1 v10)
                (Tr.leaf (Sum.inl (v9, IntKind.i64.wrap (v10 + 1), h0 ++ [!(!r1_bit v0 v10 == r1_bit v1 v10) == v9])))
                (Tr.leaf (Sum.inl (false, IntKind.i64.wrap (v10 + 1), h0 ++ [!(!r1_bit v0 v10 == r1_bit v1 v10) == v9]))))
              (Tr.leaf
                (Sum.inl (false, IntKind.i64.wrap (v10 + 1), h0 ++ [!(!r1_bit v0 v10 == r1_bit v1 v10) == v9]))))))))
    (Tr.leaf (Sum.inr (v9, v10, h0)))
def r1_Sub_L0_step (p : (List Bool) × (List Bool) × Int × Bool) (x : Bool × Int × (List Bool)) : Tr ((Bool × Int × (List Bool)) ⊕ (Bool × Int × (List Bool))) := r1_Sub_L0_T r1_bit r1_bit_s p.1 p.2.1 p.2.2.1 p.2.2.2 x.1 x.2.1 x.2.2
def r1_Sub_L0_r (p : (List Bool) × (List Bool) × Int × Bool) (x : Bool × Int × (List Bool)) : Option (Bool × Int × (List Bool)) := runB (r1_Sub_L0_step p) x
def r1_Sub_L0_v (p : (List Bool) × (List Bool) × Int × Bool) (x : Bool × Int × (List Bool)) : Bool × Int × (List Bool) := (r1_Sub_L0_r p x).getD x
def r1_Sub_L0_ok (p : (List Bool) × (List Bool) × Int × Bool) (x : Bool × Int × (List Bool)) : Bool := (r1_Sub_L0_r p x).isSome
def r1_Sub_T (r1_Sub_L0_ok : ((List Bool) × (List Bool) × Int × Bool) → (Bool × Int × (List Bool)) → Bool) (r1_Sub_L0_v : ((List Bool) × (List Bool) × Int × Bool) → (Bool × Int × (List Bool)) → Bool × Int × (List Bool)) (a : List Bool) (b : List Bool) (n : Int) : Tr ((List Bool) × Bool) :=
  Tr.ast (r1_Sub_L0_ok (a, b, n, false) (false, 0, []))
    (Tr.leaf ((r1_Sub_L0_v (a, b, n, false) (false, 0, [])).snd.snd, (r1_Sub_L0_v (a, b, n, false) (false, 0, [])).fst))
def r1_Sub_t (a : List Bool) (b : List Bool) (n : Int) : Tr ((List Bool) × Bool) := r1_Sub_T r1_Sub_L0_ok r1_Sub_L0_v a b n
def r1_Sub (a : List Bool) (b : List Bool) (n : Int) : (List Bool) × Bool := (r1_Sub_t a b n).val
def r1_Sub_s (a : List Bool) (b : List Bool) (n : Int) : Bool := (r1_Sub_t a b n).safe
def r1_Shl_L0_T  (_v0 : List Bool) (v1 : Int) (v6 : Int) (h0 : List Bool) : Tr ((Int × (List Bool)) ⊕ (Int × (List Bool))) :=
  Tr.br (decide (v6 < v1))
    (Tr.ast (decide ((h0.length + [false].length) * 1 ≤ 140737488355328))
      (Tr.leaf (Sum.inl (IntKind.i64.wrap (v6 + 1), h0 ++ [false]))))
    (Tr.leaf (Sum.inr (v6, h0)))
def r1_Shl_L0_step (p : (List Bool) × Int) (x : Int × (List Bool)) : Tr ((Int × (List Bool)) ⊕ (Int × (List Bool))) := r1_Shl_L0_T  p.1 p.2 x.1 x.2
def r1_Shl_L0_r (p : (List Bool) × Int) (x : Int × (List Bool)) : Option (Int × (List Bool)) := runB (r1_Shl_L0_step p) x
def r1_Shl_L0_v (p : (List Bool) × Int) (x : Int × (List Bool)) : Int × (List Bool) := (r1_Shl_L0_r p x).getD x
def r1_Shl_L0_ok (p : (List Bool) × Int) (x : Int × (List Bool)) : Bool := (r1_Shl_L0_r p x).isSome
def r1_Shl_T (r1_Shl_L0_ok : ((List Bool) × Int) → (Int × (List Bool)) → Bool) (r1_Shl_L0_v : ((List Bool) × Int) → (Int × (List Bool)) → Int × (List Bool)) (a : List Bool) (n : Int) : Tr ((List Bool)) :=
  Tr.ast (r1_Shl_L0_ok (a, n) (0, []))
    (Tr.ast (decide (((r1_Shl_L0_v (a, n) (0, [])).snd.length + a.length) * 1 ≤ 140737488355328))
      (Tr.leaf ((r1_Shl_L0_v (a, n) (0, [])).snd ++ a)))
def r1_Shl_t (a : List Bool) (n : Int) : Tr ((List Bool)) := r1_Shl_T r1_Shl_L0_ok r1_Shl_L0_v a n
def r1_Shl (a : List Bool) (n : Int) : (List Bool) := (r1_Shl_t a n).val
def r1_Shl_s (a : List Bool) (n : Int) : Bool := (r1_Shl_t a n).safe
def r1_Mul_L0_T (r1_Shl : (List Bool) → Int → (List Bool)) (r1_Shl_s : (List Bool) → Int → Bool) (r1_Add : (List Bool) → (List Bool) → (List Bool)) (r1_Add_s : (List Bool) → (List Bool) → Bool) (v0 : List Bool) (v1 : List Bool) (v5 : List Bool) (v6 : Int) : Tr (((List Bool) × Int) ⊕ ((List Bool) × Int)) :=
  Tr.br (decide (v6 < (v1.length : Int)))
    (Tr.ast (and (decide (0 ≤ v6)) (decide (v6 < (v1.length : Int))))
      (Tr.br (v1.getD v6.toNat false)
        (Tr.ast (r1_Shl_s v0 v6)
          (Tr.ast (r1_Add_s v5 (r1_Shl v0 v6)) (Tr.leaf (Sum.inl (r1_Add v5 (r1_Shl v0 v6), IntKind.i64.wrap (v6 + 1))))))
        (Tr.leaf (Sum.inl (v5, IntKind.i64.wrap (v6 + 1))))))
    (Tr.leaf (Sum.inr (v5, v6)))
def r1_Mul_L0_step (p : (List Bool) × (List Bool)) (x : (List Bool) × Int) : Tr (((List Bool) × Int) ⊕ ((List Bool) × Int)) := r1_Mul_L0_T r1_Shl r1_Shl_s r1_Add r1_Add_s p.1 p.2 x.1 x.2
def r1_Mul_L0_r (p : (List Bool) × (List Bool)) (x : (List Bool) × Int) : Option ((List Bool) × Int) := runB (r1_Mul_L0_step p) x
def r1_Mul_L0_v (p : (List Bool) × (List Bool)) (x : (List Bool) × Int) : (List Bool) × Int := (r1_Mul_L0_r p x).getD x
def r1_Mul_L0_ok (p : (List Bool) × (List Bool)) (x : (List Bool) × Int) : Bool := (r1_Mul_L0_r p x).isSome
def r1_Mul_T (r1_Mul_L0_ok : ((List Bool) × (List Bool)) → ((List Bool) × Int) → Bool) (r1_Mul_L0_v : ((List Bool) × (List Bool)) → ((List Bool) × Int) → (List Bool) × Int) (a : List Bool) (b : List Bool) : Tr ((List Bool)) :=
  Tr.ast (r1_Mul_L0_ok (a, b) ([], 0)) (Tr.leaf (r1_Mul_L0_v (a, b) ([], 0)).fst)
def r1_Mul_t (a : List Bool) (b : List Bool) : Tr ((List Bool)) := r1_Mul_T r1_Mul_L0_ok r1_Mul_L0_v a b
def r1_Mul (a : List Bool) (b : List Bool) : (List Bool) := (r1_Mul_t a b).val
def r1_Mul_s (a : List Bool) (b : List Bool) : Bool := (r1_Mul_t a b).safe
def r1_Len_L0_T  (v0 : List Bool) (_v2 : Int) (v3 : Int) : Tr ((Int) ⊕ (Int)) :=
  Tr.br (decide (v3 > 0))
    (Tr.ast (and (decide (0 ≤ IntKind.i64.wrap (v3 - 1))) (decide (IntKind.i64.wrap (v3 - 1) < (v0.length : Int))))
      (Tr.br (!v0.getD (IntKind.i64.wrap (v3 - 1)).toNat false) (Tr.leaf (Sum.inl (IntKind.i64.wrap (v3 - 1))))
        (Tr.leaf (Sum.inr v3))))
    (Tr.leaf (Sum.inr v3))
def r1_Len_L0_step (p : (List Bool) × Int) (x : Int) : Tr ((Int) ⊕ (Int)) := r1_Len_L0_T  p.1 p.2 x
def r1_Len_L0_r (p : (List Bool) × Int) (x : Int) : Option (Int) := runB (r1_Len_L0_step p) x
def r1_Len_L0_v (p : (List Bool) × Int) (x : Int) : Int := (r1_Len_L0_r p x).getD x
def r1_Len_L0_ok (p : (List Bool) × Int) (x : Int) : Bool := (r1_Len_L0_r p x).isSome
def r1_Len_T (r1_Len_L0_ok : ((List Bool) × Int) → Int → Bool) (r1_Len_L0_v : ((List Bool) × Int) → Int → Int) (a : List Bool) : Tr (Int) :=
  Tr.ast (r1_Len_L0_ok (a, 0) (a.length : Int)) (Tr.leaf (r1_Len_L0_v (a, 0) (a.length : Int)))
def r1_Len_t (a : List Bool) : Tr (Int) := r1_Len_T r1_Len_L0_ok r1_Len_L0_v a
def r1_Len (a : List Bool) : Int := (r1_Len_t a).val
def r1_Len_s (a : List Bool) : Bool := (r1_Len_t a).safe
def r1_Div_L0_T (r1_Cmp : (List Bool) → (List Bool) → Int) (r1_Cmp_s : (List Bool) → (List Bool) → Bool) (r1_Sub : (List Bool) → (List Bool) → Int → (List Bool) × Bool) (r1_Sub_s : (List Bool) → (List Bool) → Int → Bool) (r1_Len : (List Bool) → Int) (r1_Len_s : (List Bool) → Bool) (v0 : List Bool) (v1 : List Bool) (v7 : List Bool) (v8 : Int) (h0 : List Bool) : Tr (((List Bool) × Int × (List Bool)) ⊕ ((List Bool) × Int × (List Bool))) :=
  let t0 : List Bool := [v0.getD v8.toNat false];
  let t1 : Int := IntKind.i64.wrap (v8 - 1);
  let t2 : Bool := decide (0 ≤ v8);
  let t3 : List Bool := t0 ++ v7;
  let t4 : Int := r1_Cmp t3 v1;
  let t5 : Int := (t3.length : Int);
  let t6 : Nat := (t0.length + v7.length) * 1;
  let t7 : Int := (some (r1_Len t3)).getD t5;
  let t8 : List Bool := (r1_Sub t3 v1 t5).fst;
  let t9 : Int := (t8.length : Int);
  let t10 : Int := (some (r1_Len t8)).getD t9;
  Tr.br (decide (v8 ≥ 0))
    (Tr.ast (and t2 (decide (v8 < (v0.length : Int))))
      (Tr.ast (decide (t6 ≤ 140737488355328))
        (Tr.ast (r1_Cmp_s t3 v1)
          (Tr.br (decide (t4 ≥ 0))
            (Tr.ast (r1_Sub_s t3 v1 t5)
              (Tr.ast (and t2 (decide (v8 < (h0.length : Int))))
                (Tr.ast (r1_Len_s t8)
                  (Tr.ast (and (decide (0 ≤ t10)) (decide (t10 ≤ t9)))
                    (Tr.leaf
                      (Sum.inl
                        (List.take (t10.toNat - Int.toNat 0) (List.drop (Int.toNat 0) t8), t1, h0.set v8.toNat true)))))))
            (Tr.ast (r1_Len_s t3)
              (Tr.ast (and (decide (0 ≤ t7)) (decide (t7 ≤ t5)))
                (Tr.leaf (Sum.inl (List.take (t7.toNat - Int.toNat 0) (List.drop (Int.toNat 0) t3), t1, h0)))))))))
    (Tr.leaf (Sum.inr (v7, v8, h0)))
def r1_Div_L0_step (p : (List Bool) × (List Bool)) (x : (List Bool) × Int × (List Bool)) : Tr (((List Bool) × Int × (List Bool)) ⊕ ((List Bool) × Int × (List Bool))) := r1_Div_L0_T r1_Cmp r1_Cmp_s r1_Sub r1_Sub_s r1_Len r1_Len_s p.1 p.2 x.1 x.2.1 x.2.2
def r1_Div_L0_r (p : (List Bool) × (List Bool)) (x : (List Bool) × Int × (List Bool)) : Option ((List Bool) × Int × (List Bool)) := runB (r1_Div_L0_step p) x
def r1_Div_L0_v (p : (List Bool) × (List Bool)) (x : (List Bool) × Int × (List Bool)) : (List Bool) × Int × (List Bool) := (r1_Div_L0_r p x).getD x
def r1_Div_L0_ok (p : (List Bool) × (List Bool)) (x : (List Bool) × Int × (List Bool)) : Bool := (r1_Div_L0_r p x).isSome
def r1_Div_T (r1_Div_L0_ok : ((List Bool) × (List Bool)) → ((List Bool) × Int × (List Bool)) → Bool) (r1_Div_L0_v : ((List Bool) × (List Bool)) → ((List Bool) × Int × (List Bool)) → (List Bool) × Int × (List Bool)) (a : List Bool) (b : List Bool) : Tr ((List Bool) × (List Bool)) :=
  Tr.ast (and (decide ((a.length : Int) ≤ (a.length : Int))) (decide ((1 : Int) * (a.length : Int) ≤ 281474976710656)))
    (Tr.ast (r1_Div_L0_ok (a, b) ([], IntKind.i64.wrap ((a.length : Int) - 1), List.replicate ((a.length : Int)).toNat false))
      (Tr.leaf
        ((r1_Div_L0_v (a, b) ([], IntKind.i64.wrap ((a.length : Int) - 1), List.replicate ((a.length : Int)).toNat false)).snd.snd,
          (r1_Div_L0_v (a, b) ([], IntKind.i64.wrap ((a.length : Int) - 1), List.replicate ((a.length : Int)).toNat false)).fst)))
def r1_Div_t (a : List Bool) (b : List Bool) : Tr ((List Bool) × (List Bool)) := r1_Div_T r1_Div_L0_ok r1_Div_L0_v a b
def r1_Div (a : List Bool) (b : List Bool) : (List Bool) × (List Bool) := (r1_Div_t a b).val
def r1_Div_s (a : List Bool) (b : List Bool) : Bool := (r1_Div_t a b).safe
end Go.Fb
namespace Go.Fb
open Go.Ev
end Go.Fb
