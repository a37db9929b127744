/- Layer 1: what the functions compute, as definitions. Conditions: none. -/
import Derived.Test.YtggmmkdfgjnjfaaEd
namespace Go.Fb
open Go.Ev
def len8 := ByteArray.mk (([0, 1, 2, 2, 3, 3, 3, 3, 4, 4, 4, 4, 4, 4, 4, 4, 5, 5, 5, 5, 5, 5, 5, 5, 5, 5, 5, 5, 5, 5, 5, 5, 6, 6, 6, 6, 6, 6, 6, 6, 6, 6, 6, 6, 6, 6, 6, 6, 6, 6, 6, 6, 6, 6, 6, 6, 6, 6, 6, 6, 6, 6, 6, 6].append [7, 7, 7, 7, 7, 7, 7, 7, 7, 7, 7, 7, 7, 7, 7, 7, 7, 7, 7, 7, 7, 7, 7, 7, 7, 7, 7, 7, 7, 7, 7, 7, 7, 7, 7, 7, 7, 7, 7, 7, 7, 7, 7, 7, 7, 7, 7, 7, 7, 7, 7, 7, 7, 7, 7, 7, 7, 7, 7, 7, 7, 7, 7, 7]).append ([8, 8, 8, 8, 8, 8, 8, 8, 8, 8, 8, 8, 8, 8, 8, 8, 8, 8, 8, 8, 8, 8, 8, 8, 8, 8, 8, 8, 8, 8, 8, 8, 8, 8, 8, 8, 8, 8, 8, 8, 8, 8, 8, 8, 8, 8, 8, 8, 8, 8, 8, 8, 8, 8, 8, 8, 8, 8, 8, 8, 8, 8, 8, 8].append [8, 8, 8, 8, 8, 8, 8, 8, 8, 8, 8, 8, 8, 8, 8, 8, 8, 8, 8, 8, 8, 8, 8, 8, 8, 8, 8, 8, 8, 8, 8, 8, 8, 8, 8, 8, 8, 8, 8, 8, 8, 8, 8, 8, 8, 8, 8, 8, 8, 8, 8, 8, 8, 8, 8, 8, 8, 8, 8, 8, 8, 8, 8, 8])).toArray
def bits_Len64_T  (x : Int) : Tr (Int) :=
  let t0 : Int := shrI IntKind.u64 x 16;
  let t1 : Int := shrI IntKind.u64 x 32;
  let t2 : Int := IntKind.u8.wrap t1;
  let t3 : Int := IntKind.u8.wrap (shrI IntKind.u64 x 8);
  let t4 : Int := IntKind.u8.wrap t0;
  let t5 : Int := shrI IntKind.u64 t1 16;
  let t6 : Int := IntKind.u8.wrap (shrI IntKind.u64 t0 8);
  let t7 : Int := IntKind.u8.wrap t5;
  let t8 : Int := IntKind.u8.wrap (shrI IntKind.u64 t1 8);
  let t9 : Int := IntKind.i64.wrap (0 + 16);
  let t10 : Int := IntKind.i64.wrap (32 + 16);
  let t11 : Int := IntKind.u8.wrap (shrI IntKind.u64 t5 8);
  let t12 : Int :=
    (len8.size : Int);
  Tr.br (decide (x ≥ 4294967296))
    (Tr.br (decide (t1 ≥ 65536))
      (Tr.br (decide (t5 ≥ 256))
        (Tr.ast (and (decide (0 ≤ t11)) (decide (t11 < t12)))
          (Tr.leaf
            (IntKind.i64.wrap
              (IntKind.i64.wrap (t10 + 8) +
                IntKind.i64.wrap
                  (strAt
                    len8
                    t11)))))
        (Tr.ast (and (decide (0 ≤ t7)) (decide (t7 < t12)))
          (Tr.leaf
            (IntKind.i64.wrap
              (t10 +
                IntKind.i64.wrap
                  (strAt
                    len8
                    t7))))))
      (Tr.br (decide (t1 ≥ 256))
        (Tr.ast (and (decide (0 ≤ t8)) (decide (t8 < t12)))
          (Tr.leaf
            (IntKind.i64.wrap
              (IntKind.i64.wrap (32 + 8) +
                IntKind.i64.wrap
                  (strAt
                    len8
                    t8)))))
        (Tr.ast (and (decide (0 ≤ t2)) (decide (t2 < t12)))
          (Tr.leaf
            (IntKind.i64.wrap
              (32 +
                IntKind.i64.wrap
                  (strAt
                    len8
                    t2)))))))
    (Tr.br (decide (x ≥ 65536))
      (Tr.br (decide (t0 ≥ 256))
        (Tr.ast (and (decide (0 ≤ t6)) (decide (t6 < t12)))
          (Tr.leaf
            (IntKind.i64.wrap
              (IntKind.i64.wrap (t9 + 8) +
                IntKind.i64.wrap
                  (strAt
                    len8
                    t6)))))
        (Tr.ast (and (decide (0 ≤ t4)) (decide (t4 < t12)))
          (Tr.leaf
            (IntKind.i64.wrap
              (t9 +
                IntKind.i64.wrap
                  (strAt
                    len8
                    t4))))))
      (Tr.br (decide (x ≥ 256))
        (Tr.ast (and (decide (0 ≤ t3)) (decide (t3 < t12)))
          (Tr.leaf
            (IntKind.i64.wrap
              (IntKind.i64.wrap (0 + 8) +
                IntKind.i64.wrap
                  (strAt
                    len8
                    t3)))))
        (Tr.ast (and (decide (0 ≤ IntKind.u8.wrap x)) (decide (IntKind.u8.wrap x < t12)))
          (Tr.leaf
            (IntKind.i64.wrap
              (0 +
                IntKind.i64.wrap
                  (strAt
                    len8
                    (IntKind.u8.wrap x))))))))
def bits_Len64_t (x : Int) : Tr (Int) := bits_Len64_T  x
def bits_Len64 (x : Int) : Int := (bits_Len64_t x).val
def u2_Len_T (bits_Len64 : Int → Int) (a : U2) : Tr (Int) :=
  Tr.br (decide (a.hi > 0)) (Tr.leaf (IntKind.i64.wrap (64 + bits_Len64 a.hi))) (Tr.leaf (bits_Len64 a.lo))
def u2_Len_t (a : U2) : Tr (Int) := u2_Len_T bits_Len64 a
def u2_Len (a : U2) : Int := (u2_Len_t a).val
def u2_Shl_L0_T  (_h1_0 : Int) (_h1_1 : Int) (v1 : Int) (h0_0 : Int) (h0_1 : Int) : Tr ((Int × Int × Int) ⊕ ((Int × Int × Int) ⊕ (Int × Int))) :=
  Tr.br (decide (v1 ≥ 64))
    (Tr.br (and (h0_1 == 0) true) (Tr.leaf (Sum.inr (Sum.inr (h0_1, 0))))
      (Tr.leaf (Sum.inl (IntKind.i64.wrap (v1 - 64), h0_1, 0))))
    (Tr.leaf (Sum.inr (Sum.inl (v1, h0_0, h0_1))))
def u2_Shl_L0_step (p : Int × Int) (x : Int × Int × Int) : Tr ((Int × Int × Int) ⊕ ((Int × Int × Int) ⊕ (Int × Int))) := u2_Shl_L0_T  p.1 p.2 x.1 x.2.1 x.2.2
def u2_Shl_L0_r (p : Int × Int) (x : Int × Int × Int) : Option ((Int × Int × Int) ⊕ (Int × Int)) := runB (u2_Shl_L0_step p) x
def u2_Shl_L0_rt (p : Int × Int) (x : Int × Int × Int) : Bool := isR (u2_Shl_L0_r p x)
def u2_Shl_L0_v (p : Int × Int) (x : Int × Int × Int) : Int × Int × Int := outL_ x (u2_Shl_L0_r p x)
def u2_Shl_L0_rv (p : Int × Int) (x : Int × Int × Int) : Int × Int := outR_ (0, 0) (u2_Shl_L0_r p x)
def u2_Shl_L0_ok (p : Int × Int) (x : Int × Int × Int) : Bool := (u2_Shl_L0_r p x).isSome
def u2_Shl_T (u2_Shl_L0_ok : (Int × Int) → (Int × Int × Int) → Bool) (u2_Shl_L0_rt : (Int × Int) → (Int × Int × Int) → Bool) (u2_Shl_L0_v : (Int × Int) → (Int × Int × Int) → Int × Int × Int) (u2_Shl_L0_rv : (Int × Int) → (Int × Int × Int) → Int × Int) (a : U2) (n : Int) : Tr (U2) :=
  Tr.ast (u2_Shl_L0_ok (0, 0) (n, a.hi, a.lo))
    (Tr.br (u2_Shl_L0_rt (0, 0) (n, a.hi, a.lo))
      (Tr.leaf (U2.mk (u2_Shl_L0_rv (0, 0) (n, a.hi, a.lo)).fst (u2_Shl_L0_rv (0, 0) (n, a.hi, a.lo)).snd))
      (Tr.br (decide ((u2_Shl_L0_v (0, 0) (n, a.hi, a.lo)).fst ≤ 0))
        (Tr.leaf (U2.mk (u2_Shl_L0_v (0, 0) (n, a.hi, a.lo)).snd.fst (u2_Shl_L0_v (0, 0) (n, a.hi, a.lo)).snd.snd))
        (Tr.ast (decide (0 ≤ (u2_Shl_L0_v (0, 0) (n, a.hi, a.lo)).fst))
          (Tr.ast (decide (0 ≤ IntKind.i64.wrap (64 - (u2_Shl_L0_v (0, 0) (n, a.hi, a.lo)).fst)))
            (Tr.ast (decide (0 ≤ (u2_Shl_L0_v (0, 0) (n, a.hi, a.lo)).fst))
              (Tr.leaf
                (U2.mk
                  (bitsI BinOp.or IntKind.u64
                    (shlI IntKind.u64 (u2_Shl_L0_v (0, 0) (n, a.hi, a.lo)).snd.fst
                      (u2_Shl_L0_v (0, 0) (n, a.hi, a.lo)).fst)
                    (shrI IntKind.u64 (u2_Shl_L0_v (0, 0) (n, a.hi, a.lo)).snd.snd
                      (IntKind.i64.wrap (64 - (u2_Shl_L0_v (0, 0) (n, a.hi, a.lo)).fst))))
                  (shlI IntKind.u64 (u2_Shl_L0_v (0, 0) (n, a.hi, a.lo)).snd.snd
                    (u2_Shl_L0_v (0, 0) (n, a.hi, a.lo)).fst))))))))
def u2_Shl_t (a : U2) (n : Int) : Tr (U2) := u2_Shl_T u2_Shl_L0_ok u2_Shl_L0_rt u2_Shl_L0_v u2_Shl_L0_rv a n
def u2_Shl (a : U2) (n : Int) : U2 := (u2_Shl_t a n).val
def u2_Shl_s (a : U2) (n : Int) : Bool := (u2_Shl_t a n).safe
def u2_Shr_L0_T  (_v5 : Bool) (_h1_0 : Int) (_h1_1 : Int) (v1 : Int) (v6 : Bool) (h0_0 : Int) (h0_1 : Int) : Tr ((Int × Bool × Int × Int) ⊕ ((Int × Bool × Int × Int) ⊕ (Bool × Int × Int))) :=
  Tr.br (decide (v1 ≥ 64))
    (Tr.br v6
      (Tr.br (and (h0_0 == 0) true) (Tr.leaf (Sum.inr (Sum.inr (true, 0, h0_0))))
        (Tr.leaf (Sum.inl (IntKind.i64.wrap (v1 - 64), true, 0, h0_0))))
      (Tr.br (and (h0_0 == 0) true) (Tr.leaf (Sum.inr (Sum.inr (h0_1 != 0, 0, h0_0))))
        (Tr.leaf (Sum.inl (IntKind.i64.wrap (v1 - 64), h0_1 != 0, 0, h0_0)))))
    (Tr.leaf (Sum.inr (Sum.inl (v1, v6, h0_0, h0_1))))
def u2_Shr_L0_step (p : Bool × Int × Int) (x : Int × Bool × Int × Int) : Tr ((Int × Bool × Int × Int) ⊕ ((Int × Bool × Int × Int) ⊕ (Bool × Int × Int))) := u2_Shr_L0_T  p.1 p.2.1 p.2.2 x.1 x.2.1 x.2.2.1 x.2.2.2
def u2_Shr_L0_r (p : Bool × Int × Int) (x : Int × Bool × Int × Int) : Option ((Int × Bool × Int × Int) ⊕ (Bool × Int × Int)) := runB (u2_Shr_L0_step p) x
def u2_Shr_L0_rt (p : Bool × Int × Int) (x : Int × Bool × Int × Int) : Bool := isR (u2_Shr_L0_r p x)
def u2_Shr_L0_v (p : Bool × Int × Int) (x : Int × Bool × Int × Int) : Int × Bool × Int × Int := outL_ x (u2_Shr_L0_r p x)
def u2_Shr_L0_rv (p : Bool × Int × Int) (x : Int × Bool × Int × Int) : Bool × Int × Int := outR_ (false, 0, 0) (u2_Shr_L0_r p x)
def u2_Shr_L0_ok (p : Bool × Int × Int) (x : Int × Bool × Int × Int) : Bool := (u2_Shr_L0_r p x).isSome
def u2_Shr_T (u2_Shr_L0_ok : (Bool × Int × Int) → (Int × Bool × Int × Int) → Bool) (u2_Shr_L0_rt : (Bool × Int × Int) → (Int × Bool × Int × Int) → Bool) (u2_Shr_L0_v : (Bool × Int × Int) → (Int × Bool × Int × Int) → Int × Bool × Int × Int) (u2_Shr_L0_rv : (Bool × Int × Int) → (Int × Bool × Int × Int) → Bool × Int × Int) (a : U2) (n : Int) : Tr (U2 × Bool) :=
  let t0 : Bool × Int × Int := (false, 0, 0);
  let t1 : Int × Bool × Int × Int := (n, false, a.hi, a.lo);
  let t2 : Int × Bool × Int × Int := u2_Shr_L0_v t0 t1;
  let t3 : Bool × Int × Int := u2_Shr_L0_rv t0 t1;
  let t4 : Int × Int := t3.snd;
  let t5 : Int := t2.fst;
  let t6 : Bool × Int × Int := t2.snd;
  let t7 : Int × Int := t6.snd;
  let t8 : Bool := t6.fst;
  let t9 : Int := t7.fst;
  let t10 : Int := t7.snd;
  let t11 : Int := IntKind.i64.wrap (64 - t5);
  let t12 : Bool := decide (0 ≤ t5);
  let t13 : Bool := decide (0 ≤ t11);
  let t14 : U2 :=
    U2.mk (shrI IntKind.u64 t9 t5) (bitsI BinOp.or IntKind.u64 (shrI IntKind.u64 t10 t5) (shlI IntKind.u64 t9 t11));
  Tr.ast (u2_Shr_L0_ok t0 t1)
    (Tr.br (u2_Shr_L0_rt t0 t1) (Tr.leaf (U2.mk t4.fst t4.snd, t3.fst))
      (Tr.br (decide (t5 ≤ 0)) (Tr.leaf (U2.mk t9 t10, t8))
        (Tr.ast t12
          (Tr.ast t12
            (Tr.ast t13 (Tr.br t8 (Tr.leaf (t14, true)) (Tr.ast t13 (Tr.leaf (t14, shlI IntKind.u64 t10 t11 != 0)))))))))
def u2_Shr_t (a : U2) (n : Int) : Tr (U2 × Bool) := u2_Shr_T u2_Shr_L0_ok u2_Shr_L0_rt u2_Shr_L0_v u2_Shr_L0_rv a n
def u2_Shr (a : U2) (n : Int) : U2 × Bool := (u2_Shr_t a n).val
def u2_Shr_s (a : U2) (n : Int) : Bool := (u2_Shr_t a n).safe
end Go.Fb
namespace Go.Fb
open Go.Ev
end Go.Fb
namespace Go.Fb
open Go.Ev
end Go.Fb
