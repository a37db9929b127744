/- Layer 1: what the functions compute, as definitions. Conditions: none. -/
import Derived.Test.YtdkbeajkedffeaaGreatEd
namespace Go.Fb
open Go.Ev
def len8 := ByteArray.mk (([0, 1, 2, 2, 3, 3, 3, 3, 4, 4, 4, 4, 4, 4, 4, 4, 5, 5, 5, 5, 5, 5, 5, 5, 5, 5, 5, 5, 5, 5, 5, 5, 6, 6, 6, 6, 6, 6, 6, 6, 6, 6, 6, 6, 6, 6, 6, 6, 6, 6, 6, 6, 6, 6, 6, 6, 6, 6, 6, 6, 6, 6, 6, 6].append [7, 7, 7, 7, 7, 7, 7, 7, 7, 7, 7, 7, 7, 7, 7, 7, 7, 7, 7, 7, 7, 7, 7, 7, 7, 7, 7, 7, 7, 7, 7, 7, 7, 7, 7, 7, 7, 7, 7, 7, 7, 7, 7, 7, 7, 7, 7, 7, 7, 7, 7, 7, 7, 7, 7, 7, 7, 7, 7, 7, 7, 7, 7, 7]).append ([8, 8, 8, 8, 8, 8, 8, 8, 8, 8, 8, 8, 8, 8, 8, 8, 8, 8, 8, 8, 8, 8, 8, 8, 8, 8, 8, 8, 8, 8, 8, 8, 8, 8, 8, 8, 8, 8, 8, 8, 8, 8, 8, 8, 8, 8, 8, 8, 8, 8, 8, 8, 8, 8, 8, 8, 8, 8, 8, 8, 8, 8, 8, 8].append [8, 8, 8, 8, 8, 8, 8, 8, 8, 8, 8, 8, 8, 8, 8, 8, 8, 8, 8, 8, 8, 8, 8, 8, 8, 8, 8, 8, 8, 8, 8, 8, 8, 8, 8, 8, 8, 8, 8, 8, 8, 8, 8, 8, 8, 8, 8, 8, 8, 8, 8, 8, 8, 8, 8, 8, 8, 8, 8, 8, 8, 8, 8, 8])).toArray
def bits_Add64 (x y c : Int) : Int × Int := (((x.toNat + y.toNat + c.toNat) % 18446744073709551616 : Nat), ((x.toNat + y.toNat + c.toNat) / 18446744073709551616 : Nat))
def bits_Add64_s (_x _y c : Int) : Bool := Nat.ble c.toNat 1
def bits_Sub64 (x y c : Int) : Int × Int := (((x.toNat + 18446744073709551616 - y.toNat - c.toNat) % 18446744073709551616 : Nat), ((if x.toNat < y.toNat + c.toNat then 1 else 0 : Nat) : Int))
def bits_Sub64_s (_x _y c : Int) : Bool := Nat.ble c.toNat 1
def bits_Mul64_T  (x : Int) (y : Int) : Tr (Int × Int) :=
  Tr.leaf
    (IntKind.u64.wrap
        (IntKind.u64.wrap
            (IntKind.u64.wrap (shrI IntKind.u64 x 32 * shrI IntKind.u64 y 32) +
              shrI IntKind.u64
                (IntKind.u64.wrap
                  (IntKind.u64.wrap (shrI IntKind.u64 x 32 * bitsI BinOp.and IntKind.u64 y 4294967295) +
                    shrI IntKind.u64
                      (IntKind.u64.wrap
                        (bitsI BinOp.and IntKind.u64 x 4294967295 * bitsI BinOp.and IntKind.u64 y 4294967295))
                      32))
                32) +
          shrI IntKind.u64
            (IntKind.u64.wrap
              (bitsI BinOp.and IntKind.u64
                  (IntKind.u64.wrap
                    (IntKind.u64.wrap (shrI IntKind.u64 x 32 * bitsI BinOp.and IntKind.u64 y 4294967295) +
                      shrI IntKind.u64
                        (IntKind.u64.wrap
                          (bitsI BinOp.and IntKind.u64 x 4294967295 * bitsI BinOp.and IntKind.u64 y 4294967295))
                        32))
                  4294967295 +
                IntKind.u64.wrap (bitsI BinOp.and IntKind.u64 x 4294967295 * shrI IntKind.u64 y 32)))
            32),
      IntKind.u64.wrap (x * y))
def bits_Mul64_t (x : Int) (y : Int) : Tr (Int × Int) := bits_Mul64_T  x y
def bits_Mul64 (x : Int) (y : Int) : Int × Int := (bits_Mul64_t x y).val
def bits_Len64_T  (x : Int) : Tr (Int) :=
  let t0 : Int := shrI IntKind.u64 x 16;
  let t1 : Int := shrI IntKind.u64 x 32;
  let t2 : Int := IntKind.u8.wrap t1;
  let t3 : Int := IntKind.u8.wrap (shrI IntKind.u64 x 8);
  let t4 : Int := IntKind.u8.wrap t0;
  let t5 : Int := shrI IntKind.u64 t1 16;
  let t6 : Int := IntKind.u8.wrap (shrI IntKind.u64 t0 8);
  let t7 : Int := IntKind.u8.wrap t5;
  let t8 : Int := IntKind.u8.wrap (shrI IntKind.u64 t1 8);
  let t9 : Int := IntKind.i64.wrap (0 + 16);
  let t10 : Int := IntKind.i64.wrap (32 + 16);
  let t11 : Int := IntKind.u8.wrap (shrI IntKind.u64 t5 8);
  let t12 : Int :=
    (len8.size : Int);
  Tr.br (decide (x ≥ 4294967296))
    (Tr.br (decide (t1 ≥ 65536))
      (Tr.br (decide (t5 ≥ 256))
        (Tr.ast (and (decide (0 ≤ t11)) (decide (t11 < t12)))
          (Tr.leaf
            (IntKind.i64.wrap
              (IntKind.i64.wrap (t10 + 8) +
                IntKind.i64.wrap
                  (strAt
                    len8
                    t11)))))
        (Tr.ast (and (decide (0 ≤ t7)) (decide (t7 < t12)))
          (Tr.leaf
            (IntKind.i64.wrap
              (t10 +
                IntKind.i64.wrap
                  (strAt
                    len8
                    t7))))))
      (Tr.br (decide (t1 ≥ 256))
        (Tr.ast (and (decide (0 ≤ t8)) (decide (t8 < t12)))
          (Tr.leaf
            (IntKind.i64.wrap
              (IntKind.i64.wrap (32 + 8) +
                IntKind.i64.wrap
                  (strAt
                    len8
                    t8)))))
        (Tr.ast (and (decide (0 ≤ t2)) (decide (t2 < t12)))
          (Tr.leaf
            (IntKind.i64.wrap
              (32 +
                IntKind.i64.wrap
                  (strAt
                    len8
                    t2)))))))
    (Tr.br (decide (x ≥ 65536))
      (Tr.br (decide (t0 ≥ 256))
        (Tr.ast (and (decide (0 ≤ t6)) (decide (t6 < t12)))
          (Tr.leaf
            (IntKind.i64.wrap
              (IntKind.i64.wrap (t9 + 8) +
                IntKind.i64.wrap
                  (strAt
                    len8
                    t6)))))
        (Tr.ast (and (decide (0 ≤ t4)) (decide (t4 < t12)))
          (Tr.leaf
            (IntKind.i64.wrap
              (t9 +
                IntKind.i64.wrap
                  (strAt
                    len8
                    t4))))))
      (Tr.br (decide (x ≥ 256))
        (Tr.ast (and (decide (0 ≤ t3)) (decide (t3 < t12)))
          (Tr.leaf
            (IntKind.i64.wrap
              (IntKind.i64.wrap (0 + 8) +
                IntKind.i64.wrap
                  (strAt
                    len8
                    t3)))))
        (Tr.ast (and (decide (0 ≤ IntKind.u8.wrap x)) (decide (IntKind.u8.wrap x < t12)))
          (Tr.leaf
            (IntKind.i64.wrap
              (0 +
                IntKind.i64.wrap
                  (strAt
                    len8
                    (IntKind.u8.wrap x))))))))
def bits_Len64_t (x : Int) : Tr (Int) := bits_Len64_T  x
def bits_Len64 (x : Int) : Int := (bits_Len64_t x).val
def bits_LZ64_T (bits_Len64 : Int → Int) (x : Int) : Tr (Int) :=
  Tr.leaf (IntKind.i64.wrap (64 - bits_Len64 x))
def bits_LZ64_t (x : Int) : Tr (Int) := bits_LZ64_T bits_Len64 x
def bits_LZ64 (x : Int) : Int := (bits_LZ64_t x).val
def bits_Div64_L0_T  (_v2 : Int) (_v6 : Int) (_v7 : Int) (_v8 : Int) (v9 : Int) (v10 : Int) (_v11 : Int) (v13 : Int) (_v14 : Int) (_v20 : Bool) (_v24 : Bool) (_v27 : Bool) (v15 : Int) (v16 : Int) : Tr ((Int × Int) ⊕ (Int × Int)) :=
  Tr.br (decide (v15 ≥ 4294967296))
    (Tr.br (decide (IntKind.u64.wrap (v16 + v9) ≥ 4294967296))
      (Tr.leaf (Sum.inr (IntKind.u64.wrap (v15 - 1), IntKind.u64.wrap (v16 + v9))))
      (Tr.leaf (Sum.inl (IntKind.u64.wrap (v15 - 1), IntKind.u64.wrap (v16 + v9)))))
    (Tr.br (decide (IntKind.u64.wrap (v15 * v10) > IntKind.u64.wrap (IntKind.u64.wrap (4294967296 * v16) + v13)))
      (Tr.br (decide (IntKind.u64.wrap (v16 + v9) ≥ 4294967296))
        (Tr.leaf (Sum.inr (IntKind.u64.wrap (v15 - 1), IntKind.u64.wrap (v16 + v9))))
        (Tr.leaf (Sum.inl (IntKind.u64.wrap (v15 - 1), IntKind.u64.wrap (v16 + v9)))))
      (Tr.leaf (Sum.inr (v15, v16))))
def bits_Div64_L0_step (p : Int × Int × Int × Int × Int × Int × Int × Int × Int × Bool × Bool × Bool) (x : Int × Int) : Tr ((Int × Int) ⊕ (Int × Int)) := bits_Div64_L0_T  p.1 p.2.1 p.2.2.1 p.2.2.2.1 p.2.2.2.2.1 p.2.2.2.2.2.1 p.2.2.2.2.2.2.1 p.2.2.2.2.2.2.2.1 p.2.2.2.2.2.2.2.2.1 p.2.2.2.2.2.2.2.2.2.1 p.2.2.2.2.2.2.2.2.2.2.1 p.2.2.2.2.2.2.2.2.2.2.2 x.1 x.2
def bits_Div64_L0_r (p : Int × Int × Int × Int × Int × Int × Int × Int × Int × Bool × Bool × Bool) (x : Int × Int) : Option (Int × Int) := runB (bits_Div64_L0_step p) x
def bits_Div64_L0_v (p : Int × Int × Int × Int × Int × Int × Int × Int × Int × Bool × Bool × Bool) (x : Int × Int) : Int × Int := (bits_Div64_L0_r p x).getD x
def bits_Div64_L0_ok (p : Int × Int × Int × Int × Int × Int × Int × Int × Int × Bool × Bool × Bool) (x : Int × Int) : Bool := (bits_Div64_L0_r p x).isSome
def bits_Div64_L1_T  (_v2 : Int) (_v6 : Int) (_v7 : Int) (_v8 : Int) (v9 : Int) (v10 : Int) (v14 : Int) (_v15 : Int) (_v17 : Int) (_v20 : Bool) (_v24 : Bool) (_v27 : Bool) (v16 : Int) (v18 : Int) : Tr ((Int × Int) ⊕ (Int × Int)) :=
  Tr.br (decide (v18 ≥ 4294967296))
    (Tr.br (decide (IntKind.u64.wrap (v16 + v9) ≥ 4294967296))
      (Tr.leaf (Sum.inr (IntKind.u64.wrap (v16 + v9), IntKind.u64.wrap (v18 - 1))))
      (Tr.leaf (Sum.inl (IntKind.u64.wrap (v16 + v9), IntKind.u64.wrap (v18 - 1)))))
    (Tr.br (decide (IntKind.u64.wrap (v18 * v10) > IntKind.u64.wrap (IntKind.u64.wrap (4294967296 * v16) + v14)))
      (Tr.br (decide (IntKind.u64.wrap (v16 + v9) ≥ 4294967296))
        (Tr.leaf (Sum.inr (IntKind.u64.wrap (v16 + v9), IntKind.u64.wrap (v18 - 1))))
        (Tr.leaf (Sum.inl (IntKind.u64.wrap (v16 + v9), IntKind.u64.wrap (v18 - 1)))))
      (Tr.leaf (Sum.inr (v16, v18))))
def bits_Div64_L1_step (p : Int × Int × Int × Int × Int × Int × Int × Int × Int × Bool × Bool × Bool) (x : Int × Int) : Tr ((Int × Int) ⊕ (Int × Int)) := bits_Div64_L1_T  p.1 p.2.1 p.2.2.1 p.2.2.2.1 p.2.2.2.2.1 p.2.2.2.2.2.1 p.2.2.2.2.2.2.1 p.2.2.2.2.2.2.2.1 p.2.2.2.2.2.2.2.2.1 p.2.2.2.2.2.2.2.2.2.1 p.2.2.2.2.2.2.2.2.2.2.1 p.2.2.2.2.2.2.2.2.2.2.2 x.1 x.2
def bits_Div64_L1_r (p : Int × Int × Int × Int × Int × Int × Int × Int × Int × Bool × Bool × Bool) (x : Int × Int) : Option (Int × Int) := runB (bits_Div64_L1_step p) x
def bits_Div64_L1_v (p : Int × Int × Int × Int × Int × Int × Int × Int × Int × Bool × Bool × Bool) (x : Int × Int) : Int × Int := (bits_Div64_L1_r p x).getD x
def bits_Div64_L1_ok (p : Int × Int × Int × Int × Int × Int × Int × Int × Int × Bool × Bool × Bool) (x : Int × Int) : Bool := (bits_Div64_L1_r p x).isSome
def bits_Div64_T (bits_LZ64 : Int → Int) (bits_Div64_L0_ok : (Int × Int × Int × Int × Int × Int × Int × Int × Int × Bool × Bool × Bool) → (Int × Int) → Bool) (bits_Div64_L0_v : (Int × Int × Int × Int × Int × Int × Int × Int × Int × Bool × Bool × Bool) → (Int × Int) → Int × Int) (bits_Div64_L1_ok : (Int × Int × Int × Int × Int × Int × Int × Int × Int × Bool × Bool × Bool) → (Int × Int) → Bool) (bits_Div64_L1_v : (Int × Int × Int × Int × Int × Int × Int × Int × Int × Bool × Bool × Bool) → (Int × Int) → Int × Int) (hi : Int) (lo : Int) (y : Int) : Tr (Int × Int) :=
  let t0 : Bool := y == 0;
  let t1 : Bool × Bool × Bool := (false, false, false);
  let t2 : Bool := !t0;
  let t3 : Int := shrI IntKind.u64 (shlI IntKind.u64 lo (IntKind.u64.wrap (bits_LZ64 y))) 32;
  let t4 : Int := shrI IntKind.u64 (shlI IntKind.u64 y (IntKind.u64.wrap (bits_LZ64 y))) 32;
  let t5 : Int := bitsI BinOp.and IntKind.u64 (shlI IntKind.u64 y (IntKind.u64.wrap (bits_LZ64 y))) 4294967295;
  let t6 : Int := bitsI BinOp.and IntKind.u64 (shlI IntKind.u64 lo (IntKind.u64.wrap (bits_LZ64 y))) 4294967295;
  let t7 : Int := IntKind.u64.wrap (64 - IntKind.u64.wrap (bits_LZ64 y));
  let t8 : Bool := decide (0 ≤ IntKind.u64.wrap (bits_LZ64 y));
  let t9 : Bool := !t4 == 0;
  let t10 : Int :=
    bitsI BinOp.or IntKind.u64 (shlI IntKind.u64 hi (IntKind.u64.wrap (bits_LZ64 y))) (shrI IntKind.u64 lo t7);
  let t11 : Int := IntKind.u64.wrap (t10.tdiv t4);
  let t12 : Int × Int := (t11, IntKind.u64.wrap (t10 - IntKind.u64.wrap (t11 * t4)));
  let t13 : Int × Int × Int × Int × Int × Int × Int × Int × Int × Bool × Bool × Bool :=
    (shlI IntKind.u64 y (IntKind.u64.wrap (bits_LZ64 y)), 0, 0, IntKind.u64.wrap (bits_LZ64 y), t4, t5, t10, t3, t6, t1);
  let t14 : Int := (bits_Div64_L0_v t13 t12).fst;
  let t15 : Int :=
    IntKind.u64.wrap
      (IntKind.u64.wrap (IntKind.u64.wrap (t10 * 4294967296) + t3) -
        IntKind.u64.wrap (t14 * shlI IntKind.u64 y (IntKind.u64.wrap (bits_LZ64 y))));
  let t16 : Int := IntKind.u64.wrap (t15.tdiv t4);
  let t17 : Int × Int × Int × Int × Int × Int × Int × Int × Int × Bool × Bool × Bool :=
    (shlI IntKind.u64 y (IntKind.u64.wrap (bits_LZ64 y)), 0, 0, IntKind.u64.wrap (bits_LZ64 y), t4, t5, t6, t14, t15, t1);
  let t18 : Int × Int := (IntKind.u64.wrap (t15 - IntKind.u64.wrap (t16 * t4)), t16);
  let t19 : Int := (bits_Div64_L1_v t17 t18).snd;
  Tr.nst t0
    (Tr.nst (decide (y ≤ hi))
      (Tr.br (hi == 0) (Tr.ast t2 (Tr.ast t2 (Tr.leaf (IntKind.u64.wrap (lo.tdiv y), lo.tmod y))))
        (Tr.ast t8
          (Tr.ast t8
            (Tr.ast (decide (0 ≤ t7))
              (Tr.ast t8
                (Tr.ast t9
                  (Tr.ast (bits_Div64_L0_ok t13 t12)
                    (Tr.ast t9
                      (Tr.ast (bits_Div64_L1_ok t17 t18)
                        (Tr.ast t8
                          (Tr.leaf
                            (IntKind.u64.wrap (IntKind.u64.wrap (t14 * 4294967296) + t19),
                              shrI IntKind.u64
                                (IntKind.u64.wrap
                                  (IntKind.u64.wrap (IntKind.u64.wrap (t15 * 4294967296) + t6) -
                                    IntKind.u64.wrap (t19 * shlI IntKind.u64 y (IntKind.u64.wrap (bits_LZ64 y)))))
                                (IntKind.u64.wrap (bits_LZ64 y)))))))))))))))
def bits_Div64_t (hi : Int) (lo : Int) (y : Int) : Tr (Int × Int) := bits_Div64_T bits_LZ64 bits_Div64_L0_ok bits_Div64_L0_v bits_Div64_L1_ok bits_Div64_L1_v hi lo y
def bits_Div64 (hi : Int) (lo : Int) (y : Int) : Int × Int := (bits_Div64_t hi lo y).val
def bits_Div64_s (hi : Int) (lo : Int) (y : Int) : Bool := (bits_Div64_t hi lo y).safe
def wide_Mul_T (bits_Mul64 : Int → Int → Int × Int) (a : Int) (b : Int) : Tr (U2) :=
  Tr.leaf (U2.mk (bits_Mul64 a b).fst (bits_Mul64 a b).snd)
def wide_Mul_t (a : Int) (b : Int) : Tr (U2) := wide_Mul_T bits_Mul64 a b
def wide_Mul (a : Int) (b : Int) : U2 := (wide_Mul_t a b).val
def wide_order2_T  (l : (Int × Int) × (Int × Int)) : Tr (Int) :=
  Tr.br (decide (l.fst.fst < l.fst.snd)) (Tr.leaf (-1))
    (Tr.br (decide (l.fst.fst > l.fst.snd)) (Tr.leaf 1)
      (Tr.br (decide (l.snd.fst < l.snd.snd)) (Tr.leaf (-1))
        (Tr.br (decide (l.snd.fst > l.snd.snd)) (Tr.leaf 1) (Tr.leaf 0))))
def wide_order2_t (l : (Int × Int) × (Int × Int)) : Tr (Int) := wide_order2_T  l
def wide_order2 (l : (Int × Int) × (Int × Int)) : Int := (wide_order2_t l).val
def u2_Add_T (bits_Add64 : Int → Int → Int → Int × Int) (bits_Add64_s : Int → Int → Int → Bool) (a : U2) (b : U2) : Tr (U2 × Int) :=
  Tr.ast (bits_Add64_s a.lo b.lo 0)
    (Tr.ast (bits_Add64_s a.hi b.hi (bits_Add64 a.lo b.lo 0).snd)
      (Tr.leaf
        (U2.mk (bits_Add64 a.hi b.hi (bits_Add64 a.lo b.lo 0).snd).fst (bits_Add64 a.lo b.lo 0).fst,
          (bits_Add64 a.hi b.hi (bits_Add64 a.lo b.lo 0).snd).snd)))
def u2_Add_t (a : U2) (b : U2) : Tr (U2 × Int) := u2_Add_T bits_Add64 bits_Add64_s a b
def u2_Add (a : U2) (b : U2) : U2 × Int := (u2_Add_t a b).val
def u2_Add_s (a : U2) (b : U2) : Bool := (u2_Add_t a b).safe
def u2_Sub_T (bits_Sub64 : Int → Int → Int → Int × Int) (bits_Sub64_s : Int → Int → Int → Bool) (a : U2) (b : U2) : Tr (U2 × Int) :=
  Tr.ast (bits_Sub64_s a.lo b.lo 0)
    (Tr.ast (bits_Sub64_s a.hi b.hi (bits_Sub64 a.lo b.lo 0).snd)
      (Tr.leaf
        (U2.mk (bits_Sub64 a.hi b.hi (bits_Sub64 a.lo b.lo 0).snd).fst (bits_Sub64 a.lo b.lo 0).fst,
          (bits_Sub64 a.hi b.hi (bits_Sub64 a.lo b.lo 0).snd).snd)))
def u2_Sub_t (a : U2) (b : U2) : Tr (U2 × Int) := u2_Sub_T bits_Sub64 bits_Sub64_s a b
def u2_Sub (a : U2) (b : U2) : U2 × Int := (u2_Sub_t a b).val
def u2_Sub_s (a : U2) (b : U2) : Bool := (u2_Sub_t a b).safe
def u2_Cmp_T (wide_order2 : ((Int × Int) × (Int × Int)) → Int) (a : U2) (b : U2) : Tr (Int) :=
  Tr.leaf (wide_order2 ((a.hi, b.hi), a.lo, b.lo))
def u2_Cmp_t (a : U2) (b : U2) : Tr (Int) := u2_Cmp_T wide_order2 a b
def u2_Cmp (a : U2) (b : U2) : Int := (u2_Cmp_t a b).val
def u2_Len_T (bits_Len64 : Int → Int) (a : U2) : Tr (Int) :=
  Tr.br (decide (a.hi > 0)) (Tr.leaf (IntKind.i64.wrap (64 + bits_Len64 a.hi))) (Tr.leaf (bits_Len64 a.lo))
def u2_Len_t (a : U2) : Tr (Int) := u2_Len_T bits_Len64 a
def u2_Len (a : U2) : Int := (u2_Len_t a).val
def u2_Shl_L0_T  (_h1_0 : Int) (_h1_1 : Int) (v1 : Int) (h0_0 : Int) (h0_1 : Int) : Tr ((Int × Int × Int) ⊕ ((Int × Int × Int) ⊕ (Int × Int))) :=
  Tr.br (decide (v1 ≥ 64))
    (Tr.br (and (h0_1 == 0) true) (Tr.leaf (Sum.inr (Sum.inr (h0_1, 0))))
      (Tr.leaf (Sum.inl (IntKind.i64.wrap (v1 - 64), h0_1, 0))))
    (Tr.leaf (Sum.inr (Sum.inl (v1, h0_0, h0_1))))
def u2_Shl_L0_step (p : Int × Int) (x : Int × Int × Int) : Tr ((Int × Int × Int) ⊕ ((Int × Int × Int) ⊕ (Int × Int))) := u2_Shl_L0_T  p.1 p.2 x.1 x.2.1 x.2.2
def u2_Shl_L0_r (p : Int × Int) (x : Int × Int × Int) : Option ((Int × Int × Int) ⊕ (Int × Int)) := runB (u2_Shl_L0_step p) x
def u2_Shl_L0_rt (p : Int × Int) (x : Int × Int × Int) : Bool := isR (u2_Shl_L0_r p x)
def u2_Shl_L0_v (p : Int × Int) (x : Int × Int × Int) : Int × Int × Int := outL_ x (u2_Shl_L0_r p x)
def u2_Shl_L0_rv (p : Int × Int) (x : Int × Int × Int) : Int × Int := outR_ (0, 0) (u2_Shl_L0_r p x)
def u2_Shl_L0_ok (p : Int × Int) (x : Int × Int × Int) : Bool := (u2_Shl_L0_r p x).isSome
def u2_Shl_T (u2_Shl_L0_ok : (Int × Int) → (Int × Int × Int) → Bool) (u2_Shl_L0_rt : (Int × Int) → (Int × Int × Int) → Bool) (u2_Shl_L0_v : (Int × Int) → (Int × Int × Int) → Int × Int × Int) (u2_Shl_L0_rv : (Int × Int) → (Int × Int × Int) → Int × Int) (a : U2) (n : Int) : Tr (U2) :=
  Tr.ast (u2_Shl_L0_ok (0, 0) (n, a.hi, a.lo))
    (Tr.br (u2_Shl_L0_rt (0, 0) (n, a.hi, a.lo))
      (Tr.leaf (U2.mk (u2_Shl_L0_rv (0, 0) (n, a.hi, a.lo)).fst (u2_Shl_L0_rv (0, 0) (n, a.hi, a.lo)).snd))
      (Tr.br (decide ((u2_Shl_L0_v (0, 0) (n, a.hi, a.lo)).fst ≤ 0))
        (Tr.leaf (U2.mk (u2_Shl_L0_v (0, 0) (n, a.hi, a.lo)).snd.fst (u2_Shl_L0_v (0, 0) (n, a.hi, a.lo)).snd.snd))
        (Tr.ast (decide (0 ≤ (u2_Shl_L0_v (0, 0) (n, a.hi, a.lo)).fst))
          (Tr.ast (decide (0 ≤ IntKind.i64.wrap (64 - (u2_Shl_L0_v (0, 0) (n, a.hi, a.lo)).fst)))
            (Tr.ast (decide (0 ≤ (u2_Shl_L0_v (0, 0) (n, a.hi, a.lo)).fst))
              (Tr.leaf
                (U2.mk
                  (bitsI BinOp.or IntKind.u64
                    (shlI IntKind.u64 (u2_Shl_L0_v (0, 0) (n, a.hi, a.lo)).snd.fst
                      (u2_Shl_L0_v (0, 0) (n, a.hi, a.lo)).fst)
                    (shrI IntKind.u64 (u2_Shl_L0_v (0, 0) (n, a.hi, a.lo)).snd.snd
                      (IntKind.i64.wrap (64 - (u2_Shl_L0_v (0, 0) (n, a.hi, a.lo)).fst))))
                  (shlI IntKind.u64 (u2_Shl_L0_v (0, 0) (n, a.hi, a.lo)).snd.snd
                    (u2_Shl_L0_v (0, 0) (n, a.hi, a.lo)).fst))))))))
def u2_Shl_t (a : U2) (n : Int) : Tr (U2) := u2_Shl_T u2_Shl_L0_ok u2_Shl_L0_rt u2_Shl_L0_v u2_Shl_L0_rv a n
def u2_Shl (a : U2) (n : Int) : U2 := (u2_Shl_t a n).val
def u2_Shl_s (a : U2) (n : Int) : Bool := (u2_Shl_t a n).safe
def u2_Shr_L0_T  (_v5 : Bool) (_h1_0 : Int) (_h1_1 : Int) (v1 : Int) (v6 : Bool) (h0_0 : Int) (h0_1 : Int) : Tr ((Int × Bool × Int × Int) ⊕ ((Int × Bool × Int × Int) ⊕ (Bool × Int × Int))) :=
  Tr.br (decide (v1 ≥ 64))
    (Tr.br v6
      (Tr.br (and (h0_0 == 0) true) (Tr.leaf (Sum.inr (Sum.inr (true, 0, h0_0))))
        (Tr.leaf (Sum.inl (IntKind.i64.wrap (v1 - 64), true, 0, h0_0))))
      (Tr.br (and (h0_0 == 0) true) (Tr.leaf (Sum.inr (Sum.inr (h0_1 != 0, 0, h0_0))))
        (Tr.leaf (Sum.inl (IntKind.i64.wrap (v1 - 64), h0_1 != 0, 0, h0_0)))))
    (Tr.leaf (Sum.inr (Sum.inl (v1, v6, h0_0, h0_1))))
def u2_Shr_L0_step (p : Bool × Int × Int) (x : Int × Bool × Int × Int) : Tr ((Int × Bool × Int × Int) ⊕ ((Int × Bool × Int × Int) ⊕ (Bool × Int × Int))) := u2_Shr_L0_T  p.1 p.2.1 p.2.2 x.1 x.2.1 x.2.2.1 x.2.2.2
def u2_Shr_L0_r (p : Bool × Int × Int) (x : Int × Bool × Int × Int) : Option ((Int × Bool × Int × Int) ⊕ (Bool × Int × Int)) := runB (u2_Shr_L0_step p) x
def u2_Shr_L0_rt (p : Bool × Int × Int) (x : Int × Bool × Int × Int) : Bool := isR (u2_Shr_L0_r p x)
def u2_Shr_L0_v (p : Bool × Int × Int) (x : Int × Bool × Int × Int) : Int × Bool × Int × Int := outL_ x (u2_Shr_L0_r p x)
def u2_Shr_L0_rv (p : Bool × Int × Int) (x : Int × Bool × Int × Int) : Bool × Int × Int := outR_ (false, 0, 0) (u2_Shr_L0_r p x)
def u2_Shr_L0_ok (p : Bool × Int × Int) (x : Int × Bool × Int × Int) : Bool := (u2_Shr_L0_r p x).isSome
def u2_Shr_T (u2_Shr_L0_ok : (Bool × Int × Int) → (Int × Bool × Int × Int) → Bool) (u2_Shr_L0_rt : (Bool × Int × Int) → (Int × Bool × Int × Int) → Bool) (u2_Shr_L0_v : (Bool × Int × Int) → (Int × Bool × Int × Int) → Int × Bool × Int × Int) (u2_Shr_L0_rv : (Bool × Int × Int) → (Int × Bool × Int × Int) → Bool × Int × Int) (a : U2) (n : Int) : Tr (U2 × Bool) :=
  let t0 : Bool × Int × Int := (false, 0, 0);
  let t1 : Int × Bool × Int × Int := (n, false, a.hi, a.lo);
  let t2 : Int × Bool × Int × Int := u2_Shr_L0_v t0 t1;
  let t3 : Bool × Int × Int := u2_Shr_L0_rv t0 t1;
  let t4 : Int × Int := t3.snd;
  let t5 : Int := t2.fst;
  let t6 : Bool × Int × Int := t2.snd;
  let t7 : Int × Int := t6.snd;
  let t8 : Bool := t6.fst;
  let t9 : Int := t7.fst;
  let t10 : Int := t7.snd;
  let t11 : Int := IntKind.i64.wrap (64 - t5);
  let t12 : Bool := decide (0 ≤ t5);
  let t13 : Bool := decide (0 ≤ t11);
  let t14 : U2 :=
    U2.mk (shrI IntKind.u64 t9 t5) (bitsI BinOp.or IntKind.u64 (shrI IntKind.u64 t10 t5) (shlI IntKind.u64 t9 t11));
  Tr.ast (u2_Shr_L0_ok t0 t1)
    (Tr.br (u2_Shr_L0_rt t0 t1) (Tr.leaf (U2.mk t4.fst t4.snd, t3.fst))
      (Tr.br (decide (t5 ≤ 0)) (Tr.leaf (U2.mk t9 t10, t8))
        (Tr.ast t12
          (Tr.ast t12
            (Tr.ast t13 (Tr.br t8 (Tr.leaf (t14, true)) (Tr.ast t13 (Tr.leaf (t14, shlI IntKind.u64 t10 t11 != 0)))))))))
def u2_Shr_t (a : U2) (n : Int) : Tr (U2 × Bool) := u2_Shr_T u2_Shr_L0_ok u2_Shr_L0_rt u2_Shr_L0_v u2_Shr_L0_rv a n
def u2_Shr (a : U2) (n : Int) : U2 × Bool := (u2_Shr_t a n).val
def u2_Shr_s (a : U2) (n : Int) : Bool := (u2_Shr_t a n).safe
def u2_Div_T (bits_Div64 : Int → Int → Int → Int × Int) (bits_Div64_s : Int → Int → Int → Bool) (a : U2) (b : Int) : Tr (U2 × Int) :=
  Tr.br (b == 0) (Tr.leaf (U2.mk 0 0, 0))
    (Tr.ast (bits_Div64_s 0 a.hi b)
      (Tr.ast (bits_Div64_s (bits_Div64 0 a.hi b).snd a.lo b)
        (Tr.leaf
          (U2.mk (bits_Div64 0 a.hi b).fst (bits_Div64 (bits_Div64 0 a.hi b).snd a.lo b).fst,
            (bits_Div64 (bits_Div64 0 a.hi b).snd a.lo b).snd))))
def u2_Div_t (a : U2) (b : Int) : Tr (U2 × Int) := u2_Div_T bits_Div64 bits_Div64_s a b
def u2_Div (a : U2) (b : Int) : U2 × Int := (u2_Div_t a b).val
def u2_Div_s (a : U2) (b : Int) : Bool := (u2_Div_t a b).safe
def u2_Sqrt_L0_T (wide_Mul : Int → Int → U2) (u2_Cmp : U2 → U2 → Int) (_v2 : Int) (h0_0 : Int) (h0_1 : Int) (_h1_0 : Int) (_h1_1 : Int) (v4 : Int) (v5 : Int) : Tr ((Int × Int) ⊕ (Int × Int)) :=
  Tr.br (decide (v5 > 0))
    (Tr.br
      (decide
        (u2_Cmp (wide_Mul (bitsI BinOp.or IntKind.u64 v4 v5) (bitsI BinOp.or IntKind.u64 v4 v5)) (U2.mk h0_0 h0_1) ≤ 0))
      (Tr.leaf (Sum.inl (bitsI BinOp.or IntKind.u64 v4 v5, shrI IntKind.u64 v5 1)))
      (Tr.leaf (Sum.inl (v4, shrI IntKind.u64 v5 1))))
    (Tr.leaf (Sum.inr (v4, v5)))
def u2_Sqrt_L0_step (p : Int × Int × Int × Int × Int) (x : Int × Int) : Tr ((Int × Int) ⊕ (Int × Int)) := u2_Sqrt_L0_T wide_Mul u2_Cmp p.1 p.2.1 p.2.2.1 p.2.2.2.1 p.2.2.2.2 x.1 x.2
def u2_Sqrt_L0_r (p : Int × Int × Int × Int × Int) (x : Int × Int) : Option (Int × Int) := runB (u2_Sqrt_L0_step p) x
def u2_Sqrt_L0_v (p : Int × Int × Int × Int × Int) (x : Int × Int) : Int × Int := (u2_Sqrt_L0_r p x).getD x
def u2_Sqrt_L0_ok (p : Int × Int × Int × Int × Int) (x : Int × Int) : Bool := (u2_Sqrt_L0_r p x).isSome
def u2_Sqrt_T (wide_Mul : Int → Int → U2) (u2_Sub : U2 → U2 → U2 × Int) (u2_Sub_s : U2 → U2 → Bool) (u2_Sqrt_L0_ok : (Int × Int × Int × Int × Int) → (Int × Int) → Bool) (u2_Sqrt_L0_v : (Int × Int × Int × Int × Int) → (Int × Int) → Int × Int) (a : U2) : Tr (Int × U2) :=
  Tr.ast (u2_Sqrt_L0_ok (0, a.hi, a.lo, 0, 0) (0, 9223372036854775808))
    (Tr.ast
      (u2_Sub_s a
        (wide_Mul (u2_Sqrt_L0_v (0, a.hi, a.lo, 0, 0) (0, 9223372036854775808)).fst
          (u2_Sqrt_L0_v (0, a.hi, a.lo, 0, 0) (0, 9223372036854775808)).fst))
      (Tr.leaf
        ((u2_Sqrt_L0_v (0, a.hi, a.lo, 0, 0) (0, 9223372036854775808)).fst,
          (u2_Sub a
              (wide_Mul (u2_Sqrt_L0_v (0, a.hi, a.lo, 0, 0) (0, 9223372036854775808)).fst
                (u2_Sqrt_L0_v (0, a.hi, a.lo, 0, 0) (0, 9223372036854775808)).fst)).fst)))
def u2_Sqrt_t (a : U2) : Tr (Int × U2) := u2_Sqrt_T wide_Mul u2_Sub u2_Sub_s u2_Sqrt_L0_ok u2_Sqrt_L0_v a
def u2_Sqrt (a : U2) : Int × U2 := (u2_Sqrt_t a).val
def u2_Sqrt_s (a : U2) : Bool := (u2_Sqrt_t a).safe
end Go.Fb
namespace Go.Fb
open Go.Ev
def r1_Of1_L1_T  (v0 : List Int) (v4 : Int) (_v6 : Int) (_v7 : List Int) (_v8 : Int) (_v9 : Bool) (v5 : Int) (h0 : List Bool) : Tr ((Int × (List Bool)) ⊕ (Int × (List Bool))) :=
  Tr.br (decide (v5 < 64))
    (Tr.ast (and (decide (0 ≤ v4)) (decide (v4 < (v0.length : Int))))
      (Tr.ast (decide (0 ≤ IntKind.u64.wrap v5))
        (Tr.ast
          (decide
            ((h0.length +
                  [bitsI BinOp.and IntKind.u64 (shrI IntKind.u64 (v0.getD v4.toNat 0) (IntKind.u64.wrap v5)) 1 ==
                        1].length) *
                1 ≤
              140737488355328))
          (Tr.leaf
            (Sum.inl
              (IntKind.i64.wrap (v5 + 1),
                h0 ++
                  [bitsI BinOp.and IntKind.u64 (shrI IntKind.u64 (v0.getD v4.toNat 0) (IntKind.u64.wrap v5)) 1 == 1]))))))
    (Tr.leaf (Sum.inr (v5, h0)))
def r1_Of1_L1_step (p : (List Int) × Int × Int × (List Int) × Int × Bool) (x : Int × (List Bool)) : Tr ((Int × (List Bool)) ⊕ (Int × (List Bool))) := r1_Of1_L1_T  p.1 p.2.1 p.2.2.1 p.2.2.2.1 p.2.2.2.2.1 p.2.2.2.2.2 x.1 x.2
def r1_Of1_L1_r (p : (List Int) × Int × Int × (List Int) × Int × Bool) (x : Int × (List Bool)) : Option (Int × (List Bool)) := runB (r1_Of1_L1_step p) x
def r1_Of1_L1_v (p : (List Int) × Int × Int × (List Int) × Int × Bool) (x : Int × (List Bool)) : Int × (List Bool) := (r1_Of1_L1_r p x).getD x
def r1_Of1_L1_ok (p : (List Int) × Int × Int × (List Int) × Int × Bool) (x : Int × (List Bool)) : Bool := (r1_Of1_L1_r p x).isSome
def r1_Of1_T (r1_Of1_L1_ok : ((List Int) × Int × Int × (List Int) × Int × Bool) → (Int × (List Bool)) → Bool) (r1_Of1_L1_v : ((List Int) × Int × Int × (List Int) × Int × Bool) → (Int × (List Bool)) → Int × (List Bool)) (l : Int) : Tr ((List Bool)) :=
  Tr.ast (r1_Of1_L1_ok (to1 l, 0, 0, to1 l, ((to1 l).length : Int), true) (0, []))
    (Tr.leaf (r1_Of1_L1_v (to1 l, 0, 0, to1 l, ((to1 l).length : Int), true) (0, [])).snd)
def r1_Of1_t (l : Int) : Tr ((List Bool)) := r1_Of1_T r1_Of1_L1_ok r1_Of1_L1_v l
def r1_Of1 (l : Int) : (List Bool) := (r1_Of1_t l).val
def r1_Of1_s (l : Int) : Bool := (r1_Of1_t l).safe
def r1_Of2_L1_T  (v0 : List Int) (v4 : Int) (_v6 : Int) (_v7 : List Int) (_v8 : Int) (_v9 : Bool) (v5 : Int) (h0 : List Bool) : Tr ((Int × (List Bool)) ⊕ (Int × (List Bool))) :=
  Tr.br (decide (v5 < 64))
    (Tr.ast (and (decide (0 ≤ v4)) (decide (v4 < (v0.length : Int))))
      (Tr.ast (decide (0 ≤ IntKind.u64.wrap v5))
        (Tr.ast
          (decide
            ((h0.length +
                  [bitsI BinOp.and IntKind.u64 (shrI IntKind.u64 (v0.getD v4.toNat 0) (IntKind.u64.wrap v5)) 1 ==
                        1].length) *
                1 ≤
              140737488355328))
          (Tr.leaf
            (Sum.inl
              (IntKind.i64.wrap (v5 + 1),
                h0 ++
                  [bitsI BinOp.and IntKind.u64 (shrI IntKind.u64 (v0.getD v4.toNat 0) (IntKind.u64.wrap v5)) 1 == 1]))))))
    (Tr.leaf (Sum.inr (v5, h0)))
def r1_Of2_L1_step (p : (List Int) × Int × Int × (List Int) × Int × Bool) (x : Int × (List Bool)) : Tr ((Int × (List Bool)) ⊕ (Int × (List Bool))) := r1_Of2_L1_T  p.1 p.2.1 p.2.2.1 p.2.2.2.1 p.2.2.2.2.1 p.2.2.2.2.2 x.1 x.2
def r1_Of2_L1_r (p : (List Int) × Int × Int × (List Int) × Int × Bool) (x : Int × (List Bool)) : Option (Int × (List Bool)) := runB (r1_Of2_L1_step p) x
def r1_Of2_L1_v (p : (List Int) × Int × Int × (List Int) × Int × Bool) (x : Int × (List Bool)) : Int × (List Bool) := (r1_Of2_L1_r p x).getD x
def r1_Of2_L1_ok (p : (List Int) × Int × Int × (List Int) × Int × Bool) (x : Int × (List Bool)) : Bool := (r1_Of2_L1_r p x).isSome
def r1_Of2_T (r1_Of2_L1_ok : ((List Int) × Int × Int × (List Int) × Int × Bool) → (Int × (List Bool)) → Bool) (r1_Of2_L1_v : ((List Int) × Int × Int × (List Int) × Int × Bool) → (Int × (List Bool)) → Int × (List Bool)) (l : Int × Int) : Tr ((List Bool)) :=
  Tr.ast (r1_Of2_L1_ok (to2 l, 0, 0, to2 l, ((to2 l).length : Int), true) (0, []))
    (Tr.ast
      (r1_Of2_L1_ok (to2 l, IntKind.i64.wrap (0 + 1), IntKind.i64.wrap (0 + 1), to2 l, ((to2 l).length : Int), true)
        (0, (r1_Of2_L1_v (to2 l, 0, 0, to2 l, ((to2 l).length : Int), true) (0, [])).snd))
      (Tr.leaf
        (r1_Of2_L1_v (to2 l, IntKind.i64.wrap (0 + 1), IntKind.i64.wrap (0 + 1), to2 l, ((to2 l).length : Int), true)
            (0, (r1_Of2_L1_v (to2 l, 0, 0, to2 l, ((to2 l).length : Int), true) (0, [])).snd)).snd))
def r1_Of2_t (l : Int × Int) : Tr ((List Bool)) := r1_Of2_T r1_Of2_L1_ok r1_Of2_L1_v l
def r1_Of2 (l : Int × Int) : (List Bool) := (r1_Of2_t l).val
def r1_Of2_s (l : Int × Int) : Bool := (r1_Of2_t l).safe
def r1_bit_T  (a : List Bool) (i : Int) : Tr (Bool) :=
  Tr.br (decide (i ≥ 0))
    (Tr.br (decide (i < (a.length : Int)))
      (Tr.ast (and (decide (0 ≤ i)) (decide (i < (a.length : Int)))) (Tr.leaf (a.getD i.toNat false))) (Tr.leaf false))
    (Tr.leaf false)
def r1_bit_t (a : List Bool) (i : Int) : Tr (Bool) := r1_bit_T  a i
def r1_bit (a : List Bool) (i : Int) : Bool := (r1_bit_t a i).val
def r1_bit_s (a : List Bool) (i : Int) : Bool := (r1_bit_t a i).safe
def r1_Add_L0_T (r1_bit : (List Bool) → Int → Bool) (r1_bit_s : (List Bool) → Int → Bool) (v0 : List Bool) (v1 : List Bool) (v6 : Bool) (v7 : Int) (h0 : List Bool) : Tr ((Bool × Int × (List Bool)) ⊕ (Bool × Int × (List Bool))) :=
  let t0 : List Bool := [!(!r1_bit v0 v7 == r1_bit v1 v7) == v6];
  let t1 : Nat := (h0.length + t0.length) * 1;
  let t2 : Int × List Bool := (IntKind.i64.wrap (v7 + 1), h0 ++ t0);
  Tr.br (decide (v7 < (v0.length : Int)))
    (Tr.ast (r1_bit_s v0 v7)
      (Tr.ast (r1_bit_s v1 v7)
        (Tr.ast (decide (t1 ≤ 140737488355328))
          (Tr.br (r1_bit v0 v7)
            (Tr.br (r1_bit v1 v7) (Tr.leaf (Sum.inl (true, t2)))
              (Tr.br (r1_bit v0 v7)
                (Tr.br v6 (Tr.leaf (Sum.inl (true, t2)))
                  (Tr.br (r1_bit v1 v7) (Tr.leaf (Sum.inl (v6, t2))) (Tr.leaf (Sum.inl (false, t2)))))
                (Tr.br (r1_bit v1 v7) (Tr.leaf (Sum.inl (v6, t2))) (Tr.leaf (Sum.inl (false, t2))))))
            (Tr.br (r1_bit v0 v7)
              (Tr.br v6 (Tr.leaf (Sum.inl (true, t2)))
                (Tr.br (r1_bit v1 v7) (Tr.leaf (Sum.inl (v6, t2))) (Tr.leaf (Sum.inl (false, t2)))))
              (Tr.br (r1_bit v1 v7) (Tr.leaf (Sum.inl (v6, t2))) (Tr.leaf (Sum.inl (false, t2)))))))))
    (Tr.br (decide (v7 < (v1.length : Int)))
      (Tr.ast (r1_bit_s v0 v7)
        (Tr.ast (r1_bit_s v1 v7)
          (Tr.ast (decide (t1 ≤ 140737488355328))
            (Tr.br (r1_bit v0 v7)
              (Tr.br (r1_bit v1 v7) (Tr.leaf (Sum.inl (true, t2)))
                (Tr.br (r1_bit v0 v7)
                  (Tr.br v6 (Tr.leaf (Sum.inl (true, t2)))
                    (Tr.br (r1_bit v1 v7) (Tr.leaf (Sum.inl (v6, t2))) (Tr.leaf (Sum.inl (false, t2)))))
                  (Tr.br (r1_bit v1 v7) (Tr.leaf (Sum.inl (v6, t2))) (Tr.leaf (Sum.inl (false, t2))))))
              (Tr.br (r1_bit v0 v7)
                (Tr.br v6 (Tr.leaf (Sum.inl (true, t2)))
                  (Tr.br (r1_bit v1 v7) (Tr.leaf (Sum.inl (v6, t2))) (Tr.leaf (Sum.inl (false, t2)))))
                (Tr.br (r1_bit v1 v7) (Tr.leaf (Sum.inl (v6, t2))) (Tr.leaf (Sum.inl (false, t2)))))))))
      (Tr.br v6
        (Tr.ast (r1_bit_s v0 v7)
          (Tr.ast (r1_bit_s v1 v7)
            (Tr.ast (decide (t1 ≤ 140737488355328))
              (Tr.br (r1_bit v0 v7)
                (Tr.br (r1_bit v1 v7) (Tr.leaf (Sum.inl (true, t2)))
                  (Tr.br (r1_bit v0 v7)
                    (Tr.br v6 (Tr.leaf (Sum.inl (true, t2)))
                      (Tr.br (r1_bit v1 v7) (Tr.leaf (Sum.inl (v6, t2))) (Tr.leaf (Sum.inl (false, t2)))))
                    (Tr.br (r1_bit v1 v7) (Tr.leaf (Sum.inl (v6, t2))) (Tr.leaf (Sum.inl (false, t2))))))
                (Tr.br (r1_bit v0 v7)
                  (Tr.br v6 (Tr.leaf (Sum.inl (true, t2)))
                    (Tr.br (r1_bit v1 v7) (Tr.leaf (Sum.inl (v6, t2))) (Tr.leaf (Sum.inl (false, t2)))))
                  (Tr.br (r1_bit v1 v7) (Tr.leaf (Sum.inl (v6, t2))) (Tr.leaf (Sum.inl (false, t2)))))))))
        (Tr.leaf (Sum.inr (v6, v7, h0)))))
def r1_Add_L0_step (p : (List Bool) × (List Bool)) (x : Bool × Int × (List Bool)) : Tr ((Bool × Int × (List Bool)) ⊕ (Bool × Int × (List Bool))) := r1_Add_L0_T r1_bit r1_bit_s p.1 p.2 x.1 x.2.1 x.2.2
def r1_Add_L0_r (p : (List Bool) × (List Bool)) (x : Bool × Int × (List Bool)) : Option (Bool × Int × (List Bool)) := runB (r1_Add_L0_step p) x
def r1_Add_L0_v (p : (List Bool) × (List Bool)) (x : Bool × Int × (List Bool)) : Bool × Int × (List Bool) := (r1_Add_L0_r p x).getD x
def r1_Add_L0_ok (p : (List Bool) × (List Bool)) (x : Bool × Int × (List Bool)) : Bool := (r1_Add_L0_r p x).isSome
def r1_Add_T (r1_Add_L0_ok : ((List Bool) × (List Bool)) → (Bool × Int × (List Bool)) → Bool) (r1_Add_L0_v : ((List Bool) × (List Bool)) → (Bool × Int × (List Bool)) → Bool × Int × (List Bool)) (a : List Bool) (b : List Bool) : Tr ((List Bool)) :=
  Tr.ast (r1_Add_L0_ok (a, b) (false, 0, [])) (Tr.leaf (r1_Add_L0_v (a, b) (false, 0, [])).snd.snd)
def r1_Add_t (a : List Bool) (b : List Bool) : Tr ((List Bool)) := r1_Add_T r1_Add_L0_ok r1_Add_L0_v a b
def r1_Add (a : List Bool) (b : List Bool) : (List Bool) := (r1_Add_t a b).val
def r1_Add_s (a : List Bool) (b : List Bool) : Bool := (r1_Add_t a b).safe
def r1_Cmp_L0_T (r1_bit : (List Bool) → Int → Bool) (r1_bit_s : (List Bool) → Int → Bool) (v0 : List Bool) (v1 : List Bool) (_v4 : Int) (v5 : Int) : Tr ((Int) ⊕ ((Int) ⊕ (Int))) :=
  Tr.br (decide (v5 ≥ 0))
    (Tr.ast (r1_bit_s v0 v5)
      (Tr.ast (r1_bit_s v1 v5)
        (Tr.br (!r1_bit v0 v5 == r1_bit v1 v5)
          (Tr.br (r1_bit v0 v5) (Tr.leaf (Sum.inr (Sum.inr 1))) (Tr.leaf (Sum.inr (Sum.inr (-1)))))
          (Tr.leaf (Sum.inl (IntKind.i64.wrap (v5 - 1)))))))
    (Tr.leaf (Sum.inr (Sum.inl v5)))
def r1_Cmp_L0_step (p : (List Bool) × (List Bool) × Int) (x : Int) : Tr ((Int) ⊕ ((Int) ⊕ (Int))) := r1_Cmp_L0_T r1_bit r1_bit_s p.1 p.2.1 p.2.2 x
def r1_Cmp_L0_r (p : (List Bool) × (List Bool) × Int) (x : Int) : Option ((Int) ⊕ (Int)) := runB (r1_Cmp_L0_step p) x
def r1_Cmp_L0_rt (p : (List Bool) × (List Bool) × Int) (x : Int) : Bool := isR (r1_Cmp_L0_r p x)
def r1_Cmp_L0_v (p : (List Bool) × (List Bool) × Int) (x : Int) : Int := outL_ x (r1_Cmp_L0_r p x)
def r1_Cmp_L0_rv (p : (List Bool) × (List Bool) × Int) (x : Int) : Int := outR_ 0 (r1_Cmp_L0_r p x)
def r1_Cmp_L0_ok (p : (List Bool) × (List Bool) × Int) (x : Int) : Bool := (r1_Cmp_L0_r p x).isSome
def r1_Cmp_T (r1_Cmp_L0_ok : ((List Bool) × (List Bool) × Int) → Int → Bool) (r1_Cmp_L0_rt : ((List Bool) × (List Bool) × Int) → Int → Bool) (r1_Cmp_L0_rv : ((List Bool) × (List Bool) × Int) → Int → Int) (a : List Bool) (b : List Bool) : Tr (Int) :=
  Tr.ast (r1_Cmp_L0_ok (a, b, 0) (IntKind.i64.wrap (imax (a.length : Int) (b.length : Int) - 1)))
    (Tr.br (r1_Cmp_L0_rt (a, b, 0) (IntKind.i64.wrap (imax (a.length : Int) (b.length : Int) - 1)))
      (Tr.leaf (r1_Cmp_L0_rv (a, b, 0) (IntKind.i64.wrap (imax (a.length : Int) (b.length : Int) - 1)))) (Tr.leaf 0))
def r1_Cmp_t (a : List Bool) (b : List Bool) : Tr (Int) := r1_Cmp_T r1_Cmp_L0_ok r1_Cmp_L0_rt r1_Cmp_L0_rv a b
def r1_Cmp (a : List Bool) (b : List Bool) : Int := (r1_Cmp_t a b).val
def r1_Cmp_s (a : List Bool) (b : List Bool) : Bool := (r1_Cmp_t a b).safe
def r1_Sub_L0_T (r1_bit : (List Bool) → Int → Bool) (r1_bit_s : (List Bool) → Int → Bool) (v0 : List Bool) (v1 : List Bool) (v2 : Int) (_v7 : Bool) (v9 : Bool) (v10 : Int) (h0 : List Bool) : Tr ((Bool × Int × (List Bool)) ⊕ (Bool × Int × (List Bool))) :=
  Tr.br (decide (v10 < v2))
    (Tr.ast (r1_bit_s v0 v10)
      (Tr.ast (r1_bit_s v1 v10)
        (Tr.ast (decide ((h0.length + [!(!r1_bit v0 v10 == r1_bit v1 v10) == v9].length) * 1 ≤ 140737488355328))
          (Tr.br (!r1_bit v0 v10)
            (Tr.br (r1_bit v1 v10)
              (Tr.leaf (Sum.inl (true, IntKind.i64.wrap (v10 + 1), h0 ++ [!(!r1_bit v0 v10 == r1_bit v1 v10) == v9])))
              (Tr.br v9
                (Tr.leaf (Sum.inl (true, IntKind.i64.wrap (v10 + 1), h0 ++ [!(!r1_bit v0 v10 == r1_bit v1 v10) == v9])))
                (Tr.br (r1_bit v0 v10)
                  (Tr.br (r1_bit v1 v10)
                    (Tr.leaf (Sum.inl (v9, IntKind.i64.wrap (v10 + 1), h0 ++ [!(!r1_bit v0 v10 == r1_bit v1 v10) == v9])))
                    (Tr.leaf
                      (Sum.inl (false, IntKind.i64.wrap (v10 + 1), h0 ++ [!(!r1_bit v0 v10 == r1_bit v1 v10) == v9]))))
                  (Tr.leaf
                    (Sum.inl (false, IntKind.i64.wrap (v10 + 1), h0 ++ [!(!r1_bit v0 v10 == r1_bit v1 v10) == v9]))))))
            (Tr.br (r1_bit v0 v10)
              (Tr.br (r1_bit v1 v10)
                (Tr.leaf (Sum.inl (v9, IntKind.i64.wrap (v10 + 1), h0 ++ [!(!r1_bit v0 v10 == r1_bit v1 v10) == v9])))
                (Tr.leaf (Sum.inl (false, IntKind.i64.wrap (v10 + 1), h0 ++ [!(!r1_bit v0 v10 == r1_bit v1 v10) == v9]))))
              (Tr.leaf
                (Sum.inl (false, IntKind.i64.wrap (v10 + 1), h0 ++ [!(!r1_bit v0 v10 == r1_bit v1 v10) == v9]))))))))
    (Tr.leaf (Sum.inr (v9, v10, h0)))
def r1_Sub_L0_step (p : (List Bool) × (List Bool) × Int × Bool) (x : Bool × Int × (List Bool)) : Tr ((Bool × Int × (List Bool)) ⊕ (Bool × Int × (List Bool))) := r1_Sub_L0_T r1_bit r1_bit_s p.1 p.2.1 p.2.2.1 p.2.2.2 x.1 x.2.1 x.2.2
def r1_Sub_L0_r (p : (List Bool) × (List Bool) × Int × Bool) (x : Bool × Int × (List Bool)) : Option (Bool × Int × (List Bool)) := runB (r1_Sub_L0_step p) x
def r1_Sub_L0_v (p : (List Bool) × (List Bool) × Int × Bool) (x : Bool × Int × (List Bool)) : Bool × Int × (List Bool) := (r1_Sub_L0_r p x).getD x
def r1_Sub_L0_ok (p : (List Bool) × (List Bool) × Int × Bool) (x : Bool × Int × (List Bool)) : Bool := (r1_Sub_L0_r p x).isSome
def r1_Sub_T (r1_Sub_L0_ok : ((List Bool) × (List Bool) × Int × Bool) → (Bool × Int × (List Bool)) → Bool) (r1_Sub_L0_v : ((List Bool) × (List Bool) × Int × Bool) → (Bool × Int × (List Bool)) → Bool × Int × (List Bool)) (a : List Bool) (b : List Bool) (n : Int) : Tr ((List Bool) × Bool) :=
  Tr.ast (r1_Sub_L0_ok (a, b, n, false) (false, 0, []))
    (Tr.leaf ((r1_Sub_L0_v (a, b, n, false) (false, 0, [])).snd.snd, (r1_Sub_L0_v (a, b, n, false) (false, 0, [])).fst))
def r1_Sub_t (a : List Bool) (b : List Bool) (n : Int) : Tr ((List Bool) × Bool) := r1_Sub_T r1_Sub_L0_ok r1_Sub_L0_v a b n
def r1_Sub (a : List Bool) (b : List Bool) (n : Int) : (List Bool) × Bool := (r1_Sub_t a b n).val
def r1_Sub_s (a : List Bool) (b : List Bool) (n : Int) : Bool := (r1_Sub_t a b n).safe
def r1_Shl_L0_T  (_v0 : List Bool) (v1 : Int) (v6 : Int) (h0 : List Bool) : Tr ((Int × (List Bool)) ⊕ (Int × (List Bool))) :=
  Tr.br (decide (v6 < v1))
    (Tr.ast (decide ((h0.length + [false].length) * 1 ≤ 140737488355328))
      (Tr.leaf (Sum.inl (IntKind.i64.wrap (v6 + 1), h0 ++ [false]))))
    (Tr.leaf (Sum.inr (v6, h0)))
def r1_Shl_L0_step (p : (List Bool) × Int) (x : Int × (List Bool)) : Tr ((Int × (List Bool)) ⊕ (Int × (List Bool))) := r1_Shl_L0_T  p.1 p.2 x.1 x.2
def r1_Shl_L0_r (p : (List Bool) × Int) (x : Int × (List Bool)) : Option (Int × (List Bool)) := runB (r1_Shl_L0_step p) x
def r1_Shl_L0_v (p : (List Bool) × Int) (x : Int × (List Bool)) : Int × (List Bool) := (r1_Shl_L0_r p x).getD x
def r1_Shl_L0_ok (p : (List Bool) × Int) (x : Int × (List Bool)) : Bool := (r1_Shl_L0_r p x).isSome
def r1_Shl_T (r1_Shl_L0_ok : ((List Bool) × Int) → (Int × (List Bool)) → Bool) (r1_Shl_L0_v : ((List Bool) × Int) → (Int × (List Bool)) → Int × (List Bool)) (a : List Bool) (n : Int) : Tr ((List Bool)) :=
  Tr.ast (r1_Shl_L0_ok (a, n) (0, []))
    (Tr.ast (decide (((r1_Shl_L0_v (a, n) (0, [])).snd.length + a.length) * 1 ≤ 140737488355328))
      (Tr.leaf ((r1_Shl_L0_v (a, n) (0, [])).snd ++ a)))
def r1_Shl_t (a : List Bool) (n : Int) : Tr ((List Bool)) := r1_Shl_T r1_Shl_L0_ok r1_Shl_L0_v a n
def r1_Shl (a : List Bool) (n : Int) : (List Bool) := (r1_Shl_t a n).val
def r1_Shl_s (a : List Bool) (n : Int) : Bool := (r1_Shl_t a n).safe
def r1_Mul_L0_T (r1_Shl : (List Bool) → Int → (List Bool)) (r1_Shl_s : (List Bool) → Int → Bool) (r1_Add : (List Bool) → (List Bool) → (List Bool)) (r1_Add_s : (List Bool) → (List Bool) → Bool) (v0 : List Bool) (v1 : List Bool) (v5 : List Bool) (v6 : Int) : Tr (((List Bool) × Int) ⊕ ((List Bool) × Int)) :=
  Tr.br (decide (v6 < (v1.length : Int)))
    (Tr.ast (and (decide (0 ≤ v6)) (decide (v6 < (v1.length : Int))))
      (Tr.br (v1.getD v6.toNat false)
        (Tr.ast (r1_Shl_s v0 v6)
          (Tr.ast (r1_Add_s v5 (r1_Shl v0 v6)) (Tr.leaf (Sum.inl (r1_Add v5 (r1_Shl v0 v6), IntKind.i64.wrap (v6 + 1))))))
        (Tr.leaf (Sum.inl (v5, IntKind.i64.wrap (v6 + 1))))))
    (Tr.leaf (Sum.inr (v5, v6)))
def r1_Mul_L0_step (p : (List Bool) × (List Bool)) (x : (List Bool) × Int) : Tr (((List Bool) × Int) ⊕ ((List Bool) × Int)) := r1_Mul_L0_T r1_Shl r1_Shl_s r1_Add r1_Add_s p.1 p.2 x.1 x.2
def r1_Mul_L0_r (p : (List Bool) × (List Bool)) (x : (List Bool) × Int) : Option ((List Bool) × Int) := runB (r1_Mul_L0_step p) x
def r1_Mul_L0_v (p : (List Bool) × (List Bool)) (x : (List Bool) × Int) : (List Bool) × Int := (r1_Mul_L0_r p x).getD x
def r1_Mul_L0_ok (p : (List Bool) × (List Bool)) (x : (List Bool) × Int) : Bool := (r1_Mul_L0_r p x).isSome
def r1_Mul_T (r1_Mul_L0_ok : ((List Bool) × (List Bool)) → ((List Bool) × Int) → Bool) (r1_Mul_L0_v : ((List Bool) × (List Bool)) → ((List Bool) × Int) → (List Bool) × Int) (a : List Bool) (b : List Bool) : Tr ((List Bool)) :=
  Tr.ast (r1_Mul_L0_ok (a, b) ([], 0)) (Tr.leaf (r1_Mul_L0_v (a, b) ([], 0)).fst)
def r1_Mul_t (a : List Bool) (b : List Bool) : Tr ((List Bool)) := r1_Mul_T r1_Mul_L0_ok r1_Mul_L0_v a b
def r1_Mul (a : List Bool) (b : List Bool) : (List Bool) := (r1_Mul_t a b).val
def r1_Mul_s (a : List Bool) (b : List Bool) : Bool := (r1_Mul_t a b).safe
def r1_Len_L0_T  (v0 : List Bool) (_v2 : Int) (v3 : Int) : Tr ((Int) ⊕ (Int)) :=
  Tr.br (decide (v3 > 0))
    (Tr.ast (and (decide (0 ≤ IntKind.i64.wrap (v3 - 1))) (decide (IntKind.i64.wrap (v3 - 1) < (v0.length : Int))))
      (Tr.br (!v0.getD (IntKind.i64.wrap (v3 - 1)).toNat false) (Tr.leaf (Sum.inl (IntKind.i64.wrap (v3 - 1))))
        (Tr.leaf (Sum.inr v3))))
    (Tr.leaf (Sum.inr v3))
def r1_Len_L0_step (p : (List Bool) × Int) (x : Int) : Tr ((Int) ⊕ (Int)) := r1_Len_L0_T  p.1 p.2 x
def r1_Len_L0_r (p : (List Bool) × Int) (x : Int) : Option (Int) := runB (r1_Len_L0_step p) x
def r1_Len_L0_v (p : (List Bool) × Int) (x : Int) : Int := (r1_Len_L0_r p x).getD x
def r1_Len_L0_ok (p : (List Bool) × Int) (x : Int) : Bool := (r1_Len_L0_r p x).isSome
def r1_Len_T (r1_Len_L0_ok : ((List Bool) × Int) → Int → Bool) (r1_Len_L0_v : ((List Bool) × Int) → Int → Int) (a : List Bool) : Tr (Int) :=
  Tr.ast (r1_Len_L0_ok (a, 0) (a.length : Int)) (Tr.leaf (r1_Len_L0_v (a, 0) (a.length : Int)))
def r1_Len_t (a : List Bool) : Tr (Int) := r1_Len_T r1_Len_L0_ok r1_Len_L0_v a
def r1_Len (a : List Bool) : Int := (r1_Len_t a).val
def r1_Len_s (a : List Bool) : Bool := (r1_Len_t a).safe
end Go.Fb
namespace Go.Fb
open Go.Ev
end Go.Fb
