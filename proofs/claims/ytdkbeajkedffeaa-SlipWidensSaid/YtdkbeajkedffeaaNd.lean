/- Layer 2: what the functions compute, as definitions. Conditions: none. -/
import Derived.Test.YtdkbeajkedffeaaWd
namespace Go.Fb
open Go.Ev
def bits_Len32_T  (x : Int) : Tr (Int) := let t0 : Int := shrI IntKind.u32 x 16; let t1 : Int := IntKind.u8.wrap (shrI IntKind.u32 x 8); let t2 : Int := IntKind.u8.wrap t0; let t3 : Int := IntKind.u8.wrap (shrI IntKind.u32 t0 8); let t4 : Int := (len8.size : Int); Tr.br (decide (x ≥ 65536)) (Tr.br (decide (t0 ≥ 256)) (Tr.ast (decide (0 ≤ t3) && decide (t3 < t4)) (Tr.leaf (IntKind.i64.wrap (IntKind.i64.wrap (16 + 8) + IntKind.i64.wrap (strAt len8 t3))))) (Tr.ast (decide (0 ≤ t2) && decide (t2 < t4)) (Tr.leaf (IntKind.i64.wrap (16 + IntKind.i64.wrap (strAt len8 t2)))))) (Tr.br (decide (x ≥ 256)) (Tr.ast (decide (0 ≤ t1) && decide (t1 < t4)) (Tr.leaf (IntKind.i64.wrap (IntKind.i64.wrap (0 + 8) + IntKind.i64.wrap (strAt len8 t1))))) (Tr.ast (decide (0 ≤ IntKind.u8.wrap x) && decide (IntKind.u8.wrap x < t4)) (Tr.leaf (IntKind.i64.wrap (0 + IntKind.i64.wrap (strAt len8 (IntKind.u8.wrap x)))))))
def bits_Len32_t (x : Int) : Tr (Int) := bits_Len32_T  x
def bits_Len32 (x : Int) : Int := (bits_Len32_t x).val
def bits_LZ32_T (bits_Len32 : Int → Int) (x : Int) : Tr (Int) := Tr.leaf (IntKind.i64.wrap (32 - bits_Len32 x))
def bits_LZ32_t (x : Int) : Tr (Int) := bits_LZ32_T bits_Len32 x
def bits_LZ32 (x : Int) : Int := (bits_LZ32_t x).val
def n_trim_L0_T  (v0 : List Int) : Tr (((List Int)) ⊕ ((List Int))) := Tr.br (decide ((v0.length : Int) > 0)) (Tr.ast (decide (0 ≤ IntKind.i64.wrap ((v0.length : Int) - 1)) && decide (IntKind.i64.wrap ((v0.length : Int) - 1) < (v0.length : Int))) (Tr.br (v0.getD (IntKind.i64.wrap ((v0.length : Int) - 1)).toNat 0 == 0) (Tr.ast (decide (0 ≤ (some (IntKind.i64.wrap ((v0.length : Int) - 1))).getD (v0.length : Int)) && decide ((some (IntKind.i64.wrap ((v0.length : Int) - 1))).getD (v0.length : Int) ≤ (v0.length : Int))) (Tr.leaf (Sum.inl (List.take (((some (IntKind.i64.wrap ((v0.length : Int) - 1))).getD (v0.length : Int)).toNat - Int.toNat 0) (List.drop (Int.toNat 0) v0))))) (Tr.leaf (Sum.inr v0)))) (Tr.leaf (Sum.inr v0))
def n_trim_L0_step (_p : Unit) (x : (List Int)) : Tr (((List Int)) ⊕ ((List Int))) := n_trim_L0_T  x
def n_trim_L0_r (p : Unit) (x : (List Int)) : Option ((List Int)) := runB (n_trim_L0_step p) x
def n_trim_L0_v (p : Unit) (x : (List Int)) : (List Int) := (n_trim_L0_r p x).getD x
def n_trim_L0_ok (p : Unit) (x : (List Int)) : Bool := (n_trim_L0_r p x).isSome
def n_trim_T (n_trim_L0_ok : Unit → ((List Int)) → Bool) (n_trim_L0_v : Unit → ((List Int)) → (List Int)) (a : List Int) : Tr ((List Int)) := Tr.ast (n_trim_L0_ok () a) (Tr.leaf (n_trim_L0_v () a))
def n_trim_t (a : List Int) : Tr ((List Int)) := n_trim_T n_trim_L0_ok n_trim_L0_v a
def n_trim (a : List Int) : (List Int) := (n_trim_t a).val
def n_trim_s (a : List Int) : Bool := (n_trim_t a).safe
def n_New_T (n_trim : (List Int) → (List Int)) (n_trim_s : (List Int) → Bool) (x : Int) : Tr ((List Int)) := Tr.ast (n_trim_s [IntKind.u32.wrap x, IntKind.u32.wrap (shrI IntKind.u64 x 32)]) (Tr.leaf (n_trim [IntKind.u32.wrap x, IntKind.u32.wrap (shrI IntKind.u64 x 32)]))
def n_New_t (x : Int) : Tr ((List Int)) := n_New_T n_trim n_trim_s x
def n_New (x : Int) : (List Int) := (n_New_t x).val
def n_New_s (x : Int) : Bool := (n_New_t x).safe
def n_at_T  (a : List Int) (i : Int) : Tr (Int) := Tr.br (decide (i < (a.length : Int))) (Tr.ast (decide (0 ≤ i) && decide (i < (a.length : Int))) (Tr.leaf (IntKind.u64.wrap (a.getD i.toNat 0)))) (Tr.leaf 0)
def n_at_t (a : List Int) (i : Int) : Tr (Int) := n_at_T  a i
def n_at (a : List Int) (i : Int) : Int := (n_at_t a i).val
def n_at_s (a : List Int) (i : Int) : Bool := (n_at_t a i).safe
def n_Cmp_L0_T (n_at : (List Int) → Int → Int) (n_at_s : (List Int) → Int → Bool) (v0 : List Int) (v1 : List Int) (_v4 : Int) (v5 : Int) : Tr ((Int) ⊕ ((Int) ⊕ (Int))) := Tr.br (decide (v5 ≥ 0)) (Tr.ast (n_at_s v0 v5) (Tr.ast (n_at_s v1 v5) (Tr.br (n_at v0 v5 != n_at v1 v5) (Tr.br (decide (n_at v0 v5 < n_at v1 v5)) (Tr.leaf (Sum.inr (Sum.inr (-1)))) (Tr.leaf (Sum.inr (Sum.inr 1)))) (Tr.leaf (Sum.inl (IntKind.i64.wrap (v5 - 1))))))) (Tr.leaf (Sum.inr (Sum.inl v5)))
def n_Cmp_L0_step (p : (List Int) × (List Int) × Int) (x : Int) : Tr ((Int) ⊕ ((Int) ⊕ (Int))) := n_Cmp_L0_T n_at n_at_s p.1 p.2.1 p.2.2 x
def n_Cmp_L0_r (p : (List Int) × (List Int) × Int) (x : Int) : Option ((Int) ⊕ (Int)) := runB (n_Cmp_L0_step p) x
def n_Cmp_L0_rt (p : (List Int) × (List Int) × Int) (x : Int) : Bool := isR (n_Cmp_L0_r p x)
def n_Cmp_L0_v (p : (List Int) × (List Int) × Int) (x : Int) : Int := outL_ x (n_Cmp_L0_r p x)
def n_Cmp_L0_rv (p : (List Int) × (List Int) × Int) (x : Int) : Int := outR_ 0 (n_Cmp_L0_r p x)
def n_Cmp_L0_ok (p : (List Int) × (List Int) × Int) (x : Int) : Bool := (n_Cmp_L0_r p x).isSome
def n_Cmp_T (n_Cmp_L0_ok : ((List Int) × (List Int) × Int) → Int → Bool) (n_Cmp_L0_rt : ((List Int) × (List Int) × Int) → Int → Bool) (n_Cmp_L0_rv : ((List Int) × (List Int) × Int) → Int → Int) (a : List Int) (b : List Int) : Tr (Int) := Tr.ast (n_Cmp_L0_ok (a, b, 0) (IntKind.i64.wrap (imax (a.length : Int) (b.length : Int) - 1))) (Tr.br (n_Cmp_L0_rt (a, b, 0) (IntKind.i64.wrap (imax (a.length : Int) (b.length : Int) - 1))) (Tr.leaf (n_Cmp_L0_rv (a, b, 0) (IntKind.i64.wrap (imax (a.length : Int) (b.length : Int) - 1)))) (Tr.leaf 0))
def n_Cmp_t (a : List Int) (b : List Int) : Tr (Int) := n_Cmp_T n_Cmp_L0_ok n_Cmp_L0_rt n_Cmp_L0_rv a b
def n_Cmp (a : List Int) (b : List Int) : Int := (n_Cmp_t a b).val
def n_Cmp_s (a : List Int) (b : List Int) : Bool := (n_Cmp_t a b).safe
def n_Mul_L1_T  (_v1 : List Int) (v6 : Int) (v7 : Int) (_v17 : List Int) (_v18 : Int) (_v19 : Int) (_v20 : Bool) (_v21 : Int) (_v23 : Int) (v24 : List Int) (v25 : Int) (v8 : Int) (v26 : Int) (h0 : List Int) : Tr ((Int × Int × (List Int)) ⊕ (Int × Int × (List Int))) := Tr.br (decide (v26 < v25)) (Tr.ast (decide (0 ≤ v26) && decide (v26 < (v24.length : Int))) (Tr.ast (decide (0 ≤ IntKind.i64.wrap (v6 + v26)) && decide (IntKind.i64.wrap (v6 + v26) < (h0.length : Int))) (Tr.ast (decide (0 ≤ IntKind.i64.wrap (v6 + v26)) && decide (IntKind.i64.wrap (v6 + v26) < (h0.length : Int))) (Tr.leaf (Sum.inl (shrI IntKind.u64 (IntKind.u64.wrap (v8 + IntKind.u64.wrap (IntKind.u64.wrap (IntKind.u64.wrap v7 * IntKind.u64.wrap (v24.getD v26.toNat 0)) + IntKind.u64.wrap (h0.getD (IntKind.i64.wrap (v6 + v26)).toNat 0)))) 32, IntKind.i64.wrap (v26 + 1), h0.set (IntKind.i64.wrap (v6 + v26)).toNat (IntKind.u32.wrap (IntKind.u64.wrap (v8 + IntKind.u64.wrap (IntKind.u64.wrap (IntKind.u64.wrap v7 * IntKind.u64.wrap (v24.getD v26.toNat 0)) + IntKind.u64.wrap (h0.getD (IntKind.i64.wrap (v6 + v26)).toNat 0))))))))))) (Tr.leaf (Sum.inr (v8, v26, h0)))
def n_Mul_L1_step (p : (List Int) × Int × Int × (List Int) × Int × Int × Bool × Int × Int × (List Int) × Int) (x : Int × Int × (List Int)) : Tr ((Int × Int × (List Int)) ⊕ (Int × Int × (List Int))) := n_Mul_L1_T  p.1 p.2.1 p.2.2.1 p.2.2.2.1 p.2.2.2.2.1 p.2.2.2.2.2.1 p.2.2.2.2.2.2.1 p.2.2.2.2.2.2.2.1 p.2.2.2.2.2.2.2.2.1 p.2.2.2.2.2.2.2.2.2.1 p.2.2.2.2.2.2.2.2.2.2 x.1 x.2.1 x.2.2
def n_Mul_L1_r (p : (List Int) × Int × Int × (List Int) × Int × Int × Bool × Int × Int × (List Int) × Int) (x : Int × Int × (List Int)) : Option (Int × Int × (List Int)) := runB (n_Mul_L1_step p) x
def n_Mul_L1_v (p : (List Int) × Int × Int × (List Int) × Int × Int × Bool × Int × Int × (List Int) × Int) (x : Int × Int × (List Int)) : Int × Int × (List Int) := (n_Mul_L1_r p x).getD x
def n_Mul_L1_ok (p : (List Int) × Int × Int × (List Int) × Int × Int × Bool × Int × Int × (List Int) × Int) (x : Int × Int × (List Int)) : Bool := (n_Mul_L1_r p x).isSome
def n_Mul_L0_T (n_Mul_L1_ok : ((List Int) × Int × Int × (List Int) × Int × Int × Bool × Int × Int × (List Int) × Int) → (Int × Int × (List Int)) → Bool) (n_Mul_L1_v : ((List Int) × Int × Int × (List Int) × Int × Int × Bool × Int × Int × (List Int) × Int) → (Int × Int × (List Int)) → Int × Int × (List Int)) (v1 : List Int) (v17 : List Int) (v18 : Int) (v19 : Int) (h0 : List Int) : Tr ((Int × (List Int)) ⊕ (Int × (List Int))) := Tr.br (decide (v19 < v18)) (Tr.ast (decide (0 ≤ v19) && decide (v19 < (v17.length : Int))) (Tr.ast (n_Mul_L1_ok (v1, v19, v17.getD v19.toNat 0, v17, v18, v19, true, v19, v17.getD v19.toNat 0, v1, (v1.length : Int)) (0, 0, h0)) (Tr.ast (decide (0 ≤ IntKind.i64.wrap (v19 + (v1.length : Int))) && decide (IntKind.i64.wrap (v19 + (v1.length : Int)) < ((n_Mul_L1_v (v1, v19, v17.getD v19.toNat 0, v17, v18, v19, true, v19, v17.getD v19.toNat 0, v1, (v1.length : Int)) (0, 0, h0)).snd.snd.length : Int))) (Tr.leaf (Sum.inl (IntKind.i64.wrap (v19 + 1), (n_Mul_L1_v (v1, v19, v17.getD v19.toNat 0, v17, v18, v19, true, v19, v17.getD v19.toNat 0, v1, (v1.length : Int)) (0, 0, h0)).snd.snd.set (IntKind.i64.wrap (v19 + (v1.length : Int))).toNat (IntKind.u32.wrap (n_Mul_L1_v (v1, v19, v17.getD v19.toNat 0, v17, v18, v19, true, v19, v17.getD v19.toNat 0, v1, (v1.length : Int)) (0, 0, h0)).fst))))))) (Tr.leaf (Sum.inr (v19, h0)))
def n_Mul_L0_step (p : (List Int) × (List Int) × Int) (x : Int × (List Int)) : Tr ((Int × (List Int)) ⊕ (Int × (List Int))) := n_Mul_L0_T n_Mul_L1_ok n_Mul_L1_v p.1 p.2.1 p.2.2 x.1 x.2
def n_Mul_L0_r (p : (List Int) × (List Int) × Int) (x : Int × (List Int)) : Option (Int × (List Int)) := runB (n_Mul_L0_step p) x
def n_Mul_L0_v (p : (List Int) × (List Int) × Int) (x : Int × (List Int)) : Int × (List Int) := (n_Mul_L0_r p x).getD x
def n_Mul_L0_ok (p : (List Int) × (List Int) × Int) (x : Int × (List Int)) : Bool := (n_Mul_L0_r p x).isSome
def n_Mul_T (n_trim : (List Int) → (List Int)) (n_trim_s : (List Int) → Bool) (n_Mul_L0_ok : ((List Int) × (List Int) × Int) → (Int × (List Int)) → Bool) (n_Mul_L0_v : ((List Int) × (List Int) × Int) → (Int × (List Int)) → Int × (List Int)) (a : List Int) (b : List Int) : Tr ((List Int)) := Tr.ast (decide (0 ≤ IntKind.i64.wrap ((a.length : Int) + (b.length : Int))) && (decide (IntKind.i64.wrap ((a.length : Int) + (b.length : Int)) ≤ IntKind.i64.wrap ((a.length : Int) + (b.length : Int))) && decide ((4 : Int) * IntKind.i64.wrap ((a.length : Int) + (b.length : Int)) ≤ 281474976710656))) (Tr.ast (n_Mul_L0_ok (b, a, (a.length : Int)) (0, List.replicate (IntKind.i64.wrap ((a.length : Int) + (b.length : Int))).toNat (0 : Int))) (Tr.ast (n_trim_s (n_Mul_L0_v (b, a, (a.length : Int)) (0, List.replicate (IntKind.i64.wrap ((a.length : Int) + (b.length : Int))).toNat (0 : Int))).snd) (Tr.leaf (n_trim (n_Mul_L0_v (b, a, (a.length : Int)) (0, List.replicate (IntKind.i64.wrap ((a.length : Int) + (b.length : Int))).toNat (0 : Int))).snd))))
def n_Mul_t (a : List Int) (b : List Int) : Tr ((List Int)) := n_Mul_T n_trim n_trim_s n_Mul_L0_ok n_Mul_L0_v a b
def n_Mul (a : List Int) (b : List Int) : (List Int) := (n_Mul_t a b).val
def n_Mul_s (a : List Int) (b : List Int) : Bool := (n_Mul_t a b).safe
def n_Len_T (n_trim : (List Int) → (List Int)) (n_trim_s : (List Int) → Bool) (bits_Len32 : Int → Int) (a : List Int) : Tr (Int) := Tr.ast (n_trim_s a) (Tr.br (((n_trim a).length : Int) == 0) (Tr.leaf 0) (Tr.ast (decide (0 ≤ IntKind.i64.wrap (((n_trim a).length : Int) - 1)) && decide (IntKind.i64.wrap (((n_trim a).length : Int) - 1) < ((n_trim a).length : Int))) (Tr.leaf (IntKind.i64.wrap (IntKind.i64.wrap (32 * IntKind.i64.wrap (((n_trim a).length : Int) - 1)) + bits_Len32 ((n_trim a).getD (IntKind.i64.wrap (((n_trim a).length : Int) - 1)).toNat 0))))))
def n_Len_t (a : List Int) : Tr (Int) := n_Len_T n_trim n_trim_s bits_Len32 a
def n_Len (a : List Int) : Int := (n_Len_t a).val
def n_Len_s (a : List Int) : Bool := (n_Len_t a).safe
def n_Shl_L0_T  (v1 : Int) (_v5 : Int) (_v15 : Bool) (_v18 : Bool) (v32 : List Int) (v33 : Int) (v8 : Int) (v34 : Int) (h0 : List Int) : Tr ((Int × Int × (List Int)) ⊕ (Int × Int × (List Int))) := Tr.br (decide (v34 < v33)) (Tr.ast (decide (0 ≤ v34) && decide (v34 < (v32.length : Int))) (Tr.ast (decide (0 ≤ v1.tmod 32)) (Tr.ast (decide ((h0.length + [IntKind.u32.wrap (bitsI BinOp.or IntKind.u64 v8 (shlI IntKind.u64 (IntKind.u64.wrap (v32.getD v34.toNat 0)) (v1.tmod 32)))].length) * 4 ≤ 140737488355328)) (Tr.leaf (Sum.inl (shrI IntKind.u64 (bitsI BinOp.or IntKind.u64 v8 (shlI IntKind.u64 (IntKind.u64.wrap (v32.getD v34.toNat 0)) (v1.tmod 32))) 32, IntKind.i64.wrap (v34 + 1), h0 ++ [IntKind.u32.wrap (bitsI BinOp.or IntKind.u64 v8 (shlI IntKind.u64 (IntKind.u64.wrap (v32.getD v34.toNat 0)) (v1.tmod 32)))])))))) (Tr.leaf (Sum.inr (v8, v34, h0)))
def n_Shl_L0_step (p : Int × Int × Bool × Bool × (List Int) × Int) (x : Int × Int × (List Int)) : Tr ((Int × Int × (List Int)) ⊕ (Int × Int × (List Int))) := n_Shl_L0_T  p.1 p.2.1 p.2.2.1 p.2.2.2.1 p.2.2.2.2.1 p.2.2.2.2.2 x.1 x.2.1 x.2.2
def n_Shl_L0_r (p : Int × Int × Bool × Bool × (List Int) × Int) (x : Int × Int × (List Int)) : Option (Int × Int × (List Int)) := runB (n_Shl_L0_step p) x
def n_Shl_L0_v (p : Int × Int × Bool × Bool × (List Int) × Int) (x : Int × Int × (List Int)) : Int × Int × (List Int) := (n_Shl_L0_r p x).getD x
def n_Shl_L0_ok (p : Int × Int × Bool × Bool × (List Int) × Int) (x : Int × Int × (List Int)) : Bool := (n_Shl_L0_r p x).isSome
def n_Shl_T (n_Len : (List Int) → Int) (n_Len_s : (List Int) → Bool) (n_trim : (List Int) → (List Int)) (n_trim_s : (List Int) → Bool) (n_Shl_L0_ok : (Int × Int × Bool × Bool × (List Int) × Int) → (Int × Int × (List Int)) → Bool) (n_Shl_L0_v : (Int × Int × Bool × Bool × (List Int) × Int) → (Int × Int × (List Int)) → Int × Int × (List Int)) (a : List Int) (n : Int) : Tr ((List Int) × Int) := let t0 : Int := IntKind.i64.wrap ((imax n 0).tdiv 32); let t1 : Int := IntKind.i64.wrap (65536 - n_Len a); let t2 : Int × Int × List Int := (0, 0, List.replicate t0.toNat (0 : Int)); let t3 : Int := IntKind.i64.wrap (IntKind.i64.wrap (t0 + (a.length : Int)) + 1); let t4 : Int := (4 : Int) * t3; let t5 : Int × Int × Bool × Bool × List Int × Int := (imax n 0, 0, false, false, a, (a.length : Int)); let t6 : Int × Int × List Int := n_Shl_L0_v t5 t2; let t7 : List Int := t6.snd.snd; let t8 : List Int := [IntKind.u32.wrap t6.fst]; let t9 : List Int := t7 ++ t8; let t10 : Nat := (t7.length + t8.length) * 4; Tr.ast (n_Len_s a) (Tr.br (n_Len a == 0) (Tr.leaf ([], 0)) (Tr.br (decide (imax n 0 > t1)) (Tr.leaf ([], 20)) (Tr.ast (decide (0 ≤ t0) && (decide (t0 ≤ t3) && decide (t4 ≤ 281474976710656))) (Tr.ast (n_Shl_L0_ok t5 t2) (Tr.ast (decide (t10 ≤ 140737488355328)) (Tr.ast (n_trim_s t9) (Tr.leaf (n_trim t9, 0))))))))
def n_Shl_t (a : List Int) (n : Int) : Tr ((List Int) × Int) := n_Shl_T n_Len n_Len_s n_trim n_trim_s n_Shl_L0_ok n_Shl_L0_v a n
def n_Shl (a : List Int) (n : Int) : (List Int) × Int := (n_Shl_t a n).val
def n_Shl_s (a : List Int) (n : Int) : Bool := (n_Shl_t a n).safe
def n_Shr_L0_T (n_at : (List Int) → Int → Int) (n_at_s : (List Int) → Int → Bool) (v1 : Int) (v5 : List Int) (_v14 : Bool) (v20 : Int) (v21 : Int) (h0 : List Int) : Tr ((Int × (List Int)) ⊕ (Int × (List Int))) := Tr.br (decide (v21 < v20)) (Tr.ast (n_at_s v5 v21) (Tr.ast (n_at_s v5 (IntKind.i64.wrap (v21 + 1))) (Tr.ast (decide (0 ≤ v1.tmod 32)) (Tr.ast (decide ((h0.length + [IntKind.u32.wrap (shrI IntKind.u64 (bitsI BinOp.or IntKind.u64 (n_at v5 v21) (shlI IntKind.u64 (n_at v5 (IntKind.i64.wrap (v21 + 1))) 32)) (v1.tmod 32))].length) * 4 ≤ 140737488355328)) (Tr.leaf (Sum.inl (IntKind.i64.wrap (v21 + 1), h0 ++ [IntKind.u32.wrap (shrI IntKind.u64 (bitsI BinOp.or IntKind.u64 (n_at v5 v21) (shlI IntKind.u64 (n_at v5 (IntKind.i64.wrap (v21 + 1))) 32)) (v1.tmod 32))]))))))) (Tr.leaf (Sum.inr (v21, h0)))
def n_Shr_L0_step (p : Int × (List Int) × Bool × Int) (x : Int × (List Int)) : Tr ((Int × (List Int)) ⊕ (Int × (List Int))) := n_Shr_L0_T n_at n_at_s p.1 p.2.1 p.2.2.1 p.2.2.2 x.1 x.2
def n_Shr_L0_r (p : Int × (List Int) × Bool × Int) (x : Int × (List Int)) : Option (Int × (List Int)) := runB (n_Shr_L0_step p) x
def n_Shr_L0_v (p : Int × (List Int) × Bool × Int) (x : Int × (List Int)) : Int × (List Int) := (n_Shr_L0_r p x).getD x
def n_Shr_L0_ok (p : Int × (List Int) × Bool × Int) (x : Int × (List Int)) : Bool := (n_Shr_L0_r p x).isSome
def n_Shr_T (n_trim : (List Int) → (List Int)) (n_trim_s : (List Int) → Bool) (n_Shr_L0_ok : (Int × (List Int) × Bool × Int) → (Int × (List Int)) → Bool) (n_Shr_L0_v : (Int × (List Int) × Bool × Int) → (Int × (List Int)) → Int × (List Int)) (a : List Int) (n : Int) : Tr ((List Int)) := Tr.br (decide (IntKind.i64.wrap ((imax n 0).tdiv 32) ≥ (a.length : Int))) (Tr.leaf []) (Tr.ast (decide (0 ≤ (some (IntKind.i64.wrap ((imax n 0).tdiv 32))).getD 0) && (decide ((some (IntKind.i64.wrap ((imax n 0).tdiv 32))).getD 0 ≤ none.getD (a.length : Int)) && decide (none.getD (a.length : Int) ≤ (a.length : Int)))) (Tr.ast (n_Shr_L0_ok (imax n 0, List.take ((none.getD (a.length : Int)).toNat - ((some (IntKind.i64.wrap ((imax n 0).tdiv 32))).getD 0).toNat) (List.drop ((some (IntKind.i64.wrap ((imax n 0).tdiv 32))).getD 0).toNat a), false, ((List.take ((none.getD (a.length : Int)).toNat - ((some (IntKind.i64.wrap ((imax n 0).tdiv 32))).getD 0).toNat) (List.drop ((some (IntKind.i64.wrap ((imax n 0).tdiv 32))).getD 0).toNat a)).length : Int)) (0, [])) (Tr.ast (n_trim_s (n_Shr_L0_v (imax n 0, List.take ((none.getD (a.length : Int)).toNat - ((some (IntKind.i64.wrap ((imax n 0).tdiv 32))).getD 0).toNat) (List.drop ((some (IntKind.i64.wrap ((imax n 0).tdiv 32))).getD 0).toNat a), false, ((List.take ((none.getD (a.length : Int)).toNat - ((some (IntKind.i64.wrap ((imax n 0).tdiv 32))).getD 0).toNat) (List.drop ((some (IntKind.i64.wrap ((imax n 0).tdiv 32))).getD 0).toNat a)).length : Int)) (0, [])).snd) (Tr.leaf (n_trim (n_Shr_L0_v (imax n 0, List.take ((none.getD (a.length : Int)).toNat - ((some (IntKind.i64.wrap ((imax n 0).tdiv 32))).getD 0).toNat) (List.drop ((some (IntKind.i64.wrap ((imax n 0).tdiv 32))).getD 0).toNat a), false, ((List.take ((none.getD (a.length : Int)).toNat - ((some (IntKind.i64.wrap ((imax n 0).tdiv 32))).getD 0).toNat) (List.drop ((some (IntKind.i64.wrap ((imax n 0).tdiv 32))).getD 0).toNat a)).length : Int)) (0, [])).snd)))))
def n_Shr_t (a : List Int) (n : Int) : Tr ((List Int)) := n_Shr_T n_trim n_trim_s n_Shr_L0_ok n_Shr_L0_v a n
def n_Shr (a : List Int) (n : Int) : (List Int) := (n_Shr_t a n).val
def n_Shr_s (a : List Int) (n : Int) : Bool := (n_Shr_t a n).safe
def n_shifted_L0_T (n_at : (List Int) → Int → Int) (n_at_s : (List Int) → Int → Bool) (v0 : List Int) (v1 : Int) (v13 : Int) (v14 : Int) (h0 : List Int) : Tr ((Int × (List Int)) ⊕ (Int × (List Int))) := Tr.br (decide (v14 < v13)) (Tr.ast (n_at_s v0 v14) (Tr.ast (decide (0 ≤ v1)) (Tr.br (decide (v14 > 0)) (Tr.ast (n_at_s v0 (IntKind.i64.wrap (v14 - 1))) (Tr.ast (decide (0 ≤ v1)) (Tr.ast (decide (0 ≤ v14) && decide (v14 < (h0.length : Int))) (Tr.leaf (Sum.inl (IntKind.i64.wrap (v14 + 1), h0.set v14.toNat (IntKind.u32.wrap (bitsI BinOp.or IntKind.u64 (shlI IntKind.u64 (n_at v0 v14) v1) (shrI IntKind.u64 (shlI IntKind.u64 (n_at v0 (IntKind.i64.wrap (v14 - 1))) v1) 32))))))))) (Tr.ast (decide (0 ≤ v14) && decide (v14 < (h0.length : Int))) (Tr.leaf (Sum.inl (IntKind.i64.wrap (v14 + 1), h0.set v14.toNat (IntKind.u32.wrap (shlI IntKind.u64 (n_at v0 v14) v1))))))))) (Tr.leaf (Sum.inr (v14, h0)))
def n_shifted_L0_step (p : (List Int) × Int × Int) (x : Int × (List Int)) : Tr ((Int × (List Int)) ⊕ (Int × (List Int))) := n_shifted_L0_T n_at n_at_s p.1 p.2.1 p.2.2 x.1 x.2
def n_shifted_L0_r (p : (List Int) × Int × Int) (x : Int × (List Int)) : Option (Int × (List Int)) := runB (n_shifted_L0_step p) x
def n_shifted_L0_v (p : (List Int) × Int × Int) (x : Int × (List Int)) : Int × (List Int) := (n_shifted_L0_r p x).getD x
def n_shifted_L0_ok (p : (List Int) × Int × Int) (x : Int × (List Int)) : Bool := (n_shifted_L0_r p x).isSome
def n_shifted_T (n_shifted_L0_ok : ((List Int) × Int × Int) → (Int × (List Int)) → Bool) (n_shifted_L0_v : ((List Int) × Int × Int) → (Int × (List Int)) → Int × (List Int)) (a : List Int) (n : Int) (size : Int) : Tr ((List Int)) := Tr.ast (decide (0 ≤ size) && (decide (size ≤ size) && decide ((4 : Int) * size ≤ 281474976710656))) (Tr.ast (n_shifted_L0_ok (a, n, ((List.replicate size.toNat (0 : Int)).length : Int)) (0, List.replicate size.toNat (0 : Int))) (Tr.leaf (n_shifted_L0_v (a, n, ((List.replicate size.toNat (0 : Int)).length : Int)) (0, List.replicate size.toNat (0 : Int))).snd))
def n_shifted_t (a : List Int) (n : Int) (size : Int) : Tr ((List Int)) := n_shifted_T n_shifted_L0_ok n_shifted_L0_v a n size
def n_shifted (a : List Int) (n : Int) (size : Int) : (List Int) := (n_shifted_t a n size).val
def n_shifted_s (a : List Int) (n : Int) (size : Int) : Bool := (n_shifted_t a n size).safe
def n_step_L0_T  (v0_0 : Nat) (v0_1 : Nat) (v1 : List Int) (_v4 : Int) (v5 : Int) (v7 : Int) (h0 : List Int) (v8 : Int) (v9 : Int) : Tr ((Int × Int) ⊕ (Int × Int)) := Tr.br (decide (v8 ≥ 4294967296)) (Tr.br (decide (IntKind.u64.wrap (v9 + v7) ≥ 4294967296)) (Tr.leaf (Sum.inr (IntKind.u64.wrap (v8 - 1), IntKind.u64.wrap (v9 + v7)))) (Tr.leaf (Sum.inl (IntKind.u64.wrap (v8 - 1), IntKind.u64.wrap (v9 + v7))))) (Tr.ast (decide (0 ≤ IntKind.i64.wrap (v5 - 2)) && decide (IntKind.i64.wrap (v5 - 2) < (v1.length : Int))) (Tr.ast (decide (0 ≤ IntKind.i64.wrap (v5 - 2)) && decide (IntKind.i64.wrap (v5 - 2) < (v0_1 : Int))) (Tr.br (decide (IntKind.u64.wrap (v8 * IntKind.u64.wrap (v1.getD (IntKind.i64.wrap (v5 - 2)).toNat 0)) > bitsI BinOp.or IntKind.u64 (shlI IntKind.u64 v9 32) (IntKind.u64.wrap (h0.getD (v0_0 + (IntKind.i64.wrap (v5 - 2)).toNat) 0)))) (Tr.br (decide (IntKind.u64.wrap (v9 + v7) ≥ 4294967296)) (Tr.leaf (Sum.inr (IntKind.u64.wrap (v8 - 1), IntKind.u64.wrap (v9 + v7)))) (Tr.leaf (Sum.inl (IntKind.u64.wrap (v8 - 1), IntKind.u64.wrap (v9 + v7))))) (Tr.leaf (Sum.inr (v8, v9))))))
def n_step_L0_step (p : Nat × Nat × (List Int) × Int × Int × Int × (List Int)) (x : Int × Int) : Tr ((Int × Int) ⊕ (Int × Int)) := n_step_L0_T  p.1 p.2.1 p.2.2.1 p.2.2.2.1 p.2.2.2.2.1 p.2.2.2.2.2.1 p.2.2.2.2.2.2 x.1 x.2
def n_step_L0_r (p : Nat × Nat × (List Int) × Int × Int × Int × (List Int)) (x : Int × Int) : Option (Int × Int) := runB (n_step_L0_step p) x
def n_step_L0_v (p : Nat × Nat × (List Int) × Int × Int × Int × (List Int)) (x : Int × Int) : Int × Int := (n_step_L0_r p x).getD x
def n_step_L0_ok (p : Nat × Nat × (List Int) × Int × Int × Int × (List Int)) (x : Int × Int) : Bool := (n_step_L0_r p x).isSome
def n_step_L1_T  (v0_0 : Nat) (v0_1 : Nat) (v1 : List Int) (_v4 : Int) (v5 : Int) (v8 : Int) (v73 : Int) (v10 : Int) (v11 : Int) (v74 : Int) (h0 : List Int) : Tr ((Int × Int × Int × (List Int)) ⊕ (Int × Int × Int × (List Int))) := Tr.br (decide (v74 < v73)) (Tr.br (decide (v74 < v5)) (Tr.ast (decide (0 ≤ v74) && decide (v74 < (v1.length : Int))) (Tr.ast (decide (0 ≤ v74) && decide (v74 < (v0_1 : Int))) (Tr.ast (decide (0 ≤ v74) && decide (v74 < (v0_1 : Int))) (Tr.leaf (Sum.inl (shrI IntKind.u64 (IntKind.u64.wrap (IntKind.u64.wrap (IntKind.u64.wrap (h0.getD (v0_0 + v74.toNat) 0) - bitsI BinOp.and IntKind.u64 (IntKind.u64.wrap (v11 + IntKind.u64.wrap (v8 * IntKind.u64.wrap (v1.getD v74.toNat 0)))) 4294967295) - v10)) 63, shrI IntKind.u64 (IntKind.u64.wrap (v11 + IntKind.u64.wrap (v8 * IntKind.u64.wrap (v1.getD v74.toNat 0)))) 32, IntKind.i64.wrap (v74 + 1), h0.set (v0_0 + v74.toNat) (IntKind.u32.wrap (IntKind.u64.wrap (IntKind.u64.wrap (IntKind.u64.wrap (h0.getD (v0_0 + v74.toNat) 0) - bitsI BinOp.and IntKind.u64 (IntKind.u64.wrap (v11 + IntKind.u64.wrap (v8 * IntKind.u64.wrap (v1.getD v74.toNat 0)))) 4294967295) - v10))))))))) (Tr.ast (decide (0 ≤ v74) && decide (v74 < (v0_1 : Int))) (Tr.ast (decide (0 ≤ v74) && decide (v74 < (v0_1 : Int))) (Tr.leaf (Sum.inl (shrI IntKind.u64 (IntKind.u64.wrap (IntKind.u64.wrap (IntKind.u64.wrap (h0.getD (v0_0 + v74.toNat) 0) - bitsI BinOp.and IntKind.u64 v11 4294967295) - v10)) 63, shrI IntKind.u64 v11 32, IntKind.i64.wrap (v74 + 1), h0.set (v0_0 + v74.toNat) (IntKind.u32.wrap (IntKind.u64.wrap (IntKind.u64.wrap (IntKind.u64.wrap (h0.getD (v0_0 + v74.toNat) 0) - bitsI BinOp.and IntKind.u64 v11 4294967295) - v10))))))))) (Tr.leaf (Sum.inr (v10, v11, v74, h0)))
def n_step_L1_step (p : Nat × Nat × (List Int) × Int × Int × Int × Int) (x : Int × Int × Int × (List Int)) : Tr ((Int × Int × Int × (List Int)) ⊕ (Int × Int × Int × (List Int))) := n_step_L1_T  p.1 p.2.1 p.2.2.1 p.2.2.2.1 p.2.2.2.2.1 p.2.2.2.2.2.1 p.2.2.2.2.2.2 x.1 x.2.1 x.2.2.1 x.2.2.2
def n_step_L1_r (p : Nat × Nat × (List Int) × Int × Int × Int × Int) (x : Int × Int × Int × (List Int)) : Option (Int × Int × Int × (List Int)) := runB (n_step_L1_step p) x
def n_step_L1_v (p : Nat × Nat × (List Int) × Int × Int × Int × Int) (x : Int × Int × Int × (List Int)) : Int × Int × Int × (List Int) := (n_step_L1_r p x).getD x
def n_step_L1_ok (p : Nat × Nat × (List Int) × Int × Int × Int × Int) (x : Int × Int × Int × (List Int)) : Bool := (n_step_L1_r p x).isSome
def n_step_L2_T  (v0_0 : Nat) (v0_1 : Nat) (v1 : List Int) (_v4 : Int) (v5 : Int) (_v8 : Int) (_v110 : Bool) (v114 : Int) (v14 : Int) (v115 : Int) (h0 : List Int) : Tr ((Int × Int × (List Int)) ⊕ (Int × Int × (List Int))) := Tr.br (decide (v115 < v114)) (Tr.br (decide (v115 < v5)) (Tr.ast (decide (0 ≤ v115) && decide (v115 < (v1.length : Int))) (Tr.ast (decide (0 ≤ v115) && decide (v115 < (v0_1 : Int))) (Tr.ast (decide (0 ≤ v115) && decide (v115 < (v0_1 : Int))) (Tr.leaf (Sum.inl (shrI IntKind.u64 (IntKind.u64.wrap (IntKind.u64.wrap (v14 + IntKind.u64.wrap (v1.getD v115.toNat 0)) + IntKind.u64.wrap (h0.getD (v0_0 + v115.toNat) 0))) 32, IntKind.i64.wrap (v115 + 1), h0.set (v0_0 + v115.toNat) (IntKind.u32.wrap (IntKind.u64.wrap (IntKind.u64.wrap (v14 + IntKind.u64.wrap (v1.getD v115.toNat 0)) + IntKind.u64.wrap (h0.getD (v0_0 + v115.toNat) 0)))))))))) (Tr.ast (decide (0 ≤ v115) && decide (v115 < (v0_1 : Int))) (Tr.ast (decide (0 ≤ v115) && decide (v115 < (v0_1 : Int))) (Tr.leaf (Sum.inl (shrI IntKind.u64 (IntKind.u64.wrap (v14 + IntKind.u64.wrap (h0.getD (v0_0 + v115.toNat) 0))) 32, IntKind.i64.wrap (v115 + 1), h0.set (v0_0 + v115.toNat) (IntKind.u32.wrap (IntKind.u64.wrap (v14 + IntKind.u64.wrap (h0.getD (v0_0 + v115.toNat) 0)))))))))) (Tr.leaf (Sum.inr (v14, v115, h0)))
def n_step_L2_step (p : Nat × Nat × (List Int) × Int × Int × Int × Bool × Int) (x : Int × Int × (List Int)) : Tr ((Int × Int × (List Int)) ⊕ (Int × Int × (List Int))) := n_step_L2_T  p.1 p.2.1 p.2.2.1 p.2.2.2.1 p.2.2.2.2.1 p.2.2.2.2.2.1 p.2.2.2.2.2.2.1 p.2.2.2.2.2.2.2 x.1 x.2.1 x.2.2
def n_step_L2_r (p : Nat × Nat × (List Int) × Int × Int × Int × Bool × Int) (x : Int × Int × (List Int)) : Option (Int × Int × (List Int)) := runB (n_step_L2_step p) x
def n_step_L2_v (p : Nat × Nat × (List Int) × Int × Int × Int × Bool × Int) (x : Int × Int × (List Int)) : Int × Int × (List Int) := (n_step_L2_r p x).getD x
def n_step_L2_ok (p : Nat × Nat × (List Int) × Int × Int × Int × Bool × Int) (x : Int × Int × (List Int)) : Bool := (n_step_L2_r p x).isSome
def n_step_T (n_step_L0_ok : (Nat × Nat × (List Int) × Int × Int × Int × (List Int)) → (Int × Int) → Bool) (n_step_L0_v : (Nat × Nat × (List Int) × Int × Int × Int × (List Int)) → (Int × Int) → Int × Int) (n_step_L1_ok : (Nat × Nat × (List Int) × Int × Int × Int × Int) → (Int × Int × Int × (List Int)) → Bool) (n_step_L1_v : (Nat × Nat × (List Int) × Int × Int × Int × Int) → (Int × Int × Int × (List Int)) → Int × Int × Int × (List Int)) (n_step_L2_ok : (Nat × Nat × (List Int) × Int × Int × Int × Bool × Int) → (Int × Int × (List Int)) → Bool) (n_step_L2_v : (Nat × Nat × (List Int) × Int × Int × Int × Bool × Int) → (Int × Int × (List Int)) → Int × Int × (List Int)) (xs : List Int) (lo n : Nat) (den : List Int) : Tr ((Int) × List Int) := let t0 : Int := IntKind.i64.wrap ((den.length : Int) - 1); let t1 : Nat := t0.toNat; let t2 : Int := IntKind.u64.wrap (den.getD t1 0); let t3 : Int × Int × Int × List Int := (0, 0, 0, xs); let t4 : Bool := !t2 == 0; let t5 : Bool := decide (0 ≤ t0); let t6 : Int := bitsI BinOp.or IntKind.u64 (shlI IntKind.u64 (IntKind.u64.wrap (xs.getD (lo + ((den.length : Int)).toNat) 0)) 32) (IntKind.u64.wrap (xs.getD (lo + t1) 0)); let t7 : Nat × Nat × List Int × Int × Int × Int × List Int := (lo, n, den, 0, (den.length : Int), t2, xs); let t8 : Int × Int := (IntKind.u64.wrap (t6.tdiv t2), t6.tmod t2); let t9 : Int := (n_step_L0_v t7 t8).fst; let t10 : Nat × Nat × List Int × Int × Int × Int × Int := (lo, n, den, 0, (den.length : Int), t9, (n : Int)); let t11 : Nat × Nat × List Int × Int × Int × Int × Bool × Int := (lo, n, den, 0, (den.length : Int), t9, false, (n : Int)); let t12 : Int × Int × Int × List Int := n_step_L1_v t10 t3; let t13 : List Int := t12.snd.snd.snd; let t14 : Int × Int × List Int := (0, 0, t13); Tr.ast (decide ((den.length : Int) < (n : Int))) (Tr.ast (t5 && decide (t0 < (n : Int))) (Tr.ast (t5 && decide (t0 < (den.length : Int))) (Tr.ast t4 (Tr.ast t4 (Tr.ast (n_step_L0_ok t7 t8) (Tr.ast (n_step_L1_ok t10 t3) (Tr.br (t12.fst == 0) (Tr.leaf (IntKind.u32.wrap t9, t13)) (Tr.ast (n_step_L2_ok t11 t14) (Tr.leaf (IntKind.u32.wrap (IntKind.u64.wrap (t9 - 1)), (n_step_L2_v t11 t14).snd.snd))))))))))
def n_step_t (xs : List Int) (lo n : Nat) (den : List Int) : Tr ((Int) × List Int) := n_step_T n_step_L0_ok n_step_L0_v n_step_L1_ok n_step_L1_v n_step_L2_ok n_step_L2_v xs lo n den
def n_step (xs : List Int) (lo n : Nat) (den : List Int) : (Int) × List Int := (n_step_t xs lo n den).val
def n_step_s (xs : List Int) (lo n : Nat) (den : List Int) : Bool := (n_step_t xs lo n den).safe
def s_Rev_L0_T  (v0_0 : Nat) (v0_1 : Nat) (v2 : Int) (v3 : Int) (h0 : List Int) : Tr ((Int × Int × (List Int)) ⊕ (Int × Int × (List Int))) := Tr.br (decide (v2 < v3)) (Tr.ast (decide (0 ≤ v3) && decide (v3 < (v0_1 : Int))) (Tr.ast (decide (0 ≤ v2) && decide (v2 < (v0_1 : Int))) (Tr.ast (decide (0 ≤ v2) && decide (v2 < (v0_1 : Int))) (Tr.ast (decide (0 ≤ v3) && decide (v3 < (v0_1 : Int))) (Tr.leaf (Sum.inl (IntKind.i64.wrap (v2 + 1), IntKind.i64.wrap (v3 - 1), (h0.set (v0_0 + v2.toNat) (h0.getD (v0_0 + v3.toNat) 0)).set (v0_0 + v3.toNat) (h0.getD (v0_0 + v2.toNat) 0)))))))) (Tr.leaf (Sum.inr (v2, v3, h0)))
def s_Rev_L0_step (p : Nat × Nat) (x : Int × Int × (List Int)) : Tr ((Int × Int × (List Int)) ⊕ (Int × Int × (List Int))) := s_Rev_L0_T  p.1 p.2 x.1 x.2.1 x.2.2
def s_Rev_L0_r (p : Nat × Nat) (x : Int × Int × (List Int)) : Option (Int × Int × (List Int)) := runB (s_Rev_L0_step p) x
def s_Rev_L0_v (p : Nat × Nat) (x : Int × Int × (List Int)) : Int × Int × (List Int) := (s_Rev_L0_r p x).getD x
def s_Rev_L0_ok (p : Nat × Nat) (x : Int × Int × (List Int)) : Bool := (s_Rev_L0_r p x).isSome
def s_Rev_T (s_Rev_L0_ok : (Nat × Nat) → (Int × Int × (List Int)) → Bool) (s_Rev_L0_v : (Nat × Nat) → (Int × Int × (List Int)) → Int × Int × (List Int)) (xs : List Int) (lo n : Nat)  : Tr ((Unit) × List Int) := Tr.ast (s_Rev_L0_ok (lo, n) (0, IntKind.i64.wrap ((n : Int) - 1), xs)) (Tr.leaf ((), (s_Rev_L0_v (lo, n) (0, IntKind.i64.wrap ((n : Int) - 1), xs)).snd.snd))
def s_Rev_t (xs : List Int) (lo n : Nat)  : Tr ((Unit) × List Int) := s_Rev_T s_Rev_L0_ok s_Rev_L0_v xs lo n 
def s_Rev (xs : List Int) (lo n : Nat)  : (Unit) × List Int := (s_Rev_t xs lo n ).val
def s_Rev_s (xs : List Int) (lo n : Nat)  : Bool := (s_Rev_t xs lo n ).safe
end Go.Fb
namespace Go.Fb
open Go.Ev
def s_Clone (a : List Int) : List Int := a
def s_Clone_s (a : List Int) : Bool := decide (a.length * 4 ≤ 140737488355328)
def bwd (zs : List Int) : List (Int × Int) := ((List.range zs.length).reverse).map fun j : Nat => ((j : Int), zs.getD j 0)
def n_short_w (s : List Int × Int) (x : Int × Int) : Int := bitsI BinOp.or IntKind.u64 (shlI IntKind.u64 s.2 32) (IntKind.u64.wrap x.2)
def n_short_st (b : Int) (s : List Int × Int) (x : Int × Int) : List Int × Int :=
  (s.1.set x.1.toNat (IntKind.u32.wrap (IntKind.u64.wrap ((n_short_w s x).tdiv (IntKind.u64.wrap b)))), (n_short_w s x).tmod (IntKind.u64.wrap b))
def n_short_f (a : List Int) (b : Int) : List Int × Int := (bwd a).foldl (n_short_st b) (List.replicate a.length 0, 0)
def n_short (a : List Int) (b : Int) : List Int × List Int := (n_trim (n_short_f a b).1, n_New (n_short_f a b).2)
def n_short_s (a : List Int) (b : Int) : Bool := decide (4 * (a.length : Int) ≤ 281474976710656) && (!(IntKind.u64.wrap b == 0) && (n_trim_s (n_short_f a b).1 && n_New_s (n_short_f a b).2))
def n_Div_L0_T (n_step : List Int → Nat → Nat → (List Int) → (Int) × List Int) (n_step_s : List Int → Nat → Nat → (List Int) → Bool) (_v6 : Int) (_v9 : Int) (_v18 : Bool) (_v22 : Bool) (_v29 : Bool) (h1 : List Int) (v13 : Int) (h0 : List Int) (h2 : List Int) : Tr ((Int × (List Int) × (List Int)) ⊕ (Int × (List Int) × (List Int))) :=
  Tr.br (decide (v13 ≥ 0))
    (Tr.ast
      (decide (0 ≤ (some v13).getD 0) &&
        (decide
            ((some v13).getD 0 ≤ (some (IntKind.i64.wrap (IntKind.i64.wrap (v13 + (h1.length : Int)) + 1))).getD (h0.length : Int)) &&
          decide ((some (IntKind.i64.wrap (IntKind.i64.wrap (v13 + (h1.length : Int)) + 1))).getD (h0.length : Int) ≤ (h0.length : Int))))
      (Tr.ast
        (n_step_s h0 ((some v13).getD 0).toNat
          (((some (IntKind.i64.wrap (IntKind.i64.wrap (v13 + (h1.length : Int)) + 1))).getD (h0.length : Int)).toNat -
            ((some v13).getD 0).toNat)
          h1)
        (Tr.ast (decide (0 ≤ v13) && decide (v13 < (h2.length : Int)))
          (Tr.leaf
            (Sum.inl
              (IntKind.i64.wrap (v13 - 1),
                (n_step h0 ((some v13).getD 0).toNat
                    (((some (IntKind.i64.wrap (IntKind.i64.wrap (v13 + (h1.length : Int)) + 1))).getD (h0.length : Int)).toNat -
                      ((some v13).getD 0).toNat)
                    h1).snd,
                h2.set v13.toNat
                  (n_step h0 ((some v13).getD 0).toNat
                      (((some (IntKind.i64.wrap (IntKind.i64.wrap (v13 + (h1.length : Int)) + 1))).getD (h0.length : Int)).toNat -
                        ((some v13).getD 0).toNat)
                      h1).fst))))))
    (Tr.leaf (Sum.inr (v13, h0, h2)))
def n_Div_L0_step (p : Int × Int × Bool × Bool × Bool × (List Int)) (x : Int × (List Int) × (List Int)) : Tr ((Int × (List Int) × (List Int)) ⊕ (Int × (List Int) × (List Int))) := n_Div_L0_T n_step n_step_s p.1 p.2.1 p.2.2.1 p.2.2.2.1 p.2.2.2.2.1 p.2.2.2.2.2 x.1 x.2.1 x.2.2
def n_Div_L0_r (p : Int × Int × Bool × Bool × Bool × (List Int)) (x : Int × (List Int) × (List Int)) : Option (Int × (List Int) × (List Int)) := runB (n_Div_L0_step p) x
def n_Div_L0_v (p : Int × Int × Bool × Bool × Bool × (List Int)) (x : Int × (List Int) × (List Int)) : Int × (List Int) × (List Int) := (n_Div_L0_r p x).getD x
def n_Div_L0_ok (p : Int × Int × Bool × Bool × Bool × (List Int)) (x : Int × (List Int) × (List Int)) : Bool := (n_Div_L0_r p x).isSome
def n_Div_T (n_trim : (List Int) → (List Int)) (n_trim_s : (List Int) → Bool) (n_Cmp : (List Int) → (List Int) → Int) (n_Cmp_s : (List Int) → (List Int) → Bool) (s_Clone : List Int → List Int) (s_Clone_s : List Int → Bool) (n_short : List Int → Int → List Int × List Int) (n_short_s : List Int → Int → Bool) (bits_LZ32 : Int → Int) (n_shifted : (List Int) → Int → Int → List Int) (n_shifted_s : (List Int) → Int → Int → Bool) (n_Shr : (List Int) → Int → (List Int)) (n_Shr_s : (List Int) → Int → Bool) (n_Div_L0_ok : (Int × Int × Bool × Bool × Bool × (List Int)) → (Int × (List Int) × (List Int)) → Bool) (n_Div_L0_v : (Int × Int × Bool × Bool × Bool × (List Int)) → (Int × (List Int) × (List Int)) → Int × (List Int) × (List Int)) (a : List Int) (b : List Int) : Tr ((List Int) × (List Int) × Int) :=
  let t0 : Int := (n_trim b).getD (Int.toNat 0) 0;
  let t1 : List Int × List Int := n_short (n_trim a) t0;
  let t2 : Int := IntKind.i64.wrap (((n_trim b).length : Int) - 1);
  let t3 : Int := IntKind.i64.wrap (((n_trim a).length : Int) + 1);
  let t4 : Int := bits_LZ32 ((n_trim b).getD t2.toNat 0);
  let t5 : Int := IntKind.i64.wrap (IntKind.i64.wrap (((n_trim a).length : Int) - ((n_trim b).length : Int)) + 1);
  let t6 : List Int := List.replicate t5.toNat (0 : Int);
  let t7 : Int := (4 : Int) * t5;
  let t8 : Int × Int × Bool × Bool × Bool × List Int :=
    (0, t4, false, false, false, n_shifted (n_trim b) t4 ((n_trim b).length : Int));
  let t9 : Int × List Int × List Int := (IntKind.i64.wrap ((t6.length : Int) - 1), n_shifted (n_trim a) t4 t3, t6);
  let t10 : List Int × List Int := (n_Div_L0_v t8 t9).snd;
  let t11 : List Int := t10.snd;
  let t12 : List Int := t10.fst;
  Tr.ast (n_trim_s a)
    (Tr.ast (n_trim_s b)
      (Tr.br (((n_trim b).length : Int) == 0) (Tr.leaf ([], [], 21))
        (Tr.ast (n_Cmp_s (n_trim a) (n_trim b))
          (Tr.br (decide (n_Cmp (n_trim a) (n_trim b) < 0))
            (Tr.ast (s_Clone_s (n_trim a)) (Tr.leaf ([], s_Clone (n_trim a), 0)))
            (Tr.br (((n_trim b).length : Int) == 1)
              (Tr.ast (decide (0 < ((n_trim b).length : Int))) (Tr.ast (n_short_s (n_trim a) t0) (Tr.leaf (t1.fst, t1.snd, 0))))
              (Tr.ast (decide (0 ≤ t2) && decide (t2 < ((n_trim b).length : Int)))
                (Tr.ast (n_shifted_s (n_trim a) t4 t3)
                  (Tr.ast (n_shifted_s (n_trim b) t4 ((n_trim b).length : Int))
                    (Tr.ast (decide (0 ≤ t5) && (decide (t5 ≤ t5) && decide (t7 ≤ 281474976710656)))
                      (Tr.ast (n_Div_L0_ok t8 t9)
                        (Tr.ast (n_trim_s t11)
                          (Tr.ast (n_Shr_s t12 t4) (Tr.leaf (n_trim t11, n_Shr t12 t4, 0))))))))))))))
def n_Div_t (a : List Int) (b : List Int) : Tr ((List Int) × (List Int) × Int) := n_Div_T n_trim n_trim_s n_Cmp n_Cmp_s s_Clone s_Clone_s n_short n_short_s bits_LZ32 n_shifted n_shifted_s n_Shr n_Shr_s n_Div_L0_ok n_Div_L0_v a b
def n_Div (a : List Int) (b : List Int) : (List Int) × (List Int) × Int := (n_Div_t a b).val
def n_Div_s (a : List Int) (b : List Int) : Bool := (n_Div_t a b).safe
def n_Gcd_L0_T (n_Div : (List Int) → (List Int) → (List Int) × (List Int) × Int) (n_Div_s : (List Int) → (List Int) → Bool) (v0 : List Int) (v1 : List Int) : Tr (((List Int) × (List Int)) ⊕ ((List Int) × (List Int))) :=
  Tr.br (decide ((v1.length : Int) > 0)) (Tr.ast (n_Div_s v0 v1) (Tr.leaf (Sum.inl (v1, (n_Div v0 v1).snd.fst))))
    (Tr.leaf (Sum.inr (v0, v1)))
def n_Gcd_L0_step (_p : Unit) (x : (List Int) × (List Int)) : Tr (((List Int) × (List Int)) ⊕ ((List Int) × (List Int))) := n_Gcd_L0_T n_Div n_Div_s x.1 x.2
def n_Gcd_L0_r (p : Unit) (x : (List Int) × (List Int)) : Option ((List Int) × (List Int)) := runB (n_Gcd_L0_step p) x
def n_Gcd_L0_v (p : Unit) (x : (List Int) × (List Int)) : (List Int) × (List Int) := (n_Gcd_L0_r p x).getD x
def n_Gcd_L0_ok (p : Unit) (x : (List Int) × (List Int)) : Bool := (n_Gcd_L0_r p x).isSome
def n_Gcd_T (n_trim : (List Int) → (List Int)) (n_trim_s : (List Int) → Bool) (s_Clone : List Int → List Int) (s_Clone_s : List Int → Bool) (n_Gcd_L0_ok : Unit → ((List Int) × (List Int)) → Bool) (n_Gcd_L0_v : Unit → ((List Int) × (List Int)) → (List Int) × (List Int)) (a : List Int) (b : List Int) : Tr ((List Int)) :=
  Tr.ast (n_trim_s a)
    (Tr.ast (s_Clone_s (n_trim a))
      (Tr.ast (n_trim_s b)
        (Tr.ast (s_Clone_s (n_trim b))
          (Tr.ast (n_Gcd_L0_ok () (s_Clone (n_trim a), s_Clone (n_trim b)))
            (Tr.leaf (n_Gcd_L0_v () (s_Clone (n_trim a), s_Clone (n_trim b))).fst)))))
def n_Gcd_t (a : List Int) (b : List Int) : Tr ((List Int)) := n_Gcd_T n_trim n_trim_s s_Clone s_Clone_s n_Gcd_L0_ok n_Gcd_L0_v a b
def n_Gcd (a : List Int) (b : List Int) : (List Int) := (n_Gcd_t a b).val
def n_Gcd_s (a : List Int) (b : List Int) : Bool := (n_Gcd_t a b).safe
def n_Text_L1_T  (_v0 : List Int) (_v2 : List UInt8) (_v4 : List Int) (_v8 : List Int) (_v9 : Int) (_v10 : Bool) (_v12 : List Int) (_v14 : List Int) (_v15 : List Int) (_v16 : List Int) (_v17 : Int) (v5 : Int) (v18 : Int) (h0 : List Int) : Tr ((Int × Int × (List Int)) ⊕ (Int × Int × (List Int))) :=
  Tr.br (decide (v18 < 9))
    (Tr.ast (decide ((h0.length + [IntKind.u8.wrap (IntKind.u64.wrap (48 + v5.tmod 10))].length) * 1 ≤ 140737488355328))
      (Tr.leaf
        (Sum.inl
          (IntKind.u64.wrap (v5.tdiv 10), IntKind.i64.wrap (v18 + 1),
            h0 ++ [IntKind.u8.wrap (IntKind.u64.wrap (48 + v5.tmod 10))]))))
    (Tr.leaf (Sum.inr (v5, v18, h0)))
def n_Text_L1_step (p : (List Int) × (List UInt8) × (List Int) × (List Int) × Int × Bool × (List Int) × (List Int) × (List Int) × (List Int) × Int) (x : Int × Int × (List Int)) : Tr ((Int × Int × (List Int)) ⊕ (Int × Int × (List Int))) := n_Text_L1_T  p.1 p.2.1 p.2.2.1 p.2.2.2.1 p.2.2.2.2.1 p.2.2.2.2.2.1 p.2.2.2.2.2.2.1 p.2.2.2.2.2.2.2.1 p.2.2.2.2.2.2.2.2.1 p.2.2.2.2.2.2.2.2.2.1 p.2.2.2.2.2.2.2.2.2.2 x.1 x.2.1 x.2.2
def n_Text_L1_r (p : (List Int) × (List UInt8) × (List Int) × (List Int) × Int × Bool × (List Int) × (List Int) × (List Int) × (List Int) × Int) (x : Int × Int × (List Int)) : Option (Int × Int × (List Int)) := runB (n_Text_L1_step p) x
def n_Text_L1_v (p : (List Int) × (List UInt8) × (List Int) × (List Int) × Int × Bool × (List Int) × (List Int) × (List Int) × (List Int) × Int) (x : Int × Int × (List Int)) : Int × Int × (List Int) := (n_Text_L1_r p x).getD x
def n_Text_L1_ok (p : (List Int) × (List UInt8) × (List Int) × (List Int) × Int × Bool × (List Int) × (List Int) × (List Int) × (List Int) × Int) (x : Int × Int × (List Int)) : Bool := (n_Text_L1_r p x).isSome
def n_Text_L0_T (n_short : List Int → Int → List Int × List Int) (n_short_s : List Int → Int → Bool) (n_at : (List Int) → Int → Int) (n_at_s : (List Int) → Int → Bool) (n_Text_L1_ok : ((List Int) × (List UInt8) × (List Int) × (List Int) × Int × Bool × (List Int) × (List Int) × (List Int) × (List Int) × Int) → (Int × Int × (List Int)) → Bool) (n_Text_L1_v : ((List Int) × (List UInt8) × (List Int) × (List Int) × Int × Bool × (List Int) × (List Int) × (List Int) × (List Int) × Int) → (Int × Int × (List Int)) → Int × Int × (List Int)) (v2 : List UInt8) (v0 : List Int) (h0 : List Int) : Tr (((List Int) × (List Int)) ⊕ ((List Int) × (List Int))) :=
  Tr.br (decide ((v0.length : Int) > 0))
    (Tr.ast (n_short_s v0 1000000000)
      (Tr.ast (n_at_s (n_short v0 1000000000).snd 0)
        (Tr.ast
          (n_Text_L1_ok
            ((n_short v0 1000000000).fst, v2, (n_short v0 1000000000).snd, v0, (v0.length : Int), true, v0,
              (n_short v0 1000000000).fst, (n_short v0 1000000000).snd, (n_short v0 1000000000).snd,
              n_at (n_short v0 1000000000).snd 0)
            (n_at (n_short v0 1000000000).snd 0, 0, h0))
          (Tr.leaf
            (Sum.inl
              ((n_short v0 1000000000).fst,
                (n_Text_L1_v
                      ((n_short v0 1000000000).fst, v2, (n_short v0 1000000000).snd, v0, (v0.length : Int), true, v0,
                        (n_short v0 1000000000).fst, (n_short v0 1000000000).snd, (n_short v0 1000000000).snd,
                        n_at (n_short v0 1000000000).snd 0)
                      (n_at (n_short v0 1000000000).snd 0, 0, h0)).snd.snd))))))
    (Tr.leaf (Sum.inr (v0, h0)))
def n_Text_L0_step (p : (List UInt8)) (x : (List Int) × (List Int)) : Tr (((List Int) × (List Int)) ⊕ ((List Int) × (List Int))) := n_Text_L0_T n_short n_short_s n_at n_at_s n_Text_L1_ok n_Text_L1_v p x.1 x.2
def n_Text_L0_r (p : (List UInt8)) (x : (List Int) × (List Int)) : Option ((List Int) × (List Int)) := runB (n_Text_L0_step p) x
def n_Text_L0_v (p : (List UInt8)) (x : (List Int) × (List Int)) : (List Int) × (List Int) := (n_Text_L0_r p x).getD x
def n_Text_L0_ok (p : (List UInt8)) (x : (List Int) × (List Int)) : Bool := (n_Text_L0_r p x).isSome
def n_Text_L2_T  (_v2 : List UInt8) (h0 : List Int) (v3_0 : Nat) (v3_1 : Nat) : Tr ((Nat × Nat) ⊕ (Nat × Nat)) :=
  Tr.br (decide ((v3_1 : Int) > 0))
    (Tr.ast (decide (0 ≤ IntKind.i64.wrap ((v3_1 : Int) - 1)) && decide (IntKind.i64.wrap ((v3_1 : Int) - 1) < (v3_1 : Int)))
      (Tr.br (h0.getD (v3_0 + (IntKind.i64.wrap ((v3_1 : Int) - 1)).toNat) 0 == 48)
        (Tr.ast
          (decide (0 ≤ (some (IntKind.i64.wrap ((v3_1 : Int) - 1))).getD (v3_1 : Int)) &&
            decide ((some (IntKind.i64.wrap ((v3_1 : Int) - 1))).getD (v3_1 : Int) ≤ (v3_1 : Int)))
          (Tr.leaf
            (Sum.inl (v3_0 + Int.toNat 0, ((some (IntKind.i64.wrap ((v3_1 : Int) - 1))).getD (v3_1 : Int)).toNat - Int.toNat 0))))
        (Tr.leaf (Sum.inr (v3_0, v3_1)))))
    (Tr.leaf (Sum.inr (v3_0, v3_1)))
def n_Text_L2_step (p : (List UInt8) × (List Int)) (x : Nat × Nat) : Tr ((Nat × Nat) ⊕ (Nat × Nat)) := n_Text_L2_T  p.1 p.2 x.1 x.2
def n_Text_L2_r (p : (List UInt8) × (List Int)) (x : Nat × Nat) : Option (Nat × Nat) := runB (n_Text_L2_step p) x
def n_Text_L2_v (p : (List UInt8) × (List Int)) (x : Nat × Nat) : Nat × Nat := (n_Text_L2_r p x).getD x
def n_Text_L2_ok (p : (List UInt8) × (List Int)) (x : Nat × Nat) : Bool := (n_Text_L2_r p x).isSome
def n_Text_T (n_trim : (List Int) → (List Int)) (n_trim_s : (List Int) → Bool) (s_Rev : List Int → Nat → Nat → (Unit) × List Int) (s_Rev_s : List Int → Nat → Nat → Bool) (n_Text_L0_ok : ((List UInt8)) → ((List Int) × (List Int)) → Bool) (n_Text_L0_v : ((List UInt8)) → ((List Int) × (List Int)) → (List Int) × (List Int)) (n_Text_L2_ok : ((List UInt8) × (List Int)) → (Nat × Nat) → Bool) (n_Text_L2_v : ((List UInt8) × (List Int)) → (Nat × Nat) → Nat × Nat) (a : List Int) : Tr ((List UInt8)) :=
  Tr.ast (n_trim_s a)
    (Tr.ast (n_Text_L0_ok #[].toList (n_trim a, []))
      (Tr.ast
        (n_Text_L2_ok (#[].toList, (n_Text_L0_v #[].toList (n_trim a, [])).snd)
          (0, (n_Text_L0_v #[].toList (n_trim a, [])).snd.length))
        (Tr.br
          (((n_Text_L2_v (#[].toList, (n_Text_L0_v #[].toList (n_trim a, [])).snd)
                  (0, (n_Text_L0_v #[].toList (n_trim a, [])).snd.length)).snd : Int) ==
            0)
          (Tr.leaf [48])
          (Tr.ast
            (s_Rev_s (n_Text_L0_v #[].toList (n_trim a, [])).snd
              (n_Text_L2_v (#[].toList, (n_Text_L0_v #[].toList (n_trim a, [])).snd)
                  (0, (n_Text_L0_v #[].toList (n_trim a, [])).snd.length)).fst
              (n_Text_L2_v (#[].toList, (n_Text_L0_v #[].toList (n_trim a, [])).snd)
                  (0, (n_Text_L0_v #[].toList (n_trim a, [])).snd.length)).snd)
            (Tr.leaf
              (List.map (fun n => UInt8.ofNat n.toNat)
                (List.take
                  (n_Text_L2_v (#[].toList, (n_Text_L0_v #[].toList (n_trim a, [])).snd)
                      (0, (n_Text_L0_v #[].toList (n_trim a, [])).snd.length)).snd
                  (List.drop
                    (n_Text_L2_v (#[].toList, (n_Text_L0_v #[].toList (n_trim a, [])).snd)
                        (0, (n_Text_L0_v #[].toList (n_trim a, [])).snd.length)).fst
                    (s_Rev (n_Text_L0_v #[].toList (n_trim a, [])).snd
                        (n_Text_L2_v (#[].toList, (n_Text_L0_v #[].toList (n_trim a, [])).snd)
                            (0, (n_Text_L0_v #[].toList (n_trim a, [])).snd.length)).fst
                        (n_Text_L2_v (#[].toList, (n_Text_L0_v #[].toList (n_trim a, [])).snd)
                            (0, (n_Text_L0_v #[].toList (n_trim a, [])).snd.length)).snd).snd))))))))
def n_Text_t (a : List Int) : Tr ((List UInt8)) := n_Text_T n_trim n_trim_s s_Rev s_Rev_s n_Text_L0_ok n_Text_L0_v n_Text_L2_ok n_Text_L2_v a
def n_Text (a : List Int) : (List UInt8) := (n_Text_t a).val
def n_Text_s (a : List Int) : Bool := (n_Text_t a).safe
end Go.Fb
