/- Layer 4: what the functions compute, as definitions. Conditions: none. -/
import Derived.Test.YtdkbeajkedffeaaRd
namespace Go.Fb
open Go.Ev
def p_Make_T  (neg : Bool) (exp : Int) (frac : Int) : Tr (Int × Int) := Tr.br (decide (exp < 0)) (Tr.leaf (0, 1)) (Tr.br (decide (exp > 2047)) (Tr.leaf (0, 1)) (Tr.br (decide (frac > 4503599627370495)) (Tr.leaf (0, 1)) (Tr.br neg (Tr.leaf (bitsI BinOp.or IntKind.u64 (bitsI BinOp.or IntKind.u64 (shlI IntKind.u64 (IntKind.u64.wrap exp) 52) frac) 9223372036854775808, 0)) (Tr.leaf (bitsI BinOp.or IntKind.u64 (shlI IntKind.u64 (IntKind.u64.wrap exp) 52) frac, 0)))))
def p_Make_t (neg : Bool) (exp : Int) (frac : Int) : Tr (Int × Int) := p_Make_T  neg exp frac
def p_Make (neg : Bool) (exp : Int) (frac : Int) : Int × Int := (p_Make_t neg exp frac).val
def p_Parts_T  (f : Int) : Tr (Bool × Int × Int) := Tr.leaf (shrI IntKind.u64 f 63 == 1, IntKind.i64.wrap (bitsI BinOp.and IntKind.u64 (shrI IntKind.u64 f 52) 2047), bitsI BinOp.and IntKind.u64 f 4503599627370495)
def p_Parts_t (f : Int) : Tr (Bool × Int × Int) := p_Parts_T  f
def p_Parts (f : Int) : Bool × Int × Int := (p_Parts_t f).val
def p_Class_T (p_Parts : Int → Bool × Int × Int) (f : Int) : Tr (Int) := Tr.br ((p_Parts f).snd.fst == 2047) (Tr.br ((p_Parts f).snd.snd == 0) (Tr.leaf 3) (Tr.br ((p_Parts f).snd.fst == 2047) (Tr.leaf 4) (Tr.br ((p_Parts f).snd.fst == 0) (Tr.br ((p_Parts f).snd.snd == 0) (Tr.leaf 0) (Tr.br ((p_Parts f).snd.fst == 0) (Tr.leaf 1) (Tr.leaf 2))) (Tr.br ((p_Parts f).snd.fst == 0) (Tr.leaf 1) (Tr.leaf 2))))) (Tr.br ((p_Parts f).snd.fst == 2047) (Tr.leaf 4) (Tr.br ((p_Parts f).snd.fst == 0) (Tr.br ((p_Parts f).snd.snd == 0) (Tr.leaf 0) (Tr.br ((p_Parts f).snd.fst == 0) (Tr.leaf 1) (Tr.leaf 2))) (Tr.br ((p_Parts f).snd.fst == 0) (Tr.leaf 1) (Tr.leaf 2))))
def p_Class_t (f : Int) : Tr (Int) := p_Class_T p_Parts f
def p_Class (f : Int) : Int := (p_Class_t f).val
def p_Split_T (p_Parts : Int → Bool × Int × Int) (p_Class : Int → Int) (f : Int) : Tr (Int × Int) := Tr.br (p_Class f == 2) (Tr.leaf (bitsI BinOp.or IntKind.u64 4503599627370496 (p_Parts f).snd.snd, IntKind.i64.wrap ((p_Parts f).snd.fst - 1075))) (Tr.br (p_Class f == 1) (Tr.leaf ((p_Parts f).snd.snd, -1074)) (Tr.leaf (0, 0)))
def p_Split_t (f : Int) : Tr (Int × Int) := p_Split_T p_Parts p_Class f
def p_Split (f : Int) : Int × Int := (p_Split_t f).val
def p_Value_T (p_Class : Int → Int) (p_Split : Int → Int × Int) (q_Dyad : Bool → Int → Int → RR × Int) (q_Dyad_s : Bool → Int → Int → Bool) (f : Int) : Tr (RR × Bool) := Tr.br (p_Class f == 3) (Tr.leaf (RR.mk false [] [], false)) (Tr.br (p_Class f == 4) (Tr.leaf (RR.mk false [] [], false)) (Tr.ast (q_Dyad_s (shrI IntKind.u64 f 63 == 1) (p_Split f).fst (p_Split f).snd) (Tr.leaf ((q_Dyad (shrI IntKind.u64 f 63 == 1) (p_Split f).fst (p_Split f).snd).fst, true))))
def p_Value_t (f : Int) : Tr (RR × Bool) := p_Value_T p_Class p_Split q_Dyad q_Dyad_s f
def p_Value (f : Int) : RR × Bool := (p_Value_t f).val
def p_Value_s (f : Int) : Bool := (p_Value_t f).safe
def p_key_T  (f : Int) : Tr (Int) := Tr.br (shrI IntKind.u64 f 63 == 1) (Tr.leaf (IntKind.i64.wrap (0 - IntKind.i64.wrap (bitsI BinOp.andNot IntKind.u64 f 9223372036854775808)))) (Tr.leaf (IntKind.i64.wrap (bitsI BinOp.andNot IntKind.u64 f 9223372036854775808)))
def p_key_t (f : Int) : Tr (Int) := p_key_T  f
def p_key (f : Int) : Int := (p_key_t f).val
def p_nan_T (p_Class : Int → Int) (f : Int) : Tr (Bool) := Tr.leaf (p_Class f == 4)
def p_nan_t (f : Int) : Tr (Bool) := p_nan_T p_Class f
def p_nan (f : Int) : Bool := (p_nan_t f).val
def p_Cmp_T (p_nan : Int → Bool) (p_key : Int → Int) (a : Int) (b : Int) : Tr (Int × Bool) := Tr.br (p_nan a) (Tr.leaf (0, false)) (Tr.br (p_nan b) (Tr.leaf (0, false)) (Tr.br (decide (p_key a < p_key b)) (Tr.leaf (-1, true)) (Tr.br (decide (p_key a > p_key b)) (Tr.leaf (1, true)) (Tr.leaf (0, true)))))
def p_Cmp_t (a : Int) (b : Int) : Tr (Int × Bool) := p_Cmp_T p_nan p_key a b
def p_Cmp (a : Int) (b : Int) : Int × Bool := (p_Cmp_t a b).val
def p_Less_T (p_Cmp : Int → Int → Int × Bool) (a : Int) (b : Int) : Tr (Bool) := Tr.br (p_Cmp a b).snd (Tr.leaf (decide ((p_Cmp a b).fst < 0))) (Tr.leaf false)
def p_Less_t (a : Int) (b : Int) : Tr (Bool) := p_Less_T p_Cmp a b
def p_Less (a : Int) (b : Int) : Bool := (p_Less_t a b).val
def p_Inf_T (p_Make : Bool → Int → Int → Int × Int) (neg : Bool) : Tr (Int) := Tr.leaf (p_Make neg 2047 0).fst
def p_Inf_t (neg : Bool) : Tr (Int) := p_Inf_T p_Make neg
def p_Inf (neg : Bool) : Int := (p_Inf_t neg).val
def p_Neg_T (p_nan : Int → Bool) (f : Int) : Tr (Int) := Tr.br (p_nan f) (Tr.leaf f) (Tr.leaf (bitsI BinOp.xor IntKind.u64 f 9223372036854775808))
def p_Neg_t (f : Int) : Tr (Int) := p_Neg_T p_nan f
def p_Neg (f : Int) : Int := (p_Neg_t f).val
def p_Quiet_T   : Tr (Int) := Tr.leaf 9221120237041090560
def p_Quiet_t  : Tr (Int) := p_Quiet_T  
def p_Quiet  : Int := (p_Quiet_t ).val
def p_Max1_T (p_Less : Int → Int → Bool) (a : Int) (b : Int) : Tr (Bool) := Tr.leaf (p_Less b a)
def p_Max1_t (a : Int) (b : Int) : Tr (Bool) := p_Max1_T p_Less a b
def p_Max1 (a : Int) (b : Int) : Bool := (p_Max1_t a b).val
def p_bestM_L0_T (p_Quiet : Int) (p_nan : Int → Bool) (p_Max1 : Int → Int → Bool) (v15 : List Int) (v16 : Int) (v5 : Int) (v17 : Int) : Tr ((Int × Int) ⊕ ((Int × Int) ⊕ (Int))) := Tr.br (decide (v17 < v16)) (Tr.ast (decide (0 ≤ v17) && decide (v17 < (v15.length : Int))) (Tr.br (p_nan (v15.getD v17.toNat 0)) (Tr.leaf (Sum.inr (Sum.inr p_Quiet))) (Tr.br (p_Max1 (v15.getD v17.toNat 0) v5) (Tr.leaf (Sum.inl (v15.getD v17.toNat 0, IntKind.i64.wrap (v17 + 1)))) (Tr.leaf (Sum.inl (v5, IntKind.i64.wrap (v17 + 1))))))) (Tr.leaf (Sum.inr (Sum.inl (v5, v17))))
def p_bestM_L0_step (p : (List Int) × Int) (x : Int × Int) : Tr ((Int × Int) ⊕ ((Int × Int) ⊕ (Int))) := p_bestM_L0_T p_Quiet p_nan p_Max1 p.1 p.2 x.1 x.2
def p_bestM_L0_r (p : (List Int) × Int) (x : Int × Int) : Option ((Int × Int) ⊕ (Int)) := runB (p_bestM_L0_step p) x
def p_bestM_L0_rt (p : (List Int) × Int) (x : Int × Int) : Bool := isR (p_bestM_L0_r p x)
def p_bestM_L0_v (p : (List Int) × Int) (x : Int × Int) : Int × Int := outL_ x (p_bestM_L0_r p x)
def p_bestM_L0_rv (p : (List Int) × Int) (x : Int × Int) : Int := outR_ 0 (p_bestM_L0_r p x)
def p_bestM_L0_ok (p : (List Int) × Int) (x : Int × Int) : Bool := (p_bestM_L0_r p x).isSome
def p_bestM_T (p_Quiet : Int) (p_bestM_L0_ok : ((List Int) × Int) → (Int × Int) → Bool) (p_bestM_L0_rt : ((List Int) × Int) → (Int × Int) → Bool) (p_bestM_L0_v : ((List Int) × Int) → (Int × Int) → Int × Int) (p_bestM_L0_rv : ((List Int) × Int) → (Int × Int) → Int) (l : List Int) (_g : Unit) : Tr (Int) := Tr.br ((l.length : Int) == 0) (Tr.leaf p_Quiet) (Tr.ast (decide (0 < (l.length : Int))) (Tr.ast (p_bestM_L0_ok (l, (l.length : Int)) (l.getD (Int.toNat 0) 0, 0)) (Tr.br (p_bestM_L0_rt (l, (l.length : Int)) (l.getD (Int.toNat 0) 0, 0)) (Tr.leaf (p_bestM_L0_rv (l, (l.length : Int)) (l.getD (Int.toNat 0) 0, 0))) (Tr.leaf (p_bestM_L0_v (l, (l.length : Int)) (l.getD (Int.toNat 0) 0, 0)).fst))))
def p_bestM_t (l : List Int) (g : Unit) : Tr (Int) := p_bestM_T p_Quiet p_bestM_L0_ok p_bestM_L0_rt p_bestM_L0_v p_bestM_L0_rv l g
def p_bestM (l : List Int) (g : Unit) : Int := (p_bestM_t l g).val
def p_bestM_s (l : List Int) (g : Unit) : Bool := (p_bestM_t l g).safe
def p_bestL_L0_T (p_Quiet : Int) (p_nan : Int → Bool) (p_Less : Int → Int → Bool) (v15 : List Int) (v16 : Int) (v5 : Int) (v17 : Int) : Tr ((Int × Int) ⊕ ((Int × Int) ⊕ (Int))) := Tr.br (decide (v17 < v16)) (Tr.ast (decide (0 ≤ v17) && decide (v17 < (v15.length : Int))) (Tr.br (p_nan (v15.getD v17.toNat 0)) (Tr.leaf (Sum.inr (Sum.inr p_Quiet))) (Tr.br (p_Less (v15.getD v17.toNat 0) v5) (Tr.leaf (Sum.inl (v15.getD v17.toNat 0, IntKind.i64.wrap (v17 + 1)))) (Tr.leaf (Sum.inl (v5, IntKind.i64.wrap (v17 + 1))))))) (Tr.leaf (Sum.inr (Sum.inl (v5, v17))))
def p_bestL_L0_step (p : (List Int) × Int) (x : Int × Int) : Tr ((Int × Int) ⊕ ((Int × Int) ⊕ (Int))) := p_bestL_L0_T p_Quiet p_nan p_Less p.1 p.2 x.1 x.2
def p_bestL_L0_r (p : (List Int) × Int) (x : Int × Int) : Option ((Int × Int) ⊕ (Int)) := runB (p_bestL_L0_step p) x
def p_bestL_L0_rt (p : (List Int) × Int) (x : Int × Int) : Bool := isR (p_bestL_L0_r p x)
def p_bestL_L0_v (p : (List Int) × Int) (x : Int × Int) : Int × Int := outL_ x (p_bestL_L0_r p x)
def p_bestL_L0_rv (p : (List Int) × Int) (x : Int × Int) : Int := outR_ 0 (p_bestL_L0_r p x)
def p_bestL_L0_ok (p : (List Int) × Int) (x : Int × Int) : Bool := (p_bestL_L0_r p x).isSome
def p_bestL_T (p_Quiet : Int) (p_bestL_L0_ok : ((List Int) × Int) → (Int × Int) → Bool) (p_bestL_L0_rt : ((List Int) × Int) → (Int × Int) → Bool) (p_bestL_L0_v : ((List Int) × Int) → (Int × Int) → Int × Int) (p_bestL_L0_rv : ((List Int) × Int) → (Int × Int) → Int) (l : List Int) (_g : Unit) : Tr (Int) := Tr.br ((l.length : Int) == 0) (Tr.leaf p_Quiet) (Tr.ast (decide (0 < (l.length : Int))) (Tr.ast (p_bestL_L0_ok (l, (l.length : Int)) (l.getD (Int.toNat 0) 0, 0)) (Tr.br (p_bestL_L0_rt (l, (l.length : Int)) (l.getD (Int.toNat 0) 0, 0)) (Tr.leaf (p_bestL_L0_rv (l, (l.length : Int)) (l.getD (Int.toNat 0) 0, 0))) (Tr.leaf (p_bestL_L0_v (l, (l.length : Int)) (l.getD (Int.toNat 0) 0, 0)).fst))))
def p_bestL_t (l : List Int) (g : Unit) : Tr (Int) := p_bestL_T p_Quiet p_bestL_L0_ok p_bestL_L0_rt p_bestL_L0_v p_bestL_L0_rv l g
def p_bestL (l : List Int) (g : Unit) : Int := (p_bestL_t l g).val
def p_bestL_s (l : List Int) (g : Unit) : Bool := (p_bestL_t l g).safe
def p_Max_T (p_bestM : (List Int) → Unit → Int) (p_bestM_s : (List Int) → Unit → Bool) (l : List Int) : Tr (Int) := Tr.ast (p_bestM_s l ()) (Tr.leaf (p_bestM l ()))
def p_Max_t (l : List Int) : Tr (Int) := p_Max_T p_bestM p_bestM_s l
def p_Max (l : List Int) : Int := (p_Max_t l).val
def p_Max_s (l : List Int) : Bool := (p_Max_t l).safe
def p_Min_T (p_bestL : (List Int) → Unit → Int) (p_bestL_s : (List Int) → Unit → Bool) (l : List Int) : Tr (Int) := Tr.ast (p_bestL_s l ()) (Tr.leaf (p_bestL l ()))
def p_Min_t (l : List Int) : Tr (Int) := p_Min_T p_bestL p_bestL_s l
def p_Min (l : List Int) : Int := (p_Min_t l).val
def p_Min_s (l : List Int) : Bool := (p_Min_t l).safe
def r4_Parts_T  (f : Int) : Tr (Bool × Int × Int) := Tr.leaf (IntKind.u64.wrap (f.tdiv 9223372036854775808) == 1, IntKind.i64.wrap ((IntKind.u64.wrap (f.tdiv 4503599627370496)).tmod 2048), f.tmod 4503599627370496)
def r4_Parts_t (f : Int) : Tr (Bool × Int × Int) := r4_Parts_T  f
def r4_Parts (f : Int) : Bool × Int × Int := (r4_Parts_t f).val
def r4_Class_T (r4_Parts : Int → Bool × Int × Int) (f : Int) : Tr (Int) := Tr.br ((r4_Parts f).snd.fst == 2047) (Tr.br ((r4_Parts f).snd.snd == 0) (Tr.leaf 3) (Tr.br ((r4_Parts f).snd.fst == 2047) (Tr.leaf 4) (Tr.br ((r4_Parts f).snd.fst == 0) (Tr.br ((r4_Parts f).snd.snd == 0) (Tr.leaf 0) (Tr.br ((r4_Parts f).snd.fst == 0) (Tr.leaf 1) (Tr.leaf 2))) (Tr.br ((r4_Parts f).snd.fst == 0) (Tr.leaf 1) (Tr.leaf 2))))) (Tr.br ((r4_Parts f).snd.fst == 2047) (Tr.leaf 4) (Tr.br ((r4_Parts f).snd.fst == 0) (Tr.br ((r4_Parts f).snd.snd == 0) (Tr.leaf 0) (Tr.br ((r4_Parts f).snd.fst == 0) (Tr.leaf 1) (Tr.leaf 2))) (Tr.br ((r4_Parts f).snd.fst == 0) (Tr.leaf 1) (Tr.leaf 2))))
def r4_Class_t (f : Int) : Tr (Int) := r4_Class_T r4_Parts f
def r4_Class (f : Int) : Int := (r4_Class_t f).val
def r4_Finite_T (r4_Class : Int → Int) (f : Int) : Tr (Bool) := Tr.br (r4_Class f != 3) (Tr.leaf (r4_Class f != 4)) (Tr.leaf false)
def r4_Finite_t (f : Int) : Tr (Bool) := r4_Finite_T r4_Class f
def r4_Finite (f : Int) : Bool := (r4_Finite_t f).val
def r4_Key_T (r4_Parts : Int → Bool × Int × Int) (f : Int) : Tr (Int) := Tr.br (r4_Parts f).fst (Tr.leaf (IntKind.i64.wrap (0 - IntKind.i64.wrap (IntKind.i64.wrap ((r4_Parts f).snd.fst * 4503599627370496) + IntKind.i64.wrap (r4_Parts f).snd.snd)))) (Tr.leaf (IntKind.i64.wrap (IntKind.i64.wrap ((r4_Parts f).snd.fst * 4503599627370496) + IntKind.i64.wrap (r4_Parts f).snd.snd)))
def r4_Key_t (f : Int) : Tr (Int) := r4_Key_T r4_Parts f
def r4_Key (f : Int) : Int := (r4_Key_t f).val
def r4_Cmp_T (r4_Class : Int → Int) (r4_Key : Int → Int) (a : Int) (b : Int) : Tr (Int × Bool) := Tr.br (r4_Class a == 4) (Tr.leaf (0, false)) (Tr.br (r4_Class b == 4) (Tr.leaf (0, false)) (Tr.br (decide (r4_Key a < r4_Key b)) (Tr.leaf (-1, true)) (Tr.br (decide (r4_Key a > r4_Key b)) (Tr.leaf (1, true)) (Tr.leaf (0, true)))))
def r4_Cmp_t (a : Int) (b : Int) : Tr (Int × Bool) := r4_Cmp_T r4_Class r4_Key a b
def r4_Cmp (a : Int) (b : Int) : Int × Bool := (r4_Cmp_t a b).val
end Go.Fb
