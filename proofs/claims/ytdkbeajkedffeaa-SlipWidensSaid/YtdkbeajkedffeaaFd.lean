/- Spans: what the functions compute, as definitions. Conditions: none. -/
import Derived.Test.YtdkbeajkedffeaaSd
namespace Go.Fb
open Go.Ev
def sp_inf_T (p_Inf : Bool → Int)  : Tr (Int) := Tr.leaf (p_Inf false)
def sp_inf_t  : Tr (Int) := sp_inf_T p_Inf 
def sp_inf  : Int := (sp_inf_t ).val
def sp_ninf_T (p_Inf : Bool → Int)  : Tr (Int) := Tr.leaf (p_Inf true)
def sp_ninf_t  : Tr (Int) := sp_ninf_T p_Inf 
def sp_ninf  : Int := (sp_ninf_t ).val
def sp_none_T   : Tr (SP) := Tr.leaf (SP.mk true 0 0)
def sp_none_t  : Tr (SP) := sp_none_T  
def sp_none  : SP := (sp_none_t ).val
def sp_atMost_T (p_Cmp : Int → Int → Int × Bool) (a : Int) (b : Int) : Tr (Bool) := Tr.br (p_Cmp a b).snd (Tr.leaf (decide ((p_Cmp a b).fst ≤ 0))) (Tr.leaf false)
def sp_atMost_t (a : Int) (b : Int) : Tr (Bool) := sp_atMost_T p_Cmp a b
def sp_atMost (a : Int) (b : Int) : Bool := (sp_atMost_t a b).val
def sp_norm_T (sp_atMost : Int → Int → Bool) (sp_inf : Int) (sp_ninf : Int) (sp_none : SP) (p_Class : Int → Int) (s : SP) : Tr (SP) := Tr.br s.empty (Tr.leaf sp_none) (Tr.br (!sp_atMost s.lo s.hi) (Tr.leaf sp_none) (Tr.br (s.lo == sp_inf) (Tr.leaf sp_none) (Tr.br (s.hi == sp_ninf) (Tr.leaf sp_none) (Tr.br (p_Class s.lo == 0) (Tr.br (p_Class s.hi == 0) (Tr.leaf (SP.mk s.empty 0 0)) (Tr.leaf (SP.mk s.empty 0 s.hi))) (Tr.br (p_Class s.hi == 0) (Tr.leaf (SP.mk s.empty s.lo 0)) (Tr.leaf s))))))
def sp_norm_t (s : SP) : Tr (SP) := sp_norm_T sp_atMost sp_inf sp_ninf sp_none p_Class s
def sp_norm (s : SP) : SP := (sp_norm_t s).val
def sp_Make_T (sp_norm : SP → SP) (lo : Int) (hi : Int) : Tr (SP) := Tr.leaf (sp_norm (SP.mk false lo hi))
def sp_Make_t (lo : Int) (hi : Int) : Tr (SP) := sp_Make_T sp_norm lo hi
def sp_Make (lo : Int) (hi : Int) : SP := (sp_Make_t lo hi).val
def sp_Point_T (sp_Make : Int → Int → SP) (f : Int) : Tr (SP) := Tr.leaf (sp_Make f f)
def sp_Point_t (f : Int) : Tr (SP) := sp_Point_T sp_Make f
def sp_Point (f : Int) : SP := (sp_Point_t f).val
def sp_All_T (sp_ninf : Int) (sp_inf : Int) (sp_Make : Int → Int → SP)  : Tr (SP) := Tr.leaf (sp_Make sp_ninf sp_inf)
def sp_All_t  : Tr (SP) := sp_All_T sp_ninf sp_inf sp_Make 
def sp_All  : SP := (sp_All_t ).val
def sp_Inside_T (sp_norm : SP → SP) (sp_atMost : Int → Int → Bool) (a : SP) (b : SP) : Tr (Bool) := Tr.br (sp_norm a).empty (Tr.leaf true) (Tr.br (!(sp_norm b).empty) (Tr.br (sp_atMost (sp_norm b).lo (sp_norm a).lo) (Tr.leaf (sp_atMost (sp_norm a).hi (sp_norm b).hi)) (Tr.leaf false)) (Tr.leaf false))
def sp_Inside_t (a : SP) (b : SP) : Tr (Bool) := sp_Inside_T sp_norm sp_atMost a b
def sp_Inside (a : SP) (b : SP) : Bool := (sp_Inside_t a b).val
def sp_Has_T (p_Class : Int → Int) (sp_Point : Int → SP) (sp_Inside : SP → SP → Bool) (s : SP) (f : Int) : Tr (Bool) := Tr.br (p_Class f != 3) (Tr.br (!(sp_Point f).empty) (Tr.leaf (sp_Inside (sp_Point f) s)) (Tr.leaf false)) (Tr.leaf false)
def sp_Has_t (s : SP) (f : Int) : Tr (Bool) := sp_Has_T p_Class sp_Point sp_Inside s f
def sp_Has (s : SP) (f : Int) : Bool := (sp_Has_t s f).val
def sp_Join_L0_T (sp_norm : SP → SP) (p_Min : (List Int) → Int) (p_Min_s : (List Int) → Bool) (p_Max : (List Int) → Int) (p_Max_s : (List Int) → Bool) (sp_Make : Int → Int → SP) (v7 : List (List Cv)) (v8 : Int) (_h0_0 : Bool) (_h0_1 : Int) (_h0_2 : Int) (v9 : Int) (h1_0 : Bool) (h1_1 : Int) (h1_2 : Int) : Tr ((Int × Bool × Int × Int) ⊕ (Int × Bool × Int × Int)) := Tr.br (decide (v9 < v8)) (Tr.ast (decide (0 ≤ v9) && decide (v9 < (v7.length : Int))) (Tr.br (sp_norm (SP.mk ((v7.getD v9.toNat []).headD (Cv.i 0)).bool ((v7.getD v9.toNat []).tail.headD (Cv.i 0)).int ((v7.getD v9.toNat []).tail.tail.headD (Cv.i 0)).int)).empty (Tr.leaf (Sum.inl (IntKind.i64.wrap (v9 + 1), h1_0, h1_1, h1_2))) (Tr.br h1_0 (Tr.leaf (Sum.inl (IntKind.i64.wrap (v9 + 1), (sp_norm (SP.mk ((v7.getD v9.toNat []).headD (Cv.i 0)).bool ((v7.getD v9.toNat []).tail.headD (Cv.i 0)).int ((v7.getD v9.toNat []).tail.tail.headD (Cv.i 0)).int)).empty, (sp_norm (SP.mk ((v7.getD v9.toNat []).headD (Cv.i 0)).bool ((v7.getD v9.toNat []).tail.headD (Cv.i 0)).int ((v7.getD v9.toNat []).tail.tail.headD (Cv.i 0)).int)).lo, (sp_norm (SP.mk ((v7.getD v9.toNat []).headD (Cv.i 0)).bool ((v7.getD v9.toNat []).tail.headD (Cv.i 0)).int ((v7.getD v9.toNat []).tail.tail.headD (Cv.i 0)).int)).hi))) (Tr.ast (p_Min_s [h1_1, (sp_norm (SP.mk ((v7.getD v9.toNat []).headD (Cv.i 0)).bool ((v7.getD v9.toNat []).tail.headD (Cv.i 0)).int ((v7.getD v9.toNat []).tail.tail.headD (Cv.i 0)).int)).lo]) (Tr.ast (p_Max_s [h1_2, (sp_norm (SP.mk ((v7.getD v9.toNat []).headD (Cv.i 0)).bool ((v7.getD v9.toNat []).tail.headD (Cv.i 0)).int ((v7.getD v9.toNat []).tail.tail.headD (Cv.i 0)).int)).hi]) (Tr.leaf (Sum.inl (IntKind.i64.wrap (v9 + 1), (sp_Make (p_Min [h1_1, (sp_norm (SP.mk ((v7.getD v9.toNat []).headD (Cv.i 0)).bool ((v7.getD v9.toNat []).tail.headD (Cv.i 0)).int ((v7.getD v9.toNat []).tail.tail.headD (Cv.i 0)).int)).lo]) (p_Max [h1_2, (sp_norm (SP.mk ((v7.getD v9.toNat []).headD (Cv.i 0)).bool ((v7.getD v9.toNat []).tail.headD (Cv.i 0)).int ((v7.getD v9.toNat []).tail.tail.headD (Cv.i 0)).int)).hi])).empty, (sp_Make (p_Min [h1_1, (sp_norm (SP.mk ((v7.getD v9.toNat []).headD (Cv.i 0)).bool ((v7.getD v9.toNat []).tail.headD (Cv.i 0)).int ((v7.getD v9.toNat []).tail.tail.headD (Cv.i 0)).int)).lo]) (p_Max [h1_2, (sp_norm (SP.mk ((v7.getD v9.toNat []).headD (Cv.i 0)).bool ((v7.getD v9.toNat []).tail.headD (Cv.i 0)).int ((v7.getD v9.toNat []).tail.tail.headD (Cv.i 0)).int)).hi])).lo, (sp_Make (p_Min [h1_1, (sp_norm (SP.mk ((v7.getD v9.toNat []).headD (Cv.i 0)).bool ((v7.getD v9.toNat []).tail.headD (Cv.i 0)).int ((v7.getD v9.toNat []).tail.tail.headD (Cv.i 0)).int)).lo]) (p_Max [h1_2, (sp_norm (SP.mk ((v7.getD v9.toNat []).headD (Cv.i 0)).bool ((v7.getD v9.toNat []).tail.headD (Cv.i 0)).int ((v7.getD v9.toNat []).tail.tail.headD (Cv.i 0)).int)).hi])).hi)))))))) (Tr.leaf (Sum.inr (v9, h1_0, h1_1, h1_2)))
def sp_Join_L0_step (p : (List (List Cv)) × Int × Bool × Int × Int) (x : Int × Bool × Int × Int) : Tr ((Int × Bool × Int × Int) ⊕ (Int × Bool × Int × Int)) := sp_Join_L0_T sp_norm p_Min p_Min_s p_Max p_Max_s sp_Make p.1 p.2.1 p.2.2.1 p.2.2.2.1 p.2.2.2.2 x.1 x.2.1 x.2.2.1 x.2.2.2
def sp_Join_L0_r (p : (List (List Cv)) × Int × Bool × Int × Int) (x : Int × Bool × Int × Int) : Option (Int × Bool × Int × Int) := runB (sp_Join_L0_step p) x
def sp_Join_L0_v (p : (List (List Cv)) × Int × Bool × Int × Int) (x : Int × Bool × Int × Int) : Int × Bool × Int × Int := (sp_Join_L0_r p x).getD x
def sp_Join_L0_ok (p : (List (List Cv)) × Int × Bool × Int × Int) (x : Int × Bool × Int × Int) : Bool := (sp_Join_L0_r p x).isSome
def sp_Join_T (sp_none : SP) (sp_Join_L0_ok : ((List (List Cv)) × Int × Bool × Int × Int) → (Int × Bool × Int × Int) → Bool) (sp_Join_L0_v : ((List (List Cv)) × Int × Bool × Int × Int) → (Int × Bool × Int × Int) → Int × Bool × Int × Int) (l : List (List Cv)) : Tr (SP) := Tr.ast (sp_Join_L0_ok (id l, ((id l).length : Int), false, 0, 0) (0, sp_none.empty, sp_none.lo, sp_none.hi)) (Tr.leaf (SP.mk (sp_Join_L0_v (id l, ((id l).length : Int), false, 0, 0) (0, sp_none.empty, sp_none.lo, sp_none.hi)).snd.fst (sp_Join_L0_v (id l, ((id l).length : Int), false, 0, 0) (0, sp_none.empty, sp_none.lo, sp_none.hi)).snd.snd.fst (sp_Join_L0_v (id l, ((id l).length : Int), false, 0, 0) (0, sp_none.empty, sp_none.lo, sp_none.hi)).snd.snd.snd))
def sp_Join_t (l : List (List Cv)) : Tr (SP) := sp_Join_T sp_none sp_Join_L0_ok sp_Join_L0_v l
def sp_Join (l : List (List Cv)) : SP := (sp_Join_t l).val
def sp_Join_s (l : List (List Cv)) : Bool := (sp_Join_t l).safe
def sp_Neg_T (sp_norm : SP → SP) (p_Neg : Int → Int) (sp_Make : Int → Int → SP) (a : SP) : Tr (SP) := Tr.br (sp_norm a).empty (Tr.leaf (sp_norm a)) (Tr.leaf (sp_Make (p_Neg (sp_norm a).hi) (p_Neg (sp_norm a).lo)))
def sp_Neg_t (a : SP) : Tr (SP) := sp_Neg_T sp_norm p_Neg sp_Make a
def sp_Neg (a : SP) : SP := (sp_Neg_t a).val
def sp_Abs_T (sp_norm : SP → SP) (sp_atMost : Int → Int → Bool) (sp_Neg : SP → SP) (p_Neg : Int → Int) (p_Max : (List Int) → Int) (p_Max_s : (List Int) → Bool) (sp_Make : Int → Int → SP) (a : SP) : Tr (SP) := Tr.br (sp_norm a).empty (Tr.leaf (sp_norm a)) (Tr.br (sp_atMost 0 (sp_norm a).lo) (Tr.leaf (sp_norm a)) (Tr.br (sp_atMost (sp_norm a).hi 0) (Tr.leaf (sp_Neg (sp_norm a))) (Tr.ast (p_Max_s [p_Neg (sp_norm a).lo, (sp_norm a).hi]) (Tr.leaf (sp_Make 0 (p_Max [p_Neg (sp_norm a).lo, (sp_norm a).hi]))))))
def sp_Abs_t (a : SP) : Tr (SP) := sp_Abs_T sp_norm sp_atMost sp_Neg p_Neg p_Max p_Max_s sp_Make a
def sp_Abs (a : SP) : SP := (sp_Abs_t a).val
def sp_Abs_s (a : SP) : Bool := (sp_Abs_t a).safe
def sp_Most_T (sp_Abs : SP → SP) (sp_Abs_s : SP → Bool) (a : SP) : Tr (Int) := Tr.ast (sp_Abs_s a) (Tr.leaf (sp_Abs a).hi)
def sp_Most_t (a : SP) : Tr (Int) := sp_Most_T sp_Abs sp_Abs_s a
def sp_Most (a : SP) : Int := (sp_Most_t a).val
def sp_Most_s (a : SP) : Bool := (sp_Most_t a).safe
def sp_zero_T (p_Class : Int → Int) (f : Int) : Tr (Bool) := Tr.leaf (p_Class f == 0)
def sp_zero_t (f : Int) : Tr (Bool) := sp_zero_T p_Class f
def sp_zero (f : Int) : Bool := (sp_zero_t f).val
def sp_Mul1_T (sp_zero : Int → Bool) (s_Mul : Int → Int → Int → Int × Int) (s_Mul_s : Int → Int → Int → Bool) (x : Int) (y : Int) (mode : Int) : Tr (Int) := Tr.br (sp_zero x) (Tr.leaf 0) (Tr.br (sp_zero y) (Tr.leaf 0) (Tr.ast (s_Mul_s x y mode) (Tr.leaf (s_Mul x y mode).fst)))
def sp_Mul1_t (x : Int) (y : Int) (mode : Int) : Tr (Int) := sp_Mul1_T sp_zero s_Mul s_Mul_s x y mode
def sp_Mul1 (x : Int) (y : Int) (mode : Int) : Int := (sp_Mul1_t x y mode).val
def sp_Mul1_s (x : Int) (y : Int) (mode : Int) : Bool := (sp_Mul1_t x y mode).safe
def sp_above1_T (p_Class : Int → Int) (sp_zero : Int → Bool) (p_Inf : Bool → Int) (s_Div : Int → Int → Int → Int × Int) (s_Div_s : Int → Int → Int → Bool) (x : Int) (y : Int) (mode : Int) : Tr (Int) := Tr.br (sp_zero x) (Tr.leaf 0) (Tr.br (p_Class y == 3) (Tr.br (p_Class x != 3) (Tr.leaf 0) (Tr.br (p_Class y == 3) (Tr.leaf (p_Inf (shrI IntKind.u64 x 63 == 1))) (Tr.br (sp_zero y) (Tr.leaf (p_Inf (shrI IntKind.u64 x 63 == 1))) (Tr.ast (s_Div_s x y mode) (Tr.leaf (s_Div x y mode).fst))))) (Tr.br (p_Class y == 3) (Tr.leaf (p_Inf (shrI IntKind.u64 x 63 == 1))) (Tr.br (sp_zero y) (Tr.leaf (p_Inf (shrI IntKind.u64 x 63 == 1))) (Tr.ast (s_Div_s x y mode) (Tr.leaf (s_Div x y mode).fst)))))
def sp_above1_t (x : Int) (y : Int) (mode : Int) : Tr (Int) := sp_above1_T p_Class sp_zero p_Inf s_Div s_Div_s x y mode
def sp_above1 (x : Int) (y : Int) (mode : Int) : Int := (sp_above1_t x y mode).val
def sp_above1_s (x : Int) (y : Int) (mode : Int) : Bool := (sp_above1_t x y mode).safe
def r16_minus_T  (f : Int) : Tr (Int) := Tr.leaf (bitsI BinOp.xor IntKind.u64 f 9223372036854775808)
def r16_minus_t (f : Int) : Tr (Int) := r16_minus_T  f
def r16_minus (f : Int) : Int := (r16_minus_t f).val
end Go.Fb
namespace Go.Fb
open Go.Ev
end Go.Fb
