/- Layer 3: the laws hold, in plain Lean. Conditions: as each theorem states. -/
import Derived.Test.YtdkbeajkedffeaaGreatRl
import Derived.Test.YtdkbeajkedffeaaGreatRp
namespace Go.Fb
open Go.Ev
end Go.Fb
namespace Go.Fb
open Go.Ev
end Go.Fb
namespace Go.Fb
open Go.Ev
def dy (neg : Bool) (m : Nat) (e : Int) : Rat := rq neg (2 ^ e.toNat * m) (2 ^ (-e).toNat)
theorem imax_toNat (e : Int) : imax e 0 = (e.toNat : Int) := by unfold imax; split <;> omega
theorem shl_any {a : List Int} (hw : Wds a) (hn : a.length ≤ 2) {e : Int} (he : e ≤ 8192) : n_Shl_s a e = true ∧ Wds (n_Shl a e).1 ∧ wv (n_Shl a e).1 = 2 ^ e.toNat * wv a ∧ (n_Shl a e).1.length ≤ 300 := by
  obtain ⟨l1, l, l2, l3⟩ := nlen_spec hw (by omega)
  have hl : l ≤ 32 * 2 := lenIs_le l3 (wv_lt2 hw hn)
  obtain ⟨s1, s2, s3, s4⟩ := nshl_spec hw (by omega) (imax_toNat e) (by omega) l3
  refine ⟨s1, ?_⟩
  by_cases h0 : wv a = 0
  · rw [s2 h0, h0]; exact ⟨Wds.nil, by simp [wv], by simp⟩
  · obtain ⟨_, t2⟩ := s4 h0 (by omega)
    exact ⟨t2.1, t2.2.2.1, by have := t2.2.2.2; omega⟩
theorem dyad_spec {neg : Bool} {m : Nat} (hm : m < 18446744073709551616) {e : Int} (h1 : -8192 ≤ e) (h2 : e ≤ 8192) : q_Dyad_s neg (m : Int) e = true ∧ ∃ r, q_Dyad neg (m : Int) e = (r, 0) ∧ RIs r (dy neg m e) 300 := by
  obtain ⟨n1, n2⟩ := nnew_spec (x := (m : Int)) ⟨by omega, by omega⟩
  rw [Int.toNat_natCast] at n2
  obtain ⟨o1, o2⟩ := one_new
  have ew : IntKind.i64.wrap (0 - e) = -e := by rw [w64 (by omega) (by omega)]; omega
  obtain ⟨a1, a2, a3, a4⟩ := shl_any n2.1 n2.2.2.2 h2
  obtain ⟨b1, b2, b3, b4⟩ := shl_any (e := -e) o2.1 o2.2.2.2 (by omega)
  obtain ⟨r1, r2⟩ := low0_spec a2 b2 (k := 300) a4 b4 (by omega) (by omega) neg
  rw [a3, b3, n2.2.2.1, o2.2.2.1, Nat.mul_one] at r2
  have : Tr.Is (q_Dyad_t neg (m : Int) e) (q_low0 neg (n_Shl (n_New (m : Int)) e).1 (n_Shl (n_New 1) (-e)).1, 0) := by
    refine Tr.is_br_f (df (by omega)) (Tr.is_br_f (df (by omega)) (Tr.is_ast n1 (Tr.is_ast a1 (Tr.is_ast o1 (Tr.is_ast ?_ (Tr.is_ast ?_ (Tr.is_leaf ?_)))))))
    · rw [ew]; exact b1
    · rw [ew]; exact r1
    · rw [ew]
  exact ⟨this.2, _, this.1, r2⟩
end Go.Fb
