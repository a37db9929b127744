/- Contracts and laws of functions of the program, on the way to the claim. Conditions: as each theorem states. -/
import Derived.Test.YtfbpklopnnnniaaS1g
namespace Go.Proofs.Ytfbpklopnnnniaa
open Go.Ev Go.Fb

/-! ### Quotients of ends -/
def ov (x y : Int) : Int :=
  if x ≥ 1099511627776 ∨ x ≤ -1099511627776 then (if (x < 0 ∧ ¬ y < 0) ∨ (¬ x < 0 ∧ y < 0) then -1099511627776 else 1099511627776)
  else if y ≥ 1099511627776 ∨ y ≤ -1099511627776 then 0 else x.tdiv y
theorem tdiv_bd {x y : Int} (hx : 0 ≤ x) (hy : 0 < y) : 0 ≤ x.tdiv y ∧ x.tdiv y ≤ x := by
  rw [Int.tdiv_eq_ediv_of_nonneg hx]
  exact ⟨Int.ediv_nonneg hx (by omega), Int.ediv_le_self _ hx⟩
theorem tdiv_bd' {x y : Int} (hx : x ≤ 0) (hy : 0 < y) : x ≤ x.tdiv y ∧ x.tdiv y ≤ 0 := by
  have h := tdiv_bd (x := -x) (y := y) (by omega) hy
  rw [Int.neg_tdiv] at h
  omega
theorem tdiv_rg {x : Int} (y : Int) (hx : Rg x) : Rg (x.tdiv y) := by
  unfold Rg at *
  have key : ∀ z : Int, 0 < z → -1099511627776 ≤ x.tdiv z ∧ x.tdiv z ≤ 1099511627776 := fun z hz => by
    rcases Int.le_total 0 x with h | h
    · have := tdiv_bd h hz; omega
    · have := tdiv_bd' h hz; omega
  rcases Int.lt_trichotomy y 0 with h | h | h
  · have := key (-y) (by omega)
    rw [Int.tdiv_neg] at this
    omega
  · subst h; simp
  · exact key y h
theorem over_eq {x : Int} (y : Int) (hx : Rg x) : ints_over x y = ov x y := by
  have ht := tdiv_rg y hx
  unfold Rg at hx ht
  simp only [ints_over, ints_over_t, ints_over_T, Tr.val, far_eq, Bool.cond_decide]
  rw [w64 (by omega) (by omega)]
  unfold ov
  by_cases h1 : x ≥ 1099511627776 ∨ x ≤ -1099511627776 <;> by_cases h2 : y ≥ 1099511627776 ∨ y ≤ -1099511627776 <;>
    by_cases h3 : x < 0 <;> by_cases h4 : y < 0 <;> simp only [h1, h2, h3, h4] <;> rfl
theorem ov_neg (x : Int) {y : Int} (hy : y ≠ 0) : ov x (-y) = -ov x y := by
  unfold ov
  rw [Int.tdiv_neg]
  by_cases h1 : x ≥ 1099511627776 ∨ x ≤ -1099511627776
  · rw [if_pos h1, if_pos h1]
    split <;> split <;> omega
  · rw [if_neg h1, if_neg h1]
    split <;> split <;> omega
theorem ov_monoX {a x y : Int} (ha : Rg a) (hx : Rg x) (h : a ≤ x) (hy : 0 < y) : ov a y ≤ ov x y := by
  have ta := tdiv_rg y ha
  have tx := tdiv_rg y hx
  have hm := Int.tdiv_le_tdiv hy h
  have b1 := fun hx => tdiv_bd (x := x) hx hy
  have b2 := fun ha => tdiv_bd' (x := a) ha hy
  unfold Rg at *
  unfold ov
  generalize a.tdiv y = p at *
  generalize x.tdiv y = q at *
  (repeat' split) <;> omega
theorem ov_btwX {a b x y : Int} (ha : Rg a) (hb : Rg b) (hx : Rg x) (h1 : a ≤ x) (h2 : x ≤ b) (hy : y ≠ 0) :
    ov a y ≤ ov x y ∧ ov x y ≤ ov b y ∨ ov b y ≤ ov x y ∧ ov x y ≤ ov a y := by
  rcases Int.lt_or_lt_of_ne hy with h | h
  · have hm : (-y) ≠ 0 := by omega
    have e : ∀ z, ov z y = -ov z (-y) := fun z => by rw [← ov_neg z hm, Int.neg_neg]
    have p := ov_monoX ha hx h1 (y := -y) (by omega)
    have q := ov_monoX hx hb h2 (y := -y) (by omega)
    rw [e a, e x, e b]; omega
  · exact .inl ⟨ov_monoX ha hx h1 h, ov_monoX hx hb h2 h⟩
theorem tdiv_anti {x y z : Int} (hx : 0 ≤ x) (hy : 0 < y) (h : y ≤ z) : x.tdiv z ≤ x.tdiv y := by
  rw [Int.tdiv_eq_ediv_of_nonneg hx, Int.tdiv_eq_ediv_of_nonneg hx, Int.le_ediv_iff_mul_le hy]
  have h0 : 0 ≤ x / z := Int.ediv_nonneg hx (by omega)
  have h1 : x / z * z ≤ x := Int.ediv_mul_le _ (by omega)
  exact Int.le_trans (Int.mul_le_mul_of_nonneg_left h h0) h1
theorem tdiv_mono {x y z : Int} (hx : x ≤ 0) (hy : 0 < y) (h : y ≤ z) : x.tdiv y ≤ x.tdiv z := by
  have := tdiv_anti (x := -x) (by omega) hy h
  rw [Int.neg_tdiv, Int.neg_tdiv] at this
  omega
theorem ov_antiY {x y z : Int} (h0 : 0 ≤ x) (hy : 0 < y) (h : y ≤ z) : ov x z ≤ ov x y := by
  have h1 := tdiv_anti h0 hy h
  have h2 := tdiv_bd h0 hy
  unfold ov
  generalize x.tdiv y = p at *
  generalize x.tdiv z = q at *
  (repeat' split) <;> omega
theorem ov_monoY {x y z : Int} (h0 : x ≤ 0) (hy : 0 < y) (h : y ≤ z) : ov x y ≤ ov x z := by
  have h1 := tdiv_mono h0 hy h
  have h2 := tdiv_bd' h0 hy
  unfold ov
  generalize x.tdiv y = p at *
  generalize x.tdiv z = q at *
  (repeat' split) <;> omega
theorem ov_btwY (x : Int) {c d y : Int} (h1 : c ≤ y) (h2 : y ≤ d) (hs : 0 < c ∨ d < 0) :
    ov x c ≤ ov x y ∧ ov x y ≤ ov x d ∨ ov x d ≤ ov x y ∧ ov x y ≤ ov x c := by
  rcases hs with hs | hs
  · rcases Int.le_total 0 x with h | h
    · exact .inr ⟨ov_antiY h (by omega) h2, ov_antiY h hs h1⟩
    · exact .inl ⟨ov_monoY h hs h1, ov_monoY h (by omega) h2⟩
  · have e : ∀ {z}, z < 0 → ov x z = -ov x (-z) := fun {z} hz => by rw [← ov_neg x (y := -z) (by omega), Int.neg_neg]
    rw [e (z := c) (by omega), e (z := d) hs, e (z := y) (by omega)]
    rcases Int.le_total 0 x with h | h
    · have p := ov_antiY h (y := -y) (z := -c) (by omega) (by omega)
      have q := ov_antiY h (y := -d) (z := -y) (by omega) (by omega)
      omega
    · have p := ov_monoY h (y := -y) (z := -c) (by omega) (by omega)
      have q := ov_monoY h (y := -d) (z := -y) (by omega) (by omega)
      omega
/-- ends by which one divides -/
def ends (b : I3) : List Int := [b.lo, b.hi, -1, 1].filter fun y => y != 0 && has b y
def dl (a b c : I3) : List Int := (ends c).map (ov a.lo) ++ (ends c).map (ov b.hi)
theorem mem_ends {b : I3} {y : Int} : y ∈ ends b ↔ (y = b.lo ∨ y = b.hi ∨ y = -1 ∨ y = 1) ∧ y ≠ 0 ∧ has b y = true := by
  unfold ends
  simp [List.mem_filter]
theorem has_iff {b : I3} {y : Int} : has b y = true ↔ b.e = false ∧ (b.lo = -1099511627776 ∨ b.lo ≤ y) ∧ (b.hi = 1099511627776 ∨ y ≤ b.hi) := by
  unfold has
  simp
/-- between the ends, which may be none -/
def InE (b : I3) (y : Int) : Prop := b.e = false ∧ b.lo ≤ y ∧ y ≤ b.hi
theorem ends_btw {b : I3} (_hb : Nm b) {y : Int} (hy : InE b y) (h0 : y ≠ 0) : ∃ c ∈ ends b, ∃ d ∈ ends b, c ≤ y ∧ y ≤ d ∧ (0 < c ∨ d < 0) := by
  obtain ⟨he, h1, h2⟩ := hy
  rcases Int.lt_or_lt_of_ne h0 with h | h
  · refine ⟨b.lo, mem_ends.2 ⟨.inl rfl, by omega, has_iff.2 ⟨he, by omega, by omega⟩⟩, ?_⟩
    by_cases hd : b.hi < 0
    · exact ⟨b.hi, mem_ends.2 ⟨by simp, by omega, has_iff.2 ⟨he, by omega, by omega⟩⟩, h1, h2, .inr hd⟩
    · exact ⟨-1, mem_ends.2 ⟨by simp, by omega, has_iff.2 ⟨he, by omega, by omega⟩⟩, h1, by omega, .inr (by decide)⟩
  · by_cases hd : 0 < b.lo
    · exact ⟨b.lo, mem_ends.2 ⟨by simp, by omega, has_iff.2 ⟨he, by omega, by omega⟩⟩, b.hi, mem_ends.2 ⟨by simp, by omega, has_iff.2 ⟨he, by omega, by omega⟩⟩, h1, h2, .inl hd⟩
    · exact ⟨1, mem_ends.2 ⟨by simp, by omega, has_iff.2 ⟨he, by omega, by omega⟩⟩, b.hi, mem_ends.2 ⟨by simp, by omega, has_iff.2 ⟨he, by omega, by omega⟩⟩, by omega, h2, .inl (by decide)⟩
theorem ends_in {b : I3} (hb : Nm b) {y : Int} (hy : y ∈ ends b) : InE b y ∧ y ≠ 0 ∧ Rg y := by
  obtain ⟨h1, h2, h3⟩ := mem_ends.1 hy
  obtain ⟨h4, h5, h6⟩ := has_iff.1 h3
  unfold InE Rg
  rcases hb with rfl | hb
  · cases h4
  · refine ⟨⟨h4, ?_, ?_⟩, h2, ?_⟩ <;> omega
theorem dl_btw {a b : I3} (ha : Nm a) (hb : Nm b) {x y : Int} (hx : InE a x) (hy : InE b y) (h0 : y ≠ 0) : Bt (dl a a b) (ov x y) := by
  obtain ⟨c, hc, d, hd, h1, h2, hs⟩ := ends_btw hb hy h0
  have hr := ha.rg
  have hrx : Rg x := by unfold Rg InE at *; omega
  have k1 := ov_btwY x h1 h2 hs
  have k2 := ov_btwX hr.1 hr.2 hrx hx.2.1 hx.2.2 (ends_in hb hc).2.1
  have k3 := ov_btwX hr.1 hr.2 hrx hx.2.1 hx.2.2 (ends_in hb hd).2.1
  have m : ∀ e ∈ ends b, ov a.lo e ∈ dl a a b ∧ ov a.hi e ∈ dl a a b := fun e he => by
    unfold dl
    exact ⟨List.mem_append_left _ (List.mem_map_of_mem he), List.mem_append_right _ (List.mem_map_of_mem he)⟩
  obtain ⟨m1, m2⟩ := m c hc
  obtain ⟨m3, m4⟩ := m d hd
  refine ⟨?_, ?_⟩
  · by_cases q1 : ov a.lo c ≤ ov x y
    · exact ⟨_, m1, q1⟩
    by_cases q2 : ov a.hi c ≤ ov x y
    · exact ⟨_, m2, q2⟩
    by_cases q3 : ov a.lo d ≤ ov x y
    · exact ⟨_, m3, q3⟩
    · exact ⟨_, m4, by omega⟩
  · by_cases q1 : ov x y ≤ ov a.lo c
    · exact ⟨_, m1, q1⟩
    by_cases q2 : ov x y ≤ ov a.hi c
    · exact ⟨_, m2, q2⟩
    by_cases q3 : ov x y ≤ ov a.lo d
    · exact ⟨_, m3, q3⟩
    · exact ⟨_, m4, by omega⟩
def dv (a b : I3) : I3 := if a.e ∨ b.e then ⟨true, 0, 0⟩ else if ends b = [] then ⟨true, 0, 0⟩ else hl (dl a a b)
def ml (a b : I3) : I3 := if a.e ∨ b.e then ⟨true, 0, 0⟩ else hl (cm a.lo a.hi b.lo b.hi)
theorem corT_eq {a : I3} {c d : Int} (ha : Rg a.lo ∧ Rg a.hi) (hc : Rg c) (hd : Rg d) : ints_corT a (c, d) () = hl (cm a.lo a.hi c d) := by
  have e : ints_corT a (c, d) () = ints_hull (imin (imin (imin (imin 1099511627776 (ints_times a.lo c)) (ints_times a.lo d)) (ints_times a.hi c)) (ints_times a.hi d))
     (imax (imax (imax (imax (-1099511627776) (ints_times a.lo c)) (ints_times a.lo d)) (ints_times a.hi c)) (ints_times a.hi d)) := by kernel_rfl
  rw [e, times_eq ha.1 hc, times_eq ha.1 hd, times_eq ha.2 hc, times_eq ha.2 hd, hull_eq]
  simp only [imax_eq, imin_eq]
  rfl
theorem mul_eq (a b : I3) : ints_Mul a b = ml (nrm a) (nrm b) := by
  have ha := (nm_nrm a).rg
  have hb := (nm_nrm b).rg
  simp only [ints_Mul, ints_Mul_t, ints_Mul_T, Tr.val, norm_eq, none_eq, corT_eq ha hb.1 hb.2, ml]
  cases (nrm a).e <;> cases (nrm b).e <;> simp
def hb (l : List Int) (a : I3) : I3 := hl (l.map (ov a.lo) ++ l.map (ov a.hi))
theorem cor1_eq {a : I3} (ha : Rg a.lo ∧ Rg a.hi) (x : Int) : ints_cor1 a x () = hb [x] a := by
  have e : ints_cor1 a x () = ints_hull (imin (imin 1099511627776 (ints_over a.lo x)) (ints_over a.hi x)) (imax (imax (-1099511627776) (ints_over a.lo x)) (ints_over a.hi x)) := by kernel_rfl
  rw [e]
  simp only [over_eq _ ha.1, over_eq _ ha.2, hull_eq, imax_eq, imin_eq]
  rfl
theorem cor2_eq {a : I3} (ha : Rg a.lo ∧ Rg a.hi) (x y : Int) : ints_cor2 a (x, y) () = hb [x, y] a := by
  have e : ints_cor2 a (x, y) () = ints_hull (imin (imin (imin (imin 1099511627776 (ints_over a.lo x)) (ints_over a.lo y)) (ints_over a.hi x)) (ints_over a.hi y))
     (imax (imax (imax (imax (-1099511627776) (ints_over a.lo x)) (ints_over a.lo y)) (ints_over a.hi x)) (ints_over a.hi y)) := by kernel_rfl
  rw [e]
  simp only [over_eq _ ha.1, over_eq _ ha.2, hull_eq, imax_eq, imin_eq]
  rfl
theorem cor3_eq {a : I3} (ha : Rg a.lo ∧ Rg a.hi) (x y z : Int) : ints_cor3 a (x, y, z) () = hb [x, y, z] a := by
  have e : ints_cor3 a (x, y, z) () = ints_hull (imin (imin (imin (imin (imin (imin 1099511627776 (ints_over a.lo x)) (ints_over a.lo y)) (ints_over a.lo z)) (ints_over a.hi x)) (ints_over a.hi y)) (ints_over a.hi z))
     (imax (imax (imax (imax (imax (imax (-1099511627776) (ints_over a.lo x)) (ints_over a.lo y)) (ints_over a.lo z)) (ints_over a.hi x)) (ints_over a.hi y)) (ints_over a.hi z)) := by kernel_rfl
  rw [e]
  simp only [over_eq _ ha.1, over_eq _ ha.2, hull_eq, imax_eq, imin_eq]
  rfl
theorem cor4_eq {a : I3} (ha : Rg a.lo ∧ Rg a.hi) (x y z u : Int) : ints_cor4 a (x, y, z, u) () = hb [x, y, z, u] a := by
  have e : ints_cor4 a (x, y, z, u) () = ints_hull (imin (imin (imin (imin (imin (imin (imin (imin 1099511627776 (ints_over a.lo x)) (ints_over a.lo y)) (ints_over a.lo z)) (ints_over a.lo u)) (ints_over a.hi x)) (ints_over a.hi y)) (ints_over a.hi z)) (ints_over a.hi u))
     (imax (imax (imax (imax (imax (imax (imax (imax (-1099511627776) (ints_over a.lo x)) (ints_over a.lo y)) (ints_over a.lo z)) (ints_over a.lo u)) (ints_over a.hi x)) (ints_over a.hi y)) (ints_over a.hi z)) (ints_over a.hi u)) := by kernel_rfl
  rw [e]
  simp only [over_eq _ ha.1, over_eq _ ha.2, hull_eq, imax_eq, imin_eq]
  rfl
theorem div_eq (a b : I3) : ints_Div a b = dv (nrm a) (nrm b) := by
  have ha := (nm_nrm a).rg
  have hn := nrm_nm (nm_nrm b)
  have e : ∀ l, hl (l.map (ov (nrm a).lo) ++ l.map (ov (nrm a).hi)) = hb l (nrm a) := fun l => rfl
  simp only [ints_Div, ints_Div_t, ints_Div_T, Tr.val, norm_eq, none_eq, has_eq, hn, cor1_eq ha, cor2_eq ha, cor3_eq ha, cor4_eq ha, dv, dl, e, ends]
  generalize nrm a = x
  generalize nrm b = y
  have hm : ((-1 : Int) != 0) = true := rfl
  have h1 : ((1 : Int) != 0) = true := rfl
  cases x.e
  · cases y.e
    · cases hl1 : (y.lo != 0) <;> cases hl2 : has y y.lo <;> cases hl3 : (y.hi != 0) <;> cases hl4 : has y y.hi <;> cases hl5 : has y (-1) <;> cases hl6 : has y 1 <;>
        simp [List.filter, hl1, hl2, hl3, hl4, hl5, hl6, hm, h1]
    · simp
  · simp
end Go.Proofs.Ytfbpklopnnnniaa
