/- Layer 2: plain laws of what the functions compute. Conditions: as each theorem states. -/
import Derived.Test.YtdkbeajkedffeaaGreatWp
import Derived.Test.YtdkbeajkedffeaaGreatNl
namespace Go.Fb
open Go.Ev
def wv : List Int → Nat
  | [] => 0
  | x :: l => x.toNat + 4294967296 * wv l
def W32 (x : Int) : Prop := 0 ≤ x ∧ x < 4294967296
def Wds (l : List Int) : Prop := ∀ x ∈ l, W32 x
/-- no word of nought at the end -/
def Nz (l : List Int) : Prop := ∀ a x, l = a ++ [x] → x ≠ 0
theorem Wds.nil : Wds [] := fun _ h => nomatch h
theorem Wds.cons {x : Int} {l : List Int} (h : W32 x) (hl : Wds l) : Wds (x :: l) := fun y hy => by
  rcases List.mem_cons.1 hy with rfl | hy
  · exact h
  · exact hl y hy
theorem Wds.app {a b : List Int} (ha : Wds a) (hb : Wds b) : Wds (a ++ b) := fun y hy => (List.mem_append.1 hy).elim (ha y) (hb y)
theorem Wds.left {a b : List Int} (h : Wds (a ++ b)) : Wds a := fun y hy => h y (List.mem_append.2 (.inl hy))
theorem Wds.tail {x : Int} {l : List Int} (h : Wds (x :: l)) : Wds l := fun y hy => h y (List.mem_cons_of_mem _ hy)
theorem Wds.head {x : Int} {l : List Int} (h : Wds (x :: l)) : W32 x := h x List.mem_cons_self
theorem wv_app : ∀ a b : List Int, wv (a ++ b) = wv a + 4294967296 ^ a.length * wv b
  | [], b => by simp [wv]
  | x :: a, b => by
    simp only [List.cons_append, wv, wv_app a b, List.length_cons, Nat.pow_succ]
    rw [Nat.mul_add, ← Nat.mul_assoc, Nat.mul_comm 4294967296 (4294967296 ^ a.length)]
    omega
theorem snoc_cases (l : List Int) : l = [] ∨ ∃ a x, l = a ++ [x] := by
  rcases List.eq_nil_or_concat l with h | ⟨a, x, h⟩
  · exact .inl h
  · exact .inr ⟨a, x, by simpa using h⟩
theorem wv_inj : ∀ {a b : List Int}, Wds a → Wds b → Nz a → Nz b → wv a = wv b → a = b := by
  have key : ∀ {a : List Int}, Wds a → Nz a → wv a = 0 → a = [] := by
    intro a
    induction a with
    | nil => intros; rfl
    | cons x l ih =>
      intro hw hn h
      simp only [wv] at h
      have h0 : wv l = 0 := by omega
      have hl := ih hw.tail (fun b y hy => hn (x :: b) y (by rw [hy]; rfl)) h0
      subst hl
      have := hn [] x rfl
      have hx := hw.head
      unfold W32 at hx
      omega
  intro a
  induction a with
  | nil =>
    intro b _ hb _ hnb h
    exact (key hb hnb h.symm).symm
  | cons x l ih =>
    intro b ha hb hna hnb h
    cases b with
    | nil => exact key ha hna h
    | cons y m =>
      simp only [wv] at h
      have hx := ha.head
      have hy := hb.head
      unfold W32 at hx hy
      have e : x = y := by omega
      subst e
      have : wv l = wv m := by omega
      rw [ih ha.tail hb.tail (fun b z hz => hna (x :: b) z (by rw [hz]; rfl)) (fun b z hz => hnb (x :: b) z (by rw [hz]; rfl)) this]
end Go.Fb
namespace Go.Fb
open Go.Ev
end Go.Fb
namespace Go.Fb
open Go.Ev
theorem Wds.set {l : List Int} (h : Wds l) {j : Nat} {y : Int} (hy : W32 y) : Wds (l.set j y) := fun z hz => by
  rcases List.mem_or_eq_of_mem_set hz with h1 | rfl
  · exact h z h1
  · exact hy
theorem Wds.getD {l : List Int} (h : Wds l) (j : Nat) : W32 (l.getD j 0) := by
  rcases Nat.lt_or_ge j l.length with hj | hj
  · have : l.getD j 0 = l[j] := by simp [hj]
    rw [this]; exact h _ (List.getElem_mem hj)
  · have : l.getD j 0 = 0 := by simp [hj]
    rw [this]; exact ⟨by decide, by decide⟩
theorem Wds.rep (n : Nat) : Wds (List.replicate n 0) := fun x hx => by
  rw [(List.mem_replicate.1 hx).2]; exact ⟨by decide, by decide⟩
end Go.Fb
namespace Go.Fb
open Go.Ev
end Go.Fb
namespace Go.Fb
open Go.Ev
end Go.Fb
namespace Go.Fb
open Go.Ev
/-- a number of that value, in its one form -/
def NumIs (l : List Int) (v n : Nat) : Prop := Wds l ∧ Nz l ∧ wv l = v ∧ l.length ≤ n
end Go.Fb
namespace Go.Fb
open Go.Ev
end Go.Fb
namespace Go.Fb
open Go.Ev
end Go.Fb
namespace Go.Fb
open Go.Ev
end Go.Fb
namespace Go.Fb
open Go.Ev
end Go.Fb
namespace Go.Fb
open Go.Ev
end Go.Fb
namespace Go.Fb
open Go.Ev
end Go.Fb
namespace Go.Fb
open Go.Ev
end Go.Fb
namespace Go.Fb
open Go.Ev
end Go.Fb
namespace Go.Fb
open Go.Ev
end Go.Fb
namespace Go.Fb
open Go.Ev
end Go.Fb
namespace Go.Fb
open Go.Ev
end Go.Fb
namespace Go.Fb
open Go.Ev
def Tr.Is {α : Type} (t : Tr α) (v : α) : Prop := t.val = v ∧ t.safe = true
theorem Tr.is_leaf {α : Type} {a v : α} (h : a = v) : Tr.Is (.leaf a) v := ⟨h, rfl⟩
theorem Tr.is_ast {α : Type} {b : Bool} {t : Tr α} {v : α} (hb : b = true) (h : Tr.Is t v) : Tr.Is (.ast b t) v := by
  subst hb; exact ⟨h.1, by simpa [Tr.safe] using h.2⟩
theorem Tr.is_br_t {α : Type} {b : Bool} {t e : Tr α} {v : α} (hb : b = true) (h : Tr.Is t v) : Tr.Is (.br b t e) v := by subst hb; exact h
theorem Tr.is_br_f {α : Type} {b : Bool} {t e : Tr α} {v : α} (hb : b = false) (h : Tr.Is e v) : Tr.Is (.br b t e) v := by subst hb; exact h
theorem runL_next {ι ρ : Type} {step : ι → Tr (ι ⊕ ρ)} {n : Nat} {i j : ι} (h : Tr.Is (step i) (.inl j)) : runL step (n + 1) i = runL step n j := by
  unfold runL; rw [h.2, h.1]; cases n <;> rfl
theorem runL_out {ι ρ : Type} {step : ι → Tr (ι ⊕ ρ)} {n : Nat} {i : ι} {r : ρ} (h : Tr.Is (step i) (.inr r)) : runL step (n + 1) i = some r := by
  unfold runL; rw [h.2, h.1]; rfl
theorem dt {p : Prop} [Decidable p] (h : p) : decide p = true := decide_eq_true h
theorem df {p : Prop} [Decidable p] (h : ¬ p) : decide p = false := decide_eq_false h
theorem bt {a b : Int} (h : a = b) : (a == b) = true := by simp [h]
theorem bf {a b : Int} (h : a ≠ b) : (a == b) = false := by simp [h]
theorem nbt {a b : Int} (h : a ≠ b) : (a != b) = true := by simp [h]
theorem nbf {a b : Int} (h : a = b) : (a != b) = false := by simp [h]
end Go.Fb
namespace Go.Fb
open Go.Ev
end Go.Fb
namespace Go.Fb
open Go.Ev
end Go.Fb
namespace Go.Fb
open Go.Ev
end Go.Fb
namespace Go.Fb
open Go.Ev
theorem ndm {T d : Nat} : ((T : Nat) : Int).tdiv (d : Int) = ((T / d : Nat) : Int) ∧ ((T : Nat) : Int).tmod (d : Int) = ((T % d : Nat) : Int) := by
  rw [Int.tdiv_eq_ediv_of_nonneg (Int.natCast_nonneg _), Int.tmod_eq_emod_of_nonneg (Int.natCast_nonneg _)]
  exact ⟨(Int.natCast_ediv _ _).symm, (Int.natCast_emod _ _).symm⟩
end Go.Fb
namespace Go.Fb
open Go.Ev
theorem Nz.nil : Nz [] := by intro c x h; cases c <;> cases h
theorem nz_len {l : List Int} (hn : Nz l) (hw : Wds l) {k : Nat} (h : wv l < 4294967296 ^ k) : l.length ≤ k := by
  rcases snoc_cases l with rfl | ⟨a, x, rfl⟩
  · exact Nat.zero_le _
  · have hx := hn a x rfl
    have hxw := hw x (by simp)
    unfold W32 at hxw
    rw [wv_app] at h
    simp only [wv, Nat.mul_zero, Nat.add_zero] at h
    have h1 : 4294967296 ^ a.length < 4294967296 ^ k := by
      refine Nat.lt_of_le_of_lt ?_ h
      refine Nat.le_trans (Nat.le_mul_of_pos_right _ (by omega : 0 < x.toNat)) (Nat.le_add_left _ _)
    have := (Nat.pow_lt_pow_iff_right (by decide : 1 < 4294967296)).1 h1
    simp; omega
theorem NumIs.len {l : List Int} {v n k : Nat} (h : NumIs l v n) (hk : v < 4294967296 ^ k) : NumIs l v k :=
  ⟨h.1, h.2.1, h.2.2.1, nz_len h.2.1 h.1 (by rw [h.2.2.1]; exact hk)⟩
end Go.Fb
namespace Go.Fb
open Go.Ev
end Go.Fb
