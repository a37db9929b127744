/- Layer 2: the laws hold, in plain Lean. Conditions: as each theorem states. -/
import Derived.Test.YtdkbeajkedffeaaNl
import Derived.Test.YtdkbeajkedffeaaNp
namespace Go.Fb
open Go.Ev
theorem t1 : n_Text [1000] = [49,48,48,48] ∧ n_Text_s [1000] = true := by decide +kernel
end Go.Fb
namespace Go.Fb
open Go.Ev
theorem nlen0 {a : List Int} (hw : Wds a) (hn : a.length ≤ 1000000) : (n_Len a == 0) = decide (wv a = 0) ∧ n_Len_s a = true := by
  obtain ⟨h1, l, h2, h3⟩ := nlen_spec hw hn
  refine ⟨?_, h1⟩
  rw [h2]
  have := lenIs_nought h3
  by_cases h : wv a = 0
  · rw [decide_eq_true h, bt (by rw [this.2 h]; rfl)]
  · rw [decide_eq_false h, bf (by omega)]
theorem wv_lt2 {a : List Int} (ha : Wds a) {n : Nat} (h : a.length ≤ n) : wv a < 2 ^ (32 * n) := by
  rw [Nat.pow_mul]
  exact Nat.lt_of_lt_of_le (wv_lt ha) (Nat.pow_le_pow_right (by decide) h)
end Go.Fb
namespace Go.Fb
open Go.Ev
end Go.Fb
namespace Go.Fb
open Go.Ev
end Go.Fb
namespace Go.Fb
open Go.Ev
end Go.Fb
namespace Go.Fb
open Go.Ev
def lv : List Nat → Nat
  | [] => 0
  | d :: l => d + 10 * lv l
def Dg (l : List Nat) : Prop := ∀ d ∈ l, d < 10
def Nzd (l : List Nat) : Prop := ∀ a x, l = a ++ [x] → x ≠ 0
def chU (d : Nat) : UInt8 := UInt8.ofNat (48 + d)
theorem lv_inj : ∀ {a b : List Nat}, Dg a → Dg b → Nzd a → Nzd b → lv a = lv b → a = b := by
  have key : ∀ {a : List Nat}, Nzd a → lv a = 0 → a = [] := by
    intro a
    induction a with
    | nil => intros; rfl
    | cons x l ih =>
      intro hn h
      simp only [lv] at h
      have hl := ih (fun b y hy => hn (x :: b) y (by rw [hy]; rfl)) (by omega)
      subst hl
      have := hn [] x rfl
      omega
  intro a
  induction a with
  | nil => intro b _ _ _ hnb h; exact (key hnb h.symm).symm
  | cons x l ih =>
    intro b ha hb hna hnb h
    cases b with
    | nil => exact key hna h
    | cons y m =>
      simp only [lv] at h
      have hx := ha x (by simp)
      have hy := hb y (by simp)
      have e : x = y := by omega
      subst e
      have : lv l = lv m := by omega
      rw [ih (fun d hd => ha d (by simp [hd])) (fun d hd => hb d (by simp [hd])) (fun b z hz => hna (x :: b) z (by rw [hz]; rfl)) (fun b z hz => hnb (x :: b) z (by rw [hz]; rfl)) this]
def TextIs (s : List UInt8) (v : Nat) : Prop := ∃ l : List Nat, Dg l ∧ Nzd l ∧ lv l = v ∧ s = if l.isEmpty then [48] else (l.map chU).reverse
theorem TextIs.unique {s t : List UInt8} {v : Nat} (h : TextIs s v) (k : TextIs t v) : s = t := by
  obtain ⟨l, h1, h2, h3, rfl⟩ := h
  obtain ⟨m, k1, k2, k3, rfl⟩ := k
  rw [lv_inj h1 k1 h2 k2 (by omega)]
end Go.Fb
namespace Go.Fb
open Go.Ev
end Go.Fb
