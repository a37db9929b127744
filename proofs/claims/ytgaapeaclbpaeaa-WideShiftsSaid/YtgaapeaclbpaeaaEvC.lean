/- The evaluator's pure steps are sound, part one. Holds for every program of the model. -/
import Derived.Test.YtgaapeaclbpaeaaEvB
import Derived.WideShapes
import Derived.Laws.Concat
namespace Go.Ev
open Go.RowKit

variable {P : Program} {C : Ctx} {E : Env} {w : World}

theorem okc_one {s : SV} {v : Value} (h : s.okc = true) (hr : SV.rel C E w s v) : oneCell v = true := by
  cases s <;> simp only [SV.okc, Bool.false_eq_true] at h
  case bool => cases hr; rfl
  case int => cases hr; rfl
  case ptr => obtain ⟨n, _, rfl⟩ := hr; rfl
  case val => cases hr; exact h
  case vec => obtain ⟨a, cap, rfl, _⟩ := hr; rfl
  case str => cases hr; rfl
  case epv => obtain ⟨b, off, rfl, _⟩ := hr; rfl
  case pvc => obtain ⟨b, off, u, rfl, _⟩ := hr; rfl
  case sl => obtain ⟨n, _, rfl⟩ := hr; rfl
  case clo => obtain ⟨ns, _, rfl⟩ := hr; rfl
  case clv => obtain ⟨ns, rfl, _⟩ := hr; rfl
  case own => obtain ⟨_, a, n, c, rfl⟩ := hr; rfl
  case sub => obtain ⟨a, cap, b, l, c, _, _, rfl, _⟩ := hr; rfl
  case epo => obtain ⟨n, l, c, _, _, rfl⟩ := hr; rfl

theorem cells_rel {x : AV} {v : Value} {l : List SV} (hx : x.cells? = some l) (hok : l.all SV.okc = true) (hr : AV.rel C E w x v) :
    AllR (SV.rel C E w) l v.cells.toList ∧ ∀ u ∈ v.cells.toList, oneCell u = true := by
  have key : ∀ vs : List Value, AllR (SV.rel C E w) l vs → ∀ u ∈ vs, oneCell u = true := by
    intro vs ha u hu
    obtain ⟨i, hi, rfl⟩ := List.mem_iff_getElem.1 hu
    have hl : i < l.length := ha.1 ▸ hi
    exact okc_one (List.all_eq_true.1 hok l[i] (List.getElem_mem _)) (ha.2 i l[i] vs[i] (by simp [hl]) (by simp [hi]))
  match x, hx with
  | .one true l', hx =>
    cases hx
    obtain ⟨vs, rfl, ha⟩ := hr
    exact ⟨ha, key _ ha⟩
  | .one false [s], hx =>
    cases hx
    have hr' : SV.rel C E w s v := hr
    have h1 := okc_one (by simpa using hok) hr'
    have hc : v.cells = #[v] := by cases v <;> simp_all [Value.cells, Value.oneCell']
    rw [hc]
    have ha : AllR (SV.rel C E w) [s] [v] := AllR.cons hr' AllR.nil
    exact ⟨ha, key _ ha⟩

theorem argsS_rel {B w0 s a} (h : Rel C B w0 E s a w) : ∀ {l : List Operand} {vs}, argsS s.ρ l = some vs → AllR (AV.rel C E w) vs (l.map a.eval)
  | [], vs, hv => by cases hv; exact AllR.nil
  | x :: r, vs, hv => by
    simp only [argsS] at hv
    split at hv
    · rename_i v l hx hr
      cases hv
      exact AllR.cons (h.eval hx) (argsS_rel h hr)
    · cases hv

def PartR (C : Ctx) (E : Env) (w : World) (p : Nat × AV) (q : Nat × Value) : Prop := p.1 = q.1 ∧ AV.rel C E w p.2 q.2
theorem partsS_rel {B w0 s a} (h : Rel C B w0 E s a w) : ∀ {l : List (Nat × Operand)} {vs}, partsS s.ρ l = some vs → AllR (PartR C E w) vs (l.map fun (i, x) => (i, a.eval x))
  | [], vs, hv => by cases hv; exact AllR.nil
  | (i, x) :: r, vs, hv => by
    simp only [partsS] at hv
    split at hv
    · rename_i v l hx hr
      cases hv
      exact AllR.cons ⟨rfl, h.eval hx⟩ (partsS_rel h hr)
    · cases hv

theorem foldl_set_list : ∀ (vs : List Value) (off : Nat) (k : Nat) (cells : Array Value), off + k + vs.length ≤ cells.size →
    ((vs.zipIdx k).foldl (fun cs (p : Value × Nat) => cs.setIfInBounds (off + p.2) p.1) cells).toList = cells.toList.take (off + k) ++ vs ++ cells.toList.drop (off + k + vs.length)
  | [], off, k, cells, h => by simp
  | v :: vs, off, k, cells, h => by
    simp only [List.zipIdx_cons, List.foldl_cons]
    rw [foldl_set_list vs off (k + 1) _ (by simp at h ⊢; omega)]
    simp only [Array.toList_setIfInBounds]
    have e := list_seg_step cells.toList (off + k) v vs (by simp at h ⊢; omega)
    simpa [Nat.add_assoc, Nat.add_comm, Nat.add_left_comm] using e

theorem fillS_spec {place : Nat → Option (Nat × Nat)} : ∀ {ps : List (Nat × AV)} {qs : List (Nat × Value)} {l l' : List SV} {cs : Array Value},
    fillS place l ps = some l' → AllR (PartR C E w) ps qs → AllR (SV.rel C E w) l cs.toList → (∀ v ∈ cs.toList, oneCell v = true) →
    ∃ cs', Instr.fill place cs qs = some cs' ∧ AllR (SV.rel C E w) l' cs'.toList ∧ (∀ v ∈ cs'.toList, oneCell v = true)
  | [], qs, l, l', cs, h, hp, hc, h1 => by
    cases h
    have := hp.unnil; subst this
    exact ⟨cs, rfl, hc, h1⟩
  | (i, v) :: ps, qs, l, l', cs, h, hp, hc, h1 => by
    obtain ⟨⟨j, u⟩, qs', rfl, ⟨hij, hu⟩, hp'⟩ := hp.uncons
    simp only at hij hu
    subst hij
    simp only [fillS] at h
    split at h
    · rename_i off size sc hpl hcl
      split at h
      · rename_i hcond
        obtain ⟨hsz, hle, hok⟩ := hcond
        obtain ⟨hur, hu1⟩ := cells_rel hcl hok hu
        have hus : u.cells.size = size := by
          have := hur.1
          simp at this
          omega
        have hcs : cs.size = l.length := by have := hc.1; simp at this; omega
        have hfold : (u.cells.zipIdx.foldl (fun cs (p : Value × Nat) => cs.setIfInBounds (off + p.2) p.1) cs).toList = cs.toList.take off ++ u.cells.toList ++ cs.toList.drop (off + u.cells.toList.length) := by
          have := foldl_set_list u.cells.toList off 0 cs (by simp; omega)
          rw [← Array.foldl_toList]
          simpa [Array.toList_zipIdx] using this
        have hl2 : AllR (SV.rel C E w) (splice l off sc) (u.cells.zipIdx.foldl (fun cs (p : Value × Nat) => cs.setIfInBounds (off + p.2) p.1) cs).toList := by
          rw [hfold]
          have e : u.cells.toList.length = sc.length := by simp [hur.1]
          rw [e]
          exact ((hc.take off).app hur).app (hc.drop _)
        have h12 : ∀ v ∈ (u.cells.zipIdx.foldl (fun cs (p : Value × Nat) => cs.setIfInBounds (off + p.2) p.1) cs).toList, oneCell v = true := by
          rw [hfold]
          intro v hv
          simp only [List.mem_append] at hv
          rcases hv with (hv | hv) | hv
          · exact h1 v (List.mem_of_mem_take hv)
          · exact hu1 v hv
          · exact h1 v (List.mem_of_mem_drop hv)
        obtain ⟨cs', hf, hr'⟩ := fillS_spec h hp' hl2 h12
        refine ⟨cs', ?_, hr'⟩
        simp only [Instr.fill, hpl, hus]
        rw [if_neg (by simp; omega)]
        exact hf
      · cases h
    · cases h

theorem zeroS_spec {t : TypeId} {l} (h : zeroS P t = some l) (hok : l.all SV.okc = true) (w' : World) : ∃ v : Value, (zeroValue t).run P w' = .ok v w' ∧ AllR (SV.rel C E w) l v.cells.toList ∧ ∀ u ∈ v.cells.toList, oneCell u = true := by
  unfold zeroS at h
  split at h
  · rename_i v hv
    simp only [Option.bind_eq_some_iff] at h hv
    obtain ⟨i, hi, hz⟩ := hv
    obtain ⟨x, hx, hc⟩ := h
    refine ⟨v, by simp [zeroValue, typeInfo, hi, hz], ?_⟩
    exact cells_rel hc hok (AV_ofV_rel C E w v hx)
  · cases h

theorem intOp_spec {op : BinOp} {k x y s} (h : intOp op k x y = some s) (hq : op = .quo ∨ op = .rem → y ≠ 0) (w' : World) (hs : op ≠ .shl ∧ op ≠ .shr) (t : TypeId) :
    ∃ v, (binOp op t (.int k x) (.int k y)).run P w' = .ok v w' ∧ SV.rel C E w s v := by
  cases op <;> simp only [intOp, Option.some.injEq, reduceCtorEq] at h <;> (try subst h) <;> (try (exfalso; simp at hs; done)) <;>
    first
      | exact ⟨_, by simp [binOp, Op.intArith]; rfl, rfl⟩
      | exact ⟨_, by simp only [binOp, Op.intDiv]; rw [if_neg (not_not_intro rfl), if_neg (hq (by simp))]; rfl, rfl⟩
      | exact ⟨_, by simp [binOp]; rfl, rfl⟩
      | exact ⟨_, by simp [binOp, Op.intCmp]; rfl, rfl⟩

theorem intOp_noShift {op : BinOp} {k x y s} (h : intOp op k x y = some s) : op ≠ .shl ∧ op ≠ .shr := by
  constructor <;> (rintro rfl; cases h)

theorem eqFieldsS_spec {d : Nat} (ih : ∀ {t x y r u v}, eqS P d t x y = some r → AV.rel C E w x u → AV.rel C E w y v → ∀ e w', (Op.equalIn (d + e) t u v).run P w' = .ok r w')
    {xs ys : List SV} {us vs : Array Value} (hx : AllR (SV.rel C E w) xs us.toList) (hy : AllR (SV.rel C E w) ys vs.toList) (e : Nat) (w' : World) :
    ∀ {fs : List Field} {r}, eqFieldsS P (eqS P d) xs ys fs = some r → (Op.eqFields (d + e) us vs fs).run P w' = .ok r w'
  | [], r, h => by cases h; rfl
  | f :: fs, r, h => by
    simp only [eqFieldsS] at h
    simp only [Op.eqFields]
    split at h
    · rename_i hn
      rw [if_pos hn]
      split at h
      · rename_i a b ha hb
        split at h
        · rename_i r1 r2 h1 h2
          cases h
          obtain ⟨u, hu, hur⟩ := partS_spec (C := C) (E := E) (w := w) ha hx w'
          obtain ⟨v, hv, hvr⟩ := partS_spec (C := C) (E := E) (w := w) hb hy w'
          simp only [Sem.run_bind, hu, hv, Result.andThen_ok, ih h1 hur hvr e w']
          cases r1
          · simp
          · simpa using eqFieldsS_spec ih hx hy e w' h2
        · cases h
      · cases h
    · rename_i hn
      rw [if_neg hn]
      exact eqFieldsS_spec ih hx hy e w' h

theorem eqS_spec : ∀ {d : Nat} {t x y r u v}, eqS P d t x y = some r → AV.rel C E w x u → AV.rel C E w y v → ∀ e w', (Op.equalIn (d + e) t u v).run P w' = .ok r w'
  | 0, t, x, y, r, u, v, h, _, _, _, _ => by cases h
  | d + 1, t, x, y, r, u, v, h, hu, hv, e, w' => by
    have hd : d + 1 + e = (d + e) + 1 := by omega
    rw [hd]
    simp only [eqS] at h
    split at h
    · rename_i ht
      cases hu; cases hv; cases h
      exact run_equalIn_bool' w' _ _ _ _ ht
    · rename_i ht
      cases hu; cases hv
      split at h
      · rename_i hk; subst hk; cases h; exact run_equalIn_int w' _ _ _ _ _ _ ht
      · cases h
    · rename_i fs _ _ ht
      split at h
      · cases h
      · rename_i hst
        obtain ⟨us, rfl, hus⟩ := hu
        obtain ⟨vs, rfl, hvs⟩ := hv
        have hf : P.fieldsOf t = fs := by simp [Program.fieldsOf, ht]
        rw [run_equalIn_struct w' _ _ _ _ (by rw [hf]; exact ht) (by simpa using hst), hf]
        exact eqFieldsS_spec (fun h1 h2 h3 => eqS_spec h1 h2 h3) hus hvs e w' h
    · cases h

theorem bytes?_rel {s : SV} {l : List UInt8} {v : Value} (h : s.bytes? = some l) (hv : SV.rel C E w s v) : v = .string ⟨l.toArray⟩ := by
  unfold SV.bytes? at h
  split at h
  · cases h; exact hv
  · cases h; exact hv
  · cases h
theorem mkBytes_toList (l : List UInt8) : (ByteArray.mk l.toArray).toList = l := by exact Go.ByteArray.toList_mk l
theorem strS_spec {op : BinOp} {t : TypeId} {a b : SV} {z : AV} {u v : Value} {ox oy : Operand} (h : strS op a b = some z) (hu : SV.rel C E w a u) (hv : SV.rel C E w b v) (hr : op = .add → strRoom a b = true) (w' : World) :
    ∃ r, (do eqGuard op t ox oy u v; binOp op t u v : Sem Value).run P w' = .ok r w' ∧ AV.rel C E w z r := by
  unfold strS at h
  split at h
  · rename_i x y hx hy
    have hu' := bytes?_rel hx hu
    have hv' := bytes?_rel hy hv
    subst hu' hv'
    simp only [Option.map_eq_some_iff] at h
    obtain ⟨s, hs, rfl⟩ := h
    unfold strOp at hs
    split at hs
    · cases hs
      have hroom : x.length + y.length ≤ 9223372036854775807 := by
        have := hr rfl
        simpa [strRoom, hx, hy] using this
      refine ⟨.string ⟨(x ++ y).toArray⟩, ?_, rfl⟩
      have hsz : ¬ (((ByteArray.mk x.toArray).size + (ByteArray.mk y.toArray).size : Nat) : Int) > IntKind.i64.max := by
        have e : IntKind.i64.max = 9223372036854775807 := by decide
        rw [e]
        simp only [ByteArray.size, List.size_toArray]
        omega
      simp only [Sem.run_bind, eqGuard_at_string, Sem.run_pure, Result.andThen_ok, binOp, Op.stringOp]
      rw [if_neg hsz]
      have e : (ByteArray.mk x.toArray) ++ (ByteArray.mk y.toArray) = ByteArray.mk (x ++ y).toArray := by
        apply Go.WideShapes.bytes_inj
        simp
      rw [e]
      rfl
    · cases hs
      exact ⟨.bool (x == y), by simp [eqGuard_at_string, binOp, Op.stringOp], rfl⟩
    · cases hs
      exact ⟨.bool (!(x == y)), by simp [eqGuard_at_string, binOp, Op.stringOp], rfl⟩
    · cases hs
  · cases h
theorem binS_spec {op : BinOp} {t : TypeId} {x y z : AV} {u v : Value} {ox oy : Operand} (h : binS P op t x y = some z) (hu : AV.rel C E w x u) (hv : AV.rel C E w y v)
    (hq : op = .quo ∨ op = .rem → ∀ k b, y = .one false [.int k b] → b ≠ 0) (hsh : op = .shl ∨ op = .shr → ∀ k b, y = .one false [.int k b] → 0 ≤ b)
    (hst : op = .add → ∀ a b, x = .one false [a] → y = .one false [b] → (∃ l, a = .str l) ∨ (∃ v, a = .val v) → strRoom a b = true) (w' : World) :
    ∃ r, (do eqGuard op t ox oy u v; binOp op t u v : Sem Value).run P w' = .ok r w' ∧ AV.rel C E w z r := by
  unfold binS at h
  split at h
  · cases hu; cases hv; cases h
    rename_i k a k' b
    have hb := hsh (.inl rfl) k' b rfl
    refine ⟨.int k (shlI k a b), ?_, rfl⟩
    simp [eqGuard, binOp, Op.shift, shlI, Int.not_lt.2 hb]
  · cases hu; cases hv; cases h
    rename_i k a k' b
    have hb := hsh (.inr rfl) k' b rfl
    refine ⟨.int k (shrI k a b), ?_, rfl⟩
    simp [eqGuard, binOp, Op.shift, shrI, Int.not_lt.2 hb]
  · cases hu; cases hv
    rename_i k a k' b _ _
    split at h
    · rename_i hk; subst hk
      simp only [Option.map_eq_some_iff] at h
      obtain ⟨s, hs, rfl⟩ := h
      obtain ⟨r, hr, hrr⟩ := intOp_spec (P := P) (C := C) (E := E) (w := w) hs (fun e => hq e k b rfl) w' (intOp_noShift hs) t
      refine ⟨r, ?_, hrr⟩
      simp only [Sem.run_bind, eqGuard_at_int, Sem.run_pure, Result.andThen_ok]
      exact hr
    · cases h
  · cases hu; cases hv
    split at h
    · rename_i ht
      cases h
      refine ⟨.bool _, ?_, rfl⟩
      simp only [Sem.run_bind, eqGuard_at_bool, Sem.run_pure, Result.andThen_ok, binOp, Op.equal]
      rw [show Op.maxDepth = 9999 + 1 from rfl, run_equalIn_bool' w' _ _ _ _ ht]
      rfl
    · cases h
  · cases hu; cases hv
    split at h
    · rename_i ht
      cases h
      refine ⟨.bool _, ?_, rfl⟩
      simp only [Sem.run_bind, eqGuard_at_bool, Sem.run_pure, Result.andThen_ok, binOp, Op.equal]
      rw [show Op.maxDepth = 9999 + 1 from rfl, run_equalIn_bool' w' _ _ _ _ ht]
      rfl
    · cases h
  · split at h
    · cases h
    · rename_i hg
      simp only [Option.map_eq_some_iff] at h
      obtain ⟨b, hb, rfl⟩ := h
      have he := eqS_spec (w := w) hb hu hv 9994 w'
      obtain ⟨us, rfl, hus⟩ := hu
      obtain ⟨vs, rfl, hvs⟩ := hv
      refine ⟨.bool b, ?_, rfl⟩
      have hg' : P.eqGuardType P.depth t = false := by simpa using hg
      simp [eqGuard, hg', binOp, Op.equal, Op.maxDepth] at he ⊢
      rw [he]; rfl
  · split at h
    · cases h
    · rename_i hg
      simp only [Option.map_eq_some_iff] at h
      obtain ⟨b, hb, rfl⟩ := h
      have he := eqS_spec (w := w) hb hu hv 9994 w'
      obtain ⟨us, rfl, hus⟩ := hu
      obtain ⟨vs, rfl, hvs⟩ := hv
      refine ⟨.bool (!b), ?_, rfl⟩
      have hg' : P.eqGuardType P.depth t = false := by simpa using hg
      simp [eqGuard, hg', binOp, Op.equal, Op.maxDepth] at he ⊢
      rw [he]; rfl
  · exact strS_spec h hu hv (fun e => hst e _ _ rfl rfl (.inl ⟨_, rfl⟩)) w'
  · exact strS_spec h hu hv (fun e => hst e _ _ rfl rfl (.inr ⟨_, rfl⟩)) w'
  · cases h

theorem unS_spec {op : UnOp} {x z : AV} {u : Value} (h : unS op x = some z) (hu : AV.rel C E w x u) (w' : World) :
    ∃ r, (Op.unary op u).run P w' = .ok r w' ∧ AV.rel C E w z r := by
  unfold unS at h
  split at h
  · cases hu; cases h; exact ⟨_, rfl, rfl⟩
  · cases hu; cases h; exact ⟨_, rfl, rfl⟩
  · cases hu; cases h; exact ⟨_, rfl, rfl⟩
  · cases h

theorem convS_spec {s d : TypeId} {x z : AV} {u : Value} (h : convS P s d x = some z) (hu : AV.rel C E w x u) (w' : World) :
    ∃ r, (convert s d u).run P w' = .ok r w' ∧ AV.rel C E w z r := by
  unfold convS at h
  split at h
  · rename_i ds k _ n hs hd
    cases hu; cases h
    refine ⟨.int k (k.wrap n), ?_, rfl⟩
    simp only [convert, Sem.run_bind, run_underlying hs, run_underlying hd, Result.andThen_ok]
    cases ds <;> simp [Conv.intToInt]
  · cases h
end Go.Ev
