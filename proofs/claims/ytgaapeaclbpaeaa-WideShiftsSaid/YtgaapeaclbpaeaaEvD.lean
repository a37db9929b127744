/- The evaluator's pure steps are sound, part two. Holds for every program of the model. -/
import Derived.Test.YtgaapeaclbpaeaaEvC
namespace Go.Ev
open Go.RowKit

variable {P : Program} {C : Ctx} {B : Nat} {w0 : World} {E : Env} {s : St} {a : Act} {w : World}

theorem placesS_spec : ∀ {fs : List Field} {l} (w' : World), placesS P fs = some l → (fs.mapM fun f => do pure (f.offset, ← sizeOf f.type) : Sem (List (Nat × Nat))).run P w' = .ok l w'
  | [], l, w', h => by cases h; rfl
  | f :: r, l, w', h => by
    simp only [placesS] at h
    split at h
    · rename_i n l' hn hl
      cases h
      have ih := placesS_spec w' hl
      simp only [List.mapM_cons, Sem.run_bind, szT_spec hn, Result.andThen_ok, Sem.run_pure, ih]
    · cases h

theorem mapM_arr {fs : Array Field} {l} (w' : World) (h : placesS P fs.toList = some l) : (fs.mapM fun f => do pure (f.offset, ← sizeOf f.type) : Sem (Array (Nat × Nat))).run P w' = .ok l.toArray w' := by
  rw [Array.mapM_eq_mapM_toList]
  simp only [Sem.run_map, placesS_spec w' h, Result.andThen_ok]

theorem fillS_okc {place : Nat → Option (Nat × Nat)} : ∀ {ps : List (Nat × AV)} {l l' : List SV}, fillS place l ps = some l' → l.all SV.okc = true → l'.all SV.okc = true
  | [], l, l', h, ho => by cases h; exact ho
  | (i, v) :: ps, l, l', h, ho => by
    simp only [fillS] at h
    split at h
    · split at h
      · rename_i hc
        refine fillS_okc h ?_
        simp only [splice, List.all_append, Bool.and_eq_true]
        refine ⟨⟨?_, hc.2.2⟩, ?_⟩
        · exact List.all_eq_true.2 fun x hx => List.all_eq_true.1 ho x (List.mem_of_mem_take hx)
        · exact List.all_eq_true.2 fun x hx => List.all_eq_true.1 ho x (List.mem_of_mem_drop hx)
      · cases h
    · cases h

theorem buildS_spec {t : TypeId} {ps : List (Nat × AV)} {qs : Array (Nat × Value)} {x} (h : buildS P t ps = some x) (hp : AllR (PartR C E w) ps qs.toList) (w' : World) (hz : ∀ l, zeroS P t = some l → l.all SV.okc = true) :
    ∃ v, (Instr.build t qs).run P w' = .ok v w' ∧ AV.rel C E w x v := by
  unfold buildS at h
  split at h
  · rename_i z fs hz0 ht
    split at h
    · rename_i pl hpl
      simp only [Option.map_eq_some_iff] at h
      obtain ⟨l, hl, rfl⟩ := h
      obtain ⟨zv, hzv, hzr, hz1⟩ := zeroS_spec (C := C) (E := E) (w := w) hz0 (hz _ hz0) w'
      obtain ⟨cs, hcs, hcr, _⟩ := fillS_spec hl hp hzr hz1
      refine ⟨.agg cs, ?_, ⟨cs, rfl, hcr⟩⟩
      simp only [Instr.build, Sem.run_bind, hzv, Result.andThen_ok, run_underlying ht, mapM_arr w' hpl]
      have e : (fun i : Nat => (pl.toArray)[i]?) = fun i : Nat => pl[i]? := by funext i; simp
      simp only [e, hcs]
      rfl
    · cases h
  · rename_i z n e hz0 ht
    split at h
    · rename_i sz hsz
      simp only [Option.map_eq_some_iff] at h
      obtain ⟨l, hl, rfl⟩ := h
      obtain ⟨zv, hzv, hzr, hz1⟩ := zeroS_spec (C := C) (E := E) (w := w) hz0 (hz _ hz0) w'
      obtain ⟨cs, hcs, hcr, _⟩ := fillS_spec hl hp hzr hz1
      refine ⟨.agg cs, ?_, ⟨cs, rfl, hcr⟩⟩
      simp only [Instr.build, Sem.run_bind, hzv, Result.andThen_ok, run_underlying ht, szT_spec hsz, hcs]
      rfl
    · cases h
  · cases h

theorem foldS_spec {f : AV → AV → Option AV} {g : Value → Value → Sem Value} (hf : ∀ x y z u v, f x y = some z → AV.rel C E w x u → AV.rel C E w y v → ∃ r, (g u v).run P w = .ok r w ∧ AV.rel C E w z r) :
    ∀ {l : List AV} {us : List Value} {x z : AV} {u : Value}, foldS f x l = some z → AllR (AV.rel C E w) l us → AV.rel C E w x u → ∃ r, (us.foldlM g u).run P w = .ok r w ∧ AV.rel C E w z r
  | [], us, x, z, u, h, hl, hu => by
    cases h
    have := hl.unnil; subst this
    exact ⟨u, rfl, hu⟩
  | y :: l, us, x, z, u, h, hl, hu => by
    obtain ⟨v, us', rfl, hv, hl'⟩ := hl.uncons
    simp only [foldS] at h
    split at h
    · rename_i b hb
      obtain ⟨r, hr, hrr⟩ := hf _ _ _ _ _ hb hu hv
      obtain ⟨r', hr', hrr'⟩ := foldS_spec hf h hl' hrr
      exact ⟨r', by simp [List.foldlM_cons, hr, hr'], hrr'⟩
    · cases h

theorem maxS_spec {x y z : AV} {u v : Value} (h : maxS x y = some z) (hu : AV.rel C E w x u) (hv : AV.rel C E w y v) : ∃ r, (Builtin.max2 u v).run P w = .ok r w ∧ AV.rel C E w z r := by
  unfold maxS at h
  split at h
  · cases hu; cases hv; cases h; exact ⟨_, rfl, rfl⟩
  · cases h
theorem minS_spec {x y z : AV} {u v : Value} (h : minS x y = some z) (hu : AV.rel C E w x u) (hv : AV.rel C E w y v) : ∃ r, (Builtin.min2 u v).run P w = .ok r w ∧ AV.rel C E w z r := by
  unfold minS at h
  split at h
  · cases hu; cases hv; cases h; exact ⟨_, rfl, rfl⟩
  · cases h

theorem fieldT_spec {t f} {fd : Field} (h : fieldT P t f = some fd) : ∃ fs, P.underlying t = some (.struct fs) ∧ fs[f]? = some fd := by
  unfold fieldT at h
  split at h
  · rename_i fs hu; exact ⟨fs, hu, h⟩
  · cases h

/-- the zero values that are laid are plain -/
def ZeroOK (P : Program) : Prop := ∀ t l, zeroS P t = some l → l.all SV.okc = true

theorem zeroOK : ZeroOK P := by
  intro t l h
  unfold zeroS at h
  split at h
  · rename_i v hv
    simp only [Option.bind_eq_some_iff] at h
    obtain ⟨x, hx, hc⟩ := h
    cases v <;> simp only [AV.ofV, Option.some.injEq, reduceCtorEq] at hx
    case agg cs =>
      split at hx
      · rename_i hall
        cases hx
        cases hc
        rw [List.all_map]
        refine List.all_eq_true.2 fun y hy => ?_
        have := List.all_eq_true.1 hall y hy
        cases y <;> simp_all [SV.ofV, SV.okc, Value.oneCell']
      · cases hx
    all_goals (subst hx; cases hc; simp [SV.ofV, SV.okc, Value.oneCell'])
  · cases h

theorem caps_rel {l : List AV} {us : List Value} {ks : List Nat} (hm : l.mapM (fun | AV.one false [.ptr k 0] => some k | _ => none) = some ks) (hl : AllR (AV.rel C E w) l us) :
    ∃ ns : List Nat, ks.map E.β = ns.map some ∧ us = ns.map fun n => Value.pointer (some ⟨n, 0, none⟩) := by
  induction l generalizing us ks with
  | nil =>
    have := hl.unnil; subst this
    simp at hm; subst hm
    exact ⟨[], rfl, rfl⟩
  | cons x l ih =>
    obtain ⟨u, us', rfl, hu, hl'⟩ := hl.uncons
    simp only [List.mapM_cons, Option.bind_eq_bind, Option.bind_eq_some_iff, Option.pure_def, Option.some.injEq] at hm
    obtain ⟨k, hk, ks', hks, rfl⟩ := hm
    obtain ⟨ns, hns, rfl⟩ := ih hks hl'
    split at hk
    · cases hk
      obtain ⟨n, hn, rfl⟩ := hu
      exact ⟨n :: ns, by simp [hn, hns], by simp⟩
    · cases hk

theorem effP_sound (h : Rel C B w0 E s a w) {o : Oper} {v : AV} (he : effP P o s.ρ = some v) {rd : Nat → Option Blk} (ha : asr P C o s.ρ rd = true) :
    ∃ u, (execOp a.eval o).run P w = .ok (.value u) w ∧ AV.rel C E w v u := by
  obtain ⟨dst, op, type, pos, after, guard⟩ := o
  unfold effP at he
  simp only at he
  split at he
  · exact ⟨_, rfl, h.eval he⟩
  · exact ⟨_, rfl, h.eval he⟩
  · -- pick
    rename_i c x y
    split at he
    · rename_i t hc
      have hc' : a.eval c = .bool t := h.eval hc
      refine ⟨if t then a.eval x else a.eval y, by simp [execOp, asBool, hc'], ?_⟩
      cases t
      · exact h.eval he
      · exact h.eval he
    · cases he
  · -- nilCheck
    rename_i x
    split at he
    · rename_i k f hx
      cases he
      obtain ⟨n, hn, hx'⟩ := h.eval hx
      exact ⟨_, by simp [execOp, hx'], ⟨n, hn, rfl⟩⟩
    · rename_i fr xs i o hx
      cases he
      obtain ⟨b, off, hx', hb, hl, hr⟩ := h.eval hx
      exact ⟨_, by simp [execOp, hx'], ⟨b, off, rfl, hb, hl, hr⟩⟩
    · rename_i k wd i o hx
      cases he
      obtain ⟨n, l, c, h1, h2, hx'⟩ := h.eval hx
      exact ⟨_, by simp [execOp, hx'], ⟨n, l, c, h1, h2, rfl⟩⟩
    · cases he
  · -- binOp
    rename_i op t x y _
    split at he
    · rename_i p q hx hy
      obtain ⟨r, hr, hrr⟩ := binS_spec (P := P) (ox := x) (oy := y) he (h.eval hx) (h.eval hy)
        (fun hop k b hb => by rcases hop with rfl | rfl <;> (subst hb; simpa [asr, hy] using ha))
        (fun hop k b hb => by rcases hop with rfl | rfl <;> (subst hb; simpa [asr, hy] using ha))
        (fun hop a b hxa hyb hs => by subst hop hxa hyb; rcases hs with ⟨l, rfl⟩ | ⟨l, rfl⟩ <;> simpa [asr, hx, hy] using ha) w
      refine ⟨r, ?_, hrr⟩
      simp only [execOp]
      rw [Sem.run_bind, hr]; rfl
    · cases he
  · -- unOp
    rename_i op t x
    simp only [Option.bind_eq_some_iff] at he
    obtain ⟨p, hx, he⟩ := he
    obtain ⟨r, hr, hrr⟩ := unS_spec (P := P) he (h.eval hx) w
    exact ⟨r, by simp [execOp, hr], hrr⟩
  · -- convert
    rename_i sr d x
    simp only [Option.bind_eq_some_iff] at he
    obtain ⟨p, hx, he⟩ := he
    obtain ⟨r, hr, hrr⟩ := convS_spec (P := P) he (h.eval hx) w
    exact ⟨r, by simp [execOp, hr], hrr⟩
  · -- build
    rename_i t parts
    simp only [Option.bind_eq_some_iff] at he
    obtain ⟨ps, hps, he⟩ := he
    obtain ⟨r, hr, hrr⟩ := buildS_spec (P := P) (qs := parts.map fun (i, x) => (i, a.eval x)) he (by simpa using partsS_rel h hps) w (zeroOK t)
    exact ⟨r, by simp [execOp, hr], hrr⟩
  · -- fieldAddr
    rename_i t x f
    split at he
    · rename_i k off fd hx hf
      split at he
      · rename_i n hsz
        cases he
        obtain ⟨m, hm, hx'⟩ := h.eval hx
        obtain ⟨fs, hu, hfs⟩ := fieldT_spec hf
        refine ⟨.pointer (some ⟨m, off + fd.offset, none⟩), ?_, ⟨m, hm, rfl⟩⟩
        simp [execOp, Instr.fieldAt, run_underlying hu, hfs, Instr.sureAddr, hx', fieldPlace, szT_spec hsz, Addr.add_lit]
      · cases he
    · rename_i fr xs i off fd hx hf
      split at he
      · rename_i n hsz
        cases he
        obtain ⟨b, ob, hx', hb, hl, hr⟩ := h.eval hx
        obtain ⟨fs, hu, hfs⟩ := fieldT_spec hf
        refine ⟨.pointer (some ⟨b, ob + (off + fd.offset), none⟩), ?_, ⟨b, ob, rfl, hb, hl, hr⟩⟩
        simp [execOp, Instr.fieldAt, run_underlying hu, hfs, Instr.sureAddr, hx', fieldPlace, szT_spec hsz, Addr.add_lit, Nat.add_assoc]
      · cases he
    · rename_i k wd i off fd hx hf
      split at he
      · rename_i n hsz
        cases he
        obtain ⟨m, l, c, h1, h2, hx'⟩ := h.eval hx
        obtain ⟨fs, hu, hfs⟩ := fieldT_spec hf
        refine ⟨.pointer (some ⟨m, i * wd + (off + fd.offset), none⟩), ?_, ⟨m, l, c, h1, h2, rfl⟩⟩
        simp [execOp, Instr.fieldAt, run_underlying hu, hfs, Instr.sureAddr, hx', fieldPlace, szT_spec hsz, Addr.add_lit, Nat.add_assoc]
      · cases he
    · cases he
  · -- field
    rename_i t x f
    split at he
    · rename_i l fd hx hf
      obtain ⟨vs, hx', hvs⟩ := h.eval hx
      obtain ⟨fs, hu, hfs⟩ := fieldT_spec hf
      obtain ⟨r, hr, hrr⟩ := partS_spec he hvs w
      refine ⟨r, ?_, hrr⟩
      simp [execOp, Instr.field, run_underlying hu, hfs, hx', asAgg, hr]
    · cases he
  · -- extract
    rename_i x i
    split at he
    · rename_i l hx
      split at he
      · rename_i g c hl
        cases he
        obtain ⟨vs, hx', hvs⟩ := h.eval hx
        obtain ⟨u, hu, hur⟩ := hvs.get hl
        have hu' : vs[i]? = some u := by simpa using hu
        exact ⟨u, by simp [execOp, Instr.extract, hx', hu'], hur⟩
      · cases he
    · cases he
  · -- makeFunc
    rename_i f first captured
    split at he
    · rename_i hf0
      split at he
      · rename_i l hl
        split at he
        · rename_i ks hks
          cases he
          obtain ⟨ns, hns, hus⟩ := caps_rel hks (argsS_rel h hl)
          refine ⟨_, by simp [execOp, Instr.makeFunc]; rfl, ⟨ns, hns, ?_⟩⟩
          have h1 : first = #[] := Array.eq_empty_of_size_eq_zero hf0
          have h2 : captured.map a.eval = (ns.map fun n => Value.pointer (some ⟨n, 0, none⟩)).toArray := by
            apply Array.ext'
            simpa using hus
          rw [h1, h2]; simp
        · cases he
      · cases he
    · cases he
  · -- index
    rename_i t x i
    split at he
    · rename_i len e l k n hu hx hi
      split at he
      · rename_i sz hsz
        obtain ⟨vs, hx', hvs⟩ := h.eval hx
        have hi' : a.eval i = .int k n := h.eval hi
        obtain ⟨r, hr, hrr⟩ := partS_spec he hvs w
        have hb : 0 ≤ n ∧ n < len := by simpa [asr, hu, hx, hi] using ha
        refine ⟨r, ?_, hrr⟩
        simp [execOp, Instr.index, run_underlying hu, hx', hi', asIntOf, hb, szT_spec hsz, hr]
      · cases he
    · rename_i s k n hu hx hi
      cases he
      have hx' : a.eval x = .string s := h.eval hx
      have hi' : a.eval i = .int k n := h.eval hi
      have hb : 0 ≤ n ∧ n < (s.size : Int) := by simpa [asr, hu, hx, hi] using ha
      have hlt : n.toNat < s.size := by omega
      refine ⟨.int .u8 (strAt s n), ?_, rfl⟩
      have hg : s[n.toNat]? = some (s[n.toNat]'hlt) := getElem?_pos s n.toNat hlt
      have hs : strAt s n = ((s[n.toNat]'hlt).toNat : Int) := by
        unfold strAt
        have : n.toNat < s.data.size := hlt
        rw [show s.data.getD n.toNat 0 = s.data[n.toNat] from by simp only [Array.getD]; rw [dif_pos this]; rfl]
        rfl
      simp [execOp, Instr.index, run_underlying hu, hx', hi', asIntOf, hb.1, hg, hs]
    · rename_i l k n hu hx hi
      cases he
      have hx' : a.eval x = .string ⟨l.toArray⟩ := h.eval hx
      have hi' : a.eval i = .int k n := h.eval hi
      have hb : 0 ≤ n ∧ n < (l.length : Int) := by simpa [asr, hu, hx, hi] using ha
      have hlt : n.toNat < l.length := by omega
      have hlt' : n.toNat < (ByteArray.mk l.toArray).size := by simpa [ByteArray.size] using hlt
      refine ⟨.int .u8 ((l.getD n.toNat 0).toNat : Int), ?_, rfl⟩
      have hg : (ByteArray.mk l.toArray)[n.toNat]? = some ((ByteArray.mk l.toArray)[n.toNat]'hlt') := getElem?_pos _ n.toNat hlt'
      have hs : (l.getD n.toNat 0) = (ByteArray.mk l.toArray)[n.toNat]'hlt' := by
        rw [List.getD_eq_getElem?_getD, List.getElem?_eq_getElem hlt]
        rfl
      simp only [execOp, Instr.index, run_underlying hu, hx', hi', asIntOf, hb.1, hg, hs, Sem.run_bind, Sem.run_pure, Result.andThen_ok]
      simp
    · cases he
  · -- max
    rename_i args ts
    split at he
    · rename_i x r hl
      obtain ⟨u, us, hus, hu, hr⟩ := (argsS_rel h hl).uncons
      obtain ⟨z, hz, hzr⟩ := foldS_spec (P := P) (fun _ _ _ _ _ => maxS_spec) he hr hu
      refine ⟨z, ?_, hzr⟩
      have e : (args.map a.eval).toList = u :: us := by simpa using hus
      simp [execOp, resolve, invoke, builtin, Builtin.max_]
      rw [← Array.toList_map, e]
      simp [hz]
    · cases he
  · -- min
    rename_i args ts
    split at he
    · rename_i x r hl
      obtain ⟨u, us, hus, hu, hr⟩ := (argsS_rel h hl).uncons
      obtain ⟨z, hz, hzr⟩ := foldS_spec (P := P) (fun _ _ _ _ _ => minS_spec) he hr hu
      refine ⟨z, ?_, hzr⟩
      have e : (args.map a.eval).toList = u :: us := by simpa using hus
      simp [execOp, resolve, invoke, builtin, Builtin.min_]
      rw [← Array.toList_map, e]
      simp [hz]
    · cases he
  · cases he
end Go.Ev
