/- A symbolic evaluator for the translated Go code: its values and steps, and what they stand for. Holds for every program of the model. -/
import Derived.WalkKit
import Derived.ProofKit
import Derived.WalkLawsBesides
import Derived.WideShapes
import Derived.Laws.Concat
import Derived.Laws.CopyOwn
import Derived.Laws.OwnMore
/- The symbolic evaluator: abstract values, states, and what one operation does. -/
namespace Go.Ev
open Go.RowKit
inductive Ct where
  | int (k : IntKind)
  | bool
  | ints (k : IntKind)
  deriving DecidableEq
inductive Cv where
  | i (n : Int)
  | b (x : Bool)
  | l (xs : List Int)
def Cv.int : Cv → Int
  | .i n => n
  | _ => 0
def Cv.bool : Cv → Bool
  | .b x => x
  | _ => false
def Cv.ints : Cv → List Int
  | .l xs => xs
  | _ => []
inductive VL where
  | int (k : IntKind) (l : List Int)
  | bool (l : List Bool)
  | lit (wd : Nat) (l : List (List Value))
  | row (ks : List Ct) (l : List (List Cv))
inductive SV where
  | bool (b : Bool)
  | int (k : IntKind) (n : Int)
  | ptr (key off : Nat)
  | val (v : Value)
  | vec (fr : Bool) (xs : VL)
  | epv (fr : Bool) (xs : VL) (i o : Nat)
  | str (l : List UInt8)
  | emp
  | pvc (xs : VL)
  | sl (key off len cap : Nat)
  | fnv (id : Nat)
  | clo (f : FuncId) (caps : List Nat)
  | clv (f : FuncId) (xss : List VL)
  | own (key : Nat)
  | sub (key wd lo len : Nat)
  | epo (key wd i o : Nat)
  | top
  | und
inductive AV where
  | one (g : Bool) (cells : List SV)
  | tup (l : List (Bool × List SV))
inductive Blk where
  | cells (elem : TypeId) (l : List SV)
  | grow (elem : TypeId) (xs : VL)
structure St where
  slots : List AV
  heap : List (Option (Option Blk))
def VL.len : VL → Nat
  | .int _ l => l.length
  | .bool l => l.length
  | .lit _ l => l.length
  | .row _ l => l.length
def VL.wd : VL → Nat
  | .int _ _ => 1
  | .bool _ => 1
  | .lit wd _ => wd
  | .row ks _ => ks.length
def rowCells (fr : Bool) : List Ct → List Cv → List SV
  | [], _ => []
  | .bool :: ks, l => .bool (l.headD (.i 0)).bool :: rowCells fr ks l.tail
  | .int k :: ks, l => .int k (l.headD (.i 0)).int :: rowCells fr ks l.tail
  | .ints k :: ks, l => .vec fr (.int k (l.headD (.i 0)).ints) :: rowCells fr ks l.tail
def litCells : Nat → List Value → List SV
  | 0, _ => []
  | n + 1, [] => .bool false :: litCells n []
  | n + 1, .bool b :: r => .bool b :: litCells n r
  | n + 1, .int k x :: r => .int k x :: litCells n r
  | n + 1, _ :: r => .bool false :: litCells n r
def VL.at (fr : Bool) : VL → Nat → List SV
  | .int k l, i => [.int k (l.getD i 0)]
  | .bool l, i => [.bool (l.getD i false)]
  | .lit wd l, i => litCells wd (l.getD i [])
  | .row ks l, i => rowCells fr ks (l.getD i [])
def VL.flat : VL → Bool
  | .row _ _ => false
  | _ => true
def VL.cut : VL → Nat → Nat → VL
  | .int k l, lo, n => .int k ((l.drop lo).take n)
  | .bool l, lo, n => .bool ((l.drop lo).take n)
  | .lit wd l, lo, n => .lit wd ((l.drop lo).take n)
  | .row ks l, lo, n => .row ks ((l.drop lo).take n)
def SV.exact : SV → Value
  | .bool b => .bool b
  | .int k n => .int k n
  | .val v => v
  | _ => undef
theorem rowCells_length (fr : Bool) (ks : List Ct) : ∀ l, (rowCells fr ks l).length = ks.length := by
  induction ks with
  | nil => intro l; rfl
  | cons k ks ih => intro l; cases k <;> simp [rowCells, ih]
theorem litCells_length : ∀ (n : Nat) (l : List Value), (litCells n l).length = n
  | 0, _ => rfl
  | n + 1, [] => by simp [litCells, litCells_length n]
  | n + 1, v :: r => by cases v <;> simp [litCells, litCells_length n]
theorem VL.at_length (fr : Bool) (xs : VL) (i : Nat) : (xs.at fr i).length = xs.wd := by
  cases xs <;> simp [VL.at, VL.wd, rowCells_length, litCells_length]
abbrev oneCell : Value → Bool := Value.oneCell'
def SV.ofV : Value → SV
  | .bool b => .bool b
  | .int k n => .int k n
  | v => .val v
def AV.ofV : Value → Option AV
  | .agg cs => if cs.toList.all oneCell then some (.one true (cs.toList.map SV.ofV)) else none
  | .tuple _ => none
  | v => some (.one false [SV.ofV v])
def undefA : AV := .one false [.und]
def St.ρ (s : St) : Operand → Option AV
  | .tmp t => s.slots[t]?
  | .const v => AV.ofV v
  | .global _ => none
  | .func f => some (.one false [.clo f []])
def St.put (s : St) (d : Option Nat) (v : AV) : St :=
  match d with
  | some d => { s with slots := s.slots.set d v }
  | none => s
structure Summ where
  pre : List AV → (Nat → Option Blk) → Bool
  fn : List AV → (Nat → Option Blk) → Option AV
structure WSumm where
  pre : List AV → (Nat → Option Blk) → Bool
  /-- the last number: the key of a block that the call makes -/
  fn : List AV → (Nat → Option Blk) → Nat → Option (AV × List (Nat × Option Blk))
structure Ctx where
  sum : FuncId → Option Summ
  fsum : Nat → Option Summ
  fval : Nat → Value
  wsum : FuncId → Option WSumm
  /-- the blocks that count as new, and the one that is lent -/
  F : Nat → Prop
  X : Nat → Prop
  v0 : Option Value
def szT (P : Program) (t : TypeId) : Option Nat := (P.info? t).map (·.size)
def aggT (P : Program) (t : TypeId) : Option Bool :=
  match P.underlying t with
  | some (.struct _) => some true
  | some (.array _ _) => some true
  | some _ => some false
  | none => none
def fieldT (P : Program) (t : TypeId) (f : Nat) : Option Field :=
  match P.underlying t with
  | some (.struct fs) => fs[f]?
  | _ => none
def cut (l : List SV) (off n : Nat) : List SV := (l.drop off).take n
def partS (P : Program) (t : TypeId) (l : List SV) (off : Nat) : Option AV :=
  match aggT P t, szT P t with
  | some true, some n => if off + n ≤ l.length then some (.one true (cut l off n)) else none
  | some false, some _ => match l[off]? with
    | some v => some (.one false [v])
    | none => none
  | _, _ => none
def bitsI (op : BinOp) (k : IntKind) (x y : Int) : Int :=
  let a := BitVec.ofInt k.bits x
  let b := BitVec.ofInt k.bits y
  match op with
  | .and => k.wrap ((a &&& b).toNat : Int)
  | .or => k.wrap ((a ||| b).toNat : Int)
  | .xor => k.wrap ((a ^^^ b).toNat : Int)
  | _ => k.wrap ((a &&& ~~~b).toNat : Int)
def shlI (k : IntKind) (x y : Int) : Int := k.wrap (x * 2 ^ (min y.toNat k.bits))
def shrI (k : IntKind) (x y : Int) : Int := x.fdiv (2 ^ (min y.toNat k.bits))
def intOp (op : BinOp) (k : IntKind) (x y : Int) : Option SV :=
  match op with
  | .add => some (.int k (k.wrap (x + y)))
  | .sub => some (.int k (k.wrap (x - y)))
  | .mul => some (.int k (k.wrap (x * y)))
  | .quo => some (.int k (k.wrap (x.tdiv y)))
  | .rem => some (.int k (x.tmod y))
  | .and | .or | .xor | .andNot => some (.int k (bitsI op k x y))
  | .eql => some (.bool (x == y))
  | .neq => some (.bool (x != y))
  | .lss => some (.bool (decide (x < y)))
  | .leq => some (.bool (decide (x ≤ y)))
  | .gtr => some (.bool (decide (x > y)))
  | .geq => some (.bool (decide (x ≥ y)))
  | _ => none
def eqFieldsS (P : Program) (eq : TypeId → AV → AV → Option Bool) (xs ys : List SV) : List Field → Option Bool
  | [] => some true
  | f :: fs =>
    if f.name ≠ "_" then
      match partS P f.type xs f.offset, partS P f.type ys f.offset with
      | some a, some b =>
        match eq f.type a b, eqFieldsS P eq xs ys fs with
        | some r, some r' => some (r && r')
        | _, _ => none
      | _, _ => none
    else eqFieldsS P eq xs ys fs
def eqS (P : Program) : (depth : Nat) → TypeId → AV → AV → Option Bool
  | 0, _, _, _ => none
  | d + 1, t, x, y =>
    match P.underlying t, x, y with
    | some .bool, .one false [.bool a], .one false [.bool b] => some (a == b)
    | some (.int _), .one false [.int k a], .one false [.int k' b] => if k = k' then some (a == b) else none
    | some (.struct fs), .one true xs, .one true ys => if P.stoodInHeld t then none else eqFieldsS P (eqS P d) xs ys fs.toList
    | _, _, _ => none
def SV.bytes? : SV → Option (List UInt8)
  | .str l => some l
  | .val (.string s) => some s.data.toList
  | _ => none
def strOp (op : BinOp) (x y : List UInt8) : Option SV :=
  match op with
  | .add => some (.str (x ++ y))
  | .eql => some (.bool (x == y))
  | .neq => some (.bool (!(x == y)))
  | _ => none
def strS (op : BinOp) (a b : SV) : Option AV :=
  match a.bytes?, b.bytes? with
  | some x, some y => (strOp op x y).map fun s => .one false [s]
  | _, _ => none
def binS (P : Program) (op : BinOp) (t : TypeId) (x y : AV) : Option AV :=
  match op, x, y with
  | .shl, .one false [.int k a], .one false [.int _ b] => some (.one false [.int k (shlI k a b)])
  | .shr, .one false [.int k a], .one false [.int _ b] => some (.one false [.int k (shrI k a b)])
  | op, .one false [.int k a], .one false [.int k' b] => if k = k' then (intOp op k a b).map fun s => .one false [s] else none
  | .eql, .one false [.bool a], .one false [.bool b] => match P.underlying t with
    | some .bool => some (.one false [.bool (a == b)])
    | _ => none
  | .neq, .one false [.bool a], .one false [.bool b] => match P.underlying t with
    | some .bool => some (.one false [.bool (!(a == b))])
    | _ => none
  | .eql, .one true xs, .one true ys => if P.eqGuardType P.depth t then none else (eqS P 6 t (.one true xs) (.one true ys)).map fun b => .one false [.bool b]
  | .neq, .one true xs, .one true ys => if P.eqGuardType P.depth t then none else (eqS P 6 t (.one true xs) (.one true ys)).map fun b => .one false [.bool (!b)]
  | op, .one false [.str a], .one false [b] => strS op (.str a) b
  | op, .one false [.val a], .one false [b] => strS op (.val a) b
  | _, _, _ => none
def unS (op : UnOp) (x : AV) : Option AV :=
  match op, x with
  | .neg, .one false [.int k n] => some (.one false [.int k (k.wrap (0 - n))])
  | .xor, .one false [.int k n] => some (.one false [.int k (bitsI .xor k (if k.signed then -1 else k.max) n)])
  | .not, .one false [.bool b] => some (.one false [.bool (!b)])
  | _, _ => none
def convS (P : Program) (src dst : TypeId) (x : AV) : Option AV :=
  match P.underlying src, P.underlying dst, x with
  | some _, some (.int k), .one false [.int _ n] => some (.one false [.int k (k.wrap n)])
  | _, _, _ => none
def AV.cells? : AV → Option (List SV)
  | .one true l => some l
  | .one false [s] => some [s]
  | _ => none
def SV.okc : SV → Bool
  | .val v => oneCell v
  | .fnv _ => false
  | .emp => false
  | .top => false
  | .und => false
  | _ => true
def splice (l : List SV) (off : Nat) (n : List SV) : List SV := l.take off ++ n ++ l.drop (off + n.length)
def fillS (place : Nat → Option (Nat × Nat)) : List SV → List (Nat × AV) → Option (List SV)
  | l, [] => some l
  | l, (i, v) :: rest =>
    match place i, v.cells? with
    | some (off, size), some cs => if cs.length = size ∧ off + size ≤ l.length ∧ cs.all SV.okc then fillS place (splice l off cs) rest else none
    | _, _ => none
def zeroS (P : Program) (t : TypeId) : Option (List SV) :=
  match (P.info? t).bind (·.zero) with
  | some v => (AV.ofV v).bind AV.cells?
  | none => none
def partsS (ρ : Operand → Option AV) : List (Nat × Operand) → Option (List (Nat × AV))
  | [] => some []
  | (i, x) :: r => match ρ x, partsS ρ r with
    | some v, some l => some ((i, v) :: l)
    | _, _ => none
def placesS (P : Program) (fs : List Field) : Option (List (Nat × Nat)) :=
  match fs with
  | [] => some []
  | f :: r => match szT P f.type, placesS P r with
    | some n, some l => some ((f.offset, n) :: l)
    | _, _ => none
def buildS (P : Program) (t : TypeId) (parts : List (Nat × AV)) : Option AV :=
  match zeroS P t, P.underlying t with
  | some z, some (.struct fs) => match placesS P fs.toList with
    | some pl => (fillS (fun i => pl[i]?) z parts).map (.one true ·)
    | none => none
  | some z, some (.array _ e) => match szT P e with
    | some n => (fillS (fun i => some (i * n, n)) z parts).map (.one true ·)
    | none => none
  | _, _ => none
def rep {α : Type} (z : List α) : Nat → List α
  | 0 => []
  | n + 1 => z ++ rep z n
def buildSliceS (P : Program) (t : TypeId) (len : Nat) (parts : List (Nat × AV)) : Option (TypeId × List SV) :=
  match P.underlying t with
  | some (.slice e) => match szT P e, zeroS P e with
    | some n, some z => if n ≠ 0 ∧ len * n ≤ 2 ^ 24 ∧ z.length = n then (fillS (fun i => some (i * n, n)) (rep z len) parts).map fun l => (e, l) else none
    | _, _ => none
  | _ => none
def argsS (ρ : Operand → Option AV) : List Operand → Option (List AV)
  | [] => some []
  | x :: r => match ρ x, argsS ρ r with
    | some v, some l => some (v :: l)
    | _, _ => none
def asVL (rd : Nat → Option Blk) : SV → Option VL
  | .vec _ xs => some xs
  | .own k => match rd k with
    | some (.grow _ xs) => some xs
    | _ => none
  | .sub k wd lo n => match rd k with
    | some (.grow _ xs) => if xs.wd = wd then some (xs.cut lo n) else none
    | _ => none
  | _ => none
def lenS (P : Program) (rd : Nat → Option Blk) (t : TypeId) (x : AV) : Option AV :=
  match P.underlying t, x with
  | some (.slice _), .one false [.vec _ xs] => some (.one false [.int .i64 xs.len])
  | some (.slice _), .one false [.sl _ _ len _] => some (.one false [.int .i64 len])
  | some (.slice _), .one false [.val (.slice none n _)] => some (.one false [.int .i64 n])
  | some (.slice _), .one false [.own k] => match rd k with
    | some (.grow _ xs) => some (.one false [.int .i64 xs.len])
    | _ => none
  | some (.slice _), .one false [.sub _ _ _ n] => some (.one false [.int .i64 n])
  | some .string, .one false [.str l] => some (.one false [.int .i64 l.length])
  | some .string, .one false [.val (.string s)] => some (.one false [.int .i64 s.size])
  | _, _ => none
def ixS (P : Program) (rd : Nat → Option Blk) (t : TypeId) (x : AV) (n : Int) : Option AV :=
  match P.underlying t, x with
  | some (.slice e), .one false [.vec fr xs] => if szT P e = some xs.wd then some (.one false [.epv fr xs n.toNat 0]) else none
  | some (.slice e), .one false [.sl k off _ _] => match szT P e with
    | some sz => some (.one false [.ptr k (off + n.toNat * sz)])
    | none => none
  | some (.array _ e), .one false [.ptr k off] => match szT P e with
    | some sz => some (.one false [.ptr k (off + n.toNat * sz)])
    | none => none
  | some (.slice e), .one false [.own k] => match rd k with
    | some (.grow _ xs) => if szT P e = some xs.wd then some (.one false [.epo k xs.wd n.toNat 0]) else none
    | _ => none
  | some (.slice e), .one false [.sub k wd lo _] => if szT P e = some wd then some (.one false [.epo k wd (lo + n.toNat) 0]) else none
  | _, _ => none
def ixB (P : Program) (rd : Nat → Option Blk) (t : TypeId) (x : AV) (n : Int) : Bool :=
  match P.underlying t, x with
  | some (.slice _), .one false [.vec _ xs] => decide (0 ≤ n) && decide (n < xs.len)
  | some (.slice _), .one false [.sl _ _ len _] => decide (0 ≤ n) && decide (n < len)
  | some (.array len _), .one false [.ptr _ _] => decide (0 ≤ n) && decide (n < len)
  | some (.slice _), .one false [.own k] => match rd k with
    | some (.grow _ xs) => decide (0 ≤ n) && decide (n < xs.len)
    | _ => false
  | some (.slice _), .one false [.sub _ _ _ len] => decide (0 ≤ n) && decide (n < len)
  | _, _ => false
def boundS (ρ : Operand → Option AV) : Option Operand → Option (Option Int)
  | none => some none
  | some o => match ρ o with
    | some (.one false [.int _ n]) => some (some n)
    | _ => none
def cutS (P : Program) (rd : Nat → Option Blk) (t : TypeId) (x : AV) (lo hi : Option Int) : Option AV :=
  match P.underlying t, x with
  | some (.slice e), .one false [.vec fr xs] => if szT P e = some xs.wd then some (.one false [.vec fr (xs.cut (lo.getD 0).toNat ((hi.getD xs.len).toNat - (lo.getD 0).toNat))]) else none
  | some (.slice e), .one false [.sl k off len cap] => match szT P e with
    | some sz => some (.one false [.sl k (off + (lo.getD 0).toNat * sz) ((hi.getD len).toNat - (lo.getD 0).toNat) (cap - (lo.getD 0).toNat)])
    | none => none
  | some (.slice e), .one false [.own k] => match rd k with
    | some (.grow _ xs) => if szT P e = some xs.wd then some (.one false [.sub k xs.wd (lo.getD 0).toNat ((hi.getD xs.len).toNat - (lo.getD 0).toNat)]) else none
    | _ => none
  | some (.slice e), .one false [.sub k wd l0 n] => if szT P e = some wd then some (.one false [.sub k wd (l0 + (lo.getD 0).toNat) ((hi.getD n).toNat - (lo.getD 0).toNat)]) else none
  | _, _ => none
def cutLen (P : Program) (rd : Nat → Option Blk) (t : TypeId) (x : AV) : Option Nat :=
  match P.underlying t, x with
  | some (.slice _), .one false [.vec _ xs] => some xs.len
  | some (.slice _), .one false [.sl _ _ len cap] => if len < cap then some len else none
  | some (.slice _), .one false [.own k] => match rd k with
    | some (.grow _ xs) => some xs.len
    | _ => none
  | some (.slice _), .one false [.sub _ _ _ n] => some n
  | _, _ => none
def cutB (len : Nat) (lo hi : Option Int) : Bool := decide (0 ≤ lo.getD 0) && (decide (lo.getD 0 ≤ hi.getD len) && decide (hi.getD len ≤ len))
def ints? (k : IntKind) : List SV → Option (List Int)
  | [] => some []
  | .int k' n :: r => if k' = k then (ints? k r).map (n :: ·) else none
  | _ => none
def bools? : List SV → Option (List Bool)
  | [] => some []
  | .bool b :: r => (bools? r).map (b :: ·)
  | _ => none
def cellsVL (P : Program) (e : TypeId) (l : List SV) : Option VL :=
  match P.underlying e with
  | some (.int k) => (ints? k l).map (.int k ·)
  | some .bool => (bools? l).map .bool
  | _ => none
def srcVL (P : Program) (rd : Nat → Option Blk) (e : TypeId) : AV → Option VL
  | .one false [.sl k off len _] => match rd k with
    | some (.cells _ l) => if off + len ≤ l.length then cellsVL P e (cut l off len) else none
    | _ => none
  | .one false [.val (.slice none 0 0)] => match P.underlying e with
    | some (.int k) => some (.int k [])
    | some .bool => some (.bool [])
    | _ => none
  | .one false [.emp] => match P.underlying e with
    | some (.int k) => some (.int k [])
    | some .bool => some (.bool [])
    | _ => none
  | .one false [s] => asVL rd s
  | _ => none
def VL.app : VL → VL → Option VL
  | .int k l, .int k' l' => if k = k' then some (.int k (l ++ l')) else none
  | .bool l, .bool l' => some (.bool (l ++ l'))
  | _, _ => none
def VL.setAt : VL → Nat → SV → Option VL
  | .int k l, i, .int k' n => if k = k' then some (.int k (l.set i n)) else none
  | .bool l, i, .bool b => some (.bool (l.set i b))
  | _, _, _ => none
def empS (P : Program) (rd : Nat → Option Blk) (t : TypeId) (x : AV) : Option AV :=
  match P.underlying t with
  | some (.slice e) => match srcVL P rd e x, szT P e with
    | some _, some _ => some (.one false [.emp])
    | _, _ => none
  | _ => none
def imax (x y : Int) : Int := if y > x then y else x
def imin (x y : Int) : Int := if y < x then y else x
def maxS : AV → AV → Option AV
  | .one false [.int k x], .one false [.int _ y] => some (.one false [.int k (imax x y)])
  | _, _ => none
def minS : AV → AV → Option AV
  | .one false [.int k x], .one false [.int _ y] => some (.one false [.int k (imin x y)])
  | _, _ => none
def foldS (f : AV → AV → Option AV) : AV → List AV → Option AV
  | a, [] => some a
  | a, x :: r => match f a x with
    | some b => foldS f b r
    | none => none
def strAt (s : ByteArray) (n : Int) : Int := ((s.data.getD n.toNat 0).toNat : Int)
def effP (P : Program) (o : Oper) (ρ : Operand → Option AV) : Option AV :=
  match o.op with
  | .move x => ρ x
  | .assign x => ρ x
  | .pick c a b => match ρ c with
    | some (.one false [.bool t]) => bif t then ρ a else ρ b
    | _ => none
  | .nilCheck x => match ρ x with
    | some (.one false [.ptr k f]) => some (.one false [.ptr k f])
    | some (.one false [.epv f a b c]) => some (.one false [.epv f a b c])
    | some (.one false [.epo a b c d]) => some (.one false [.epo a b c d])
    | _ => none
  | .binOp op t x y _ => match ρ x, ρ y with
    | some a, some b => binS P op t a b
    | _, _ => none
  | .unOp op _ x => (ρ x).bind (unS op)
  | .convert s d x => (ρ x).bind (convS P s d)
  | .build t parts => (partsS ρ parts.toList).bind (buildS P t)
  | .fieldAddr t x f => match ρ x, fieldT P t f with
    | some (.one false [.ptr k off]), some fd => match szT P fd.type with
      | some (_ + 1) => some (.one false [.ptr k (off + fd.offset)])
      | _ => none
    | some (.one false [.epv fr xs i off]), some fd => match szT P fd.type with
      | some (_ + 1) => some (.one false [.epv fr xs i (off + fd.offset)])
      | _ => none
    | some (.one false [.epo k wd i off]), some fd => match szT P fd.type with
      | some (_ + 1) => some (.one false [.epo k wd i (off + fd.offset)])
      | _ => none
    | _, _ => none
  | .field t x f => match ρ x, fieldT P t f with
    | some (.one true l), some fd => partS P fd.type l fd.offset
    | _, _ => none
  | .extract x i => match ρ x with
    | some (.tup l) => match l[i]? with
      | some (g, c) => some (.one g c)
      | none => none
    | _ => none
  | .makeFunc (.func f) first captured => if first.size = 0 then
      match argsS ρ captured.toList with
      | some l => match l.mapM (fun | AV.one false [.ptr k 0] => some k | _ => none) with
        | some ks => some (.one false [.clo f ks])
        | none => none
      | none => none
    else none
  | .index t x i => match P.underlying t, ρ x, ρ i with
    | some (.array _ e), some (.one true l), some (.one false [.int _ n]) => match szT P e with
      | some sz => partS P e l (n.toNat * sz)
      | none => none
    | some .string, some (.one false [.val (.string s)]), some (.one false [.int _ n]) => some (.one false [.int .u8 (strAt s n)])
    | some .string, some (.one false [.str l]), some (.one false [.int _ n]) => some (.one false [.int .u8 ((l.getD n.toNat 0).toNat : Int)])
    | _, _, _ => none
  | .call { callee := .builtin .max, args, .. } => match argsS ρ args.toList with
    | some (x :: r) => foldS maxS x r
    | _ => none
  | .call { callee := .builtin .min, args, .. } => match argsS ρ args.toList with
    | some (x :: r) => foldS minS x r
    | _ => none
  | _ => none
def strRoom (a b : SV) : Bool := match a.bytes?, b.bytes? with
  | some x, some y => decide (x.length + y.length ≤ 9223372036854775807)
  | _, _ => true
def wsumOf (C : Ctx) : Operand → Option WSumm
  | .func f => C.wsum f
  | _ => none
def isNought : Option (Option Int) → Bool
  | some (some 0) => true
  | _ => false
def asr (P : Program) (C : Ctx) (o : Oper) (ρ : Operand → Option AV) (rd : Nat → Option Blk) : Bool :=
  match o.op with
  | .binOp .quo _ _ y _ | .binOp .rem _ _ y _ => match ρ y with
    | some (.one false [.int _ b]) => !(b == 0)
    | _ => false
  | .binOp .shl _ _ y _ | .binOp .shr _ _ y _ => match ρ y with
    | some (.one false [.int _ b]) => decide (0 ≤ b)
    | _ => false
  | .binOp .add _ x y _ => match ρ x, ρ y with
    | some (.one false [.str a]), some (.one false [b]) => strRoom (.str a) b
    | some (.one false [.val a]), some (.one false [b]) => strRoom (.val a) b
    | _, _ => true
  | .index t x i => match P.underlying t, ρ x, ρ i with
    | some (.array len _), _, some (.one false [.int _ n]) => decide (0 ≤ n) && decide (n < len)
    | some .string, some (.one false [.val (.string s)]), some (.one false [.int _ n]) => decide (0 ≤ n) && decide (n < (s.size : Int))
    | some .string, some (.one false [.str l]), some (.one false [.int _ n]) => decide (0 ≤ n) && decide (n < (l.length : Int))
    | _, _, _ => false
  | .indexAddr t x i => match ρ x, ρ i with
    | some v, some (.one false [.int _ n]) => ixB P rd t v n
    | _, _ => false
  | .slice t x lo hi mx => match mx with
    | none => match ρ x, boundS ρ lo, boundS ρ hi with
      | some v, some l, some h => match cutLen P rd t v with
        | some n => cutB n l h
        | none => false
      | _, _, _ => false
    | some _ => true
  | .makeSlice t l c => match P.underlying t, ρ l, ρ c with
    | some (.slice e), some (.one false [.int _ n]), some (.one false [.int _ m]) => decide (0 ≤ n) && (decide (n ≤ m) && decide (((P.info? e).map (·.bytes)).getD 0 * m ≤ 281474976710656))
    | _, _, _ => false
  | .call { callee := .builtin .append, args, argTypes } => match argTypes[0]?, args[0]?, args[1]? with
    | some t, some x, some y => match P.underlying t, ρ x, ρ y with
      | some (.slice e), some u, some v => match srcVL P rd e u, srcVL P rd e v with
        | some xs, some ys => decide ((xs.len + ys.len) * ((P.info? e).map (·.bytes)).getD 0 ≤ 140737488355328)
        | _, _ => false
      | _, _, _ => false
    | _, _, _ => false
  | .call { callee := .value x, args, .. } => match wsumOf C x with
   | some sm => match argsS ρ args.toList with
    | some l => sm.pre l rd
    | none => false
   | none => match ρ x, argsS ρ args.toList with
    | some (.one false [.clo f caps]), some l => match C.sum f with
      | some sm => sm.pre (l ++ caps.map fun k => .one false [.ptr k 0]) rd
      | none => false
    | some (.one false [.clv f xss]), some l => match C.sum f with
      | some sm => sm.pre (l ++ xss.map fun xs => .one false [.pvc xs]) rd
      | none => false
    | some (.one false [.fnv i]), some l => match C.fsum i with
      | some sm => sm.pre l rd
      | none => false
    | _, _ => false
  | _ => true
def effR (P : Program) (C : Ctx) (o : Oper) (ρ : Operand → Option AV) (rd : Nat → Option Blk) : Option AV :=
  match o.op with
  | .load t x => match ρ x with
    | some (.one false [.ptr k off]) => match rd k with
      | some (.cells _ l) => partS P t l off
      | _ => none
    | some (.one false [.epv fr xs i off]) => partS P t (xs.at fr i) off
    | some (.one false [.pvc xs]) => partS P t [.vec false xs] 0
    | some (.one false [.epo k wd i off]) => match rd k with
      | some (.grow _ xs) => if xs.wd = wd then partS P t (xs.at false i) off else none
      | _ => none
    | _ => none
  | .indexAddr t x i => match ρ x, ρ i with
    | some v, some (.one false [.int _ n]) => ixS P rd t v n
    | _, _ => none
  | .slice t x lo hi mx => match mx with
    | none => match ρ x, boundS ρ lo, boundS ρ hi with
      | some v, some l, some h => cutS P rd t v l h
      | _, _, _ => none
    | some m => match lo, ρ x with
      | none, some v => cond (isNought (boundS ρ hi) && isNought (boundS ρ (some m))) (empS P rd t v) none
      | _, _ => none
  | .convert sr d x => match P.underlying sr, P.underlying d, ρ x with
    | some (.slice e), some .string, some (.one false [s]) => match P.underlying e, srcVL P rd e (.one false [s]) with
      | some (.int .u8), some (.int .u8 l) => some (.one false [.str (l.map fun n => UInt8.ofNat n.toNat)])
      | _, _ => none
    | _, _, _ => none
  | .call { callee := .builtin .len, args, argTypes } => match argTypes[0]?, args[0]? with
    | some t, some x => (ρ x).bind (lenS P rd t)
    | _, _ => none
  | .call { callee := .value x, args, .. } => match ρ x, argsS ρ args.toList with
    | some (.one false [.clo f caps]), some l => match C.sum f with
      | some sm => sm.fn (l ++ caps.map fun k => .one false [.ptr k 0]) rd
      | none => none
    | some (.one false [.clv f xss]), some l => match C.sum f with
      | some sm => sm.fn (l ++ xss.map fun xs => .one false [.pvc xs]) rd
      | none => none
    | some (.one false [.fnv i]), some l => match C.fsum i with
      | some sm => sm.fn l rd
      | none => none
    | _, _ => none
  | _ => none
def effA (P : Program) (o : Oper) (ρ : Operand → Option AV) (key : Nat) : Option (AV × List (Nat × Option Blk)) :=
  match o.op with
  | .box t x => match (ρ x).bind AV.cells? with
    | some cs => if cs.all SV.okc then some (.one false [.ptr key 0], [(key, some (.cells t cs))]) else none
    | none => none
  | .alloc t => match zeroS P t with
    | some cs => if cs.all SV.okc then some (.one false [.ptr key 0], [(key, some (.cells t cs))]) else none
    | none => none
  | .buildSlice t len parts => match (partsS ρ parts.toList).bind (buildSliceS P t len) with
    | some (e, l) => some (.one false [.sl key 0 len len], [(key, some (.cells e l))])
    | none => none
  | .makeSlice t l c => match P.underlying t, ρ l, ρ c with
    | some (.slice e), some (.one false [.int _ n]), some (.one false [.int _ _]) => if ((P.info? e).map (·.bytes)).getD 0 = 0 then none else match P.underlying e, zeroS P e, szT P e with
      | some (.int k), some [.int k' 0], some 1 => if k' = k then some (.one false [.own key], [(key, some (.grow e (.int k (List.replicate n.toNat 0))))]) else none
      | some .bool, some [.bool false], some 1 => some (.one false [.own key], [(key, some (.grow e (.bool (List.replicate n.toNat false))))])
      | _, _, _ => none
    | _, _, _ => none
  | _ => none
def effW (P : Program) (C : Ctx) (o : Oper) (ρ : Operand → Option AV) (rd : Nat → Option Blk) (key : Nat) : Option (AV × List (Nat × Option Blk)) :=
  match o.op with
  | .store t a x => match ρ a, (ρ x).bind AV.cells?, szT P t with
    | some (.one false [.ptr k off]), some cs, some n => match rd k with
      | some (.cells e l) => if cs.length = n ∧ off + n ≤ l.length ∧ cs.all SV.okc then some (undefA, [(k, some (.cells e (splice l off cs)))]) else none
      | _ => none
    | some (.one false [.epo k 1 i 0]), some [c], some 1 => match rd k with
      | some (.grow e xs) => (xs.setAt i c).map fun ys => (undefA, [(k, some (.grow e ys))])
      | _ => none
    | _, _, _ => none
  | .call { callee := .builtin .append, args, argTypes } => if argTypes.size = 2 ∧ args.size = 2 ∧ argTypes[0]? = argTypes[1]? then
      match argTypes[0]?, args[0]?, args[1]? with
      | some t, some x, some y => match P.underlying t, ρ x, ρ y with
        | some (.slice e), some u, some v => match srcVL P rd e u, srcVL P rd e v, (zeroS P e).map List.length, szT P e with
          | some xs, some ys, some (z + 1), some sz => if z + 1 = sz ∧ xs.wd = sz ∧ ((P.info? e).map (·.bytes)).getD 0 ≠ 0 then
              match u, xs.app ys with
              | .one false [.own k], some zs => match rd k with
                | some (.grow e' _) => if e' = e then some (.one false [.own key], [(k, none), (key, some (.grow e zs))]) else none
                | _ => none
              | .one false [.sl k 0 len cap], some zs => match rd k with
                | some (.cells e' l) => if len = cap ∧ l.length = len * sz ∧ e' = e ∧ cap ≤ 4611686018427387904 then some (.one false [.own key], [(k, none), (key, some (.grow e zs))]) else none
                | _ => none
              | .one false [.val (.slice none 0 0)], some zs => some (.one false [.own key], [(key, some (.grow e zs))])
              | .one false [.emp], some zs => cond zs.flat (some (.one false [.vec true zs], [])) none
              | _, _ => none
            else none
          | _, _, _, _ => none
        | _, _, _ => none
      | _, _, _ => none
    else none
  | .call { callee := .value (.func f), args, .. } => match C.wsum f, argsS ρ args.toList with
    | some sm, some l => match sm.fn l rd key with
      | some (v, ch) => cond (ch.all fun p => Nat.beq p.1 key || (rd p.1).isSome) (some (v, ch)) none
      | none => none
    | _, _ => none
  | _ => none
inductive Kd where
  | p | r | a | w
  deriving DecidableEq
def kd (P : Program) (C : Ctx) : Op → Kd
  | .load _ _ | .indexAddr _ _ _ | .slice _ _ _ _ _ => .r
  | .convert s _ _ => match P.underlying s with
    | some (.slice _) => .r
    | _ => .p
  | .call { callee := .value (.func f), .. } => match C.wsum f with
    | some _ => .w
    | none => .r
  | .call { callee := .value _, .. } => .r
  | .call { callee := .builtin .len, .. } => .r
  | .box _ _ | .alloc _ | .buildSlice _ _ _ | .makeSlice _ _ _ => .a
  | .store _ _ _ => .w
  | .call { callee := .builtin .append, .. } => .w
  | _ => .p
def St.rd (s : St) (al : Nat → Bool) (k : Nat) : Option Blk := bif al k then (s.heap[k]?).join.join else none
def St.guard (s : St) (ops : Array Oper) (o : Oper) : Option Bool :=
  match o.guard with
  | none => some true
  | some (j, want) => match ((ops[j]?).bind (·.dst)).bind (s.slots[·]?) with
    | some (.one false [.bool b]) => some (b == want)
    | some (.one false [.und]) => some false
    | _ => none
def St.rdk (P : Program) (C : Ctx) (s : St) (o : Oper) (al : Nat → Bool) : Nat → Option Blk :=
  match kd P C o.op with
  | .r => s.rd al
  | .w => s.rd al
  | _ => fun _ => none
def chg : List (Nat × Option Blk) → List (Option (Option Blk)) → List (Option (Option Blk))
  | [], h => h
  | (k, b) :: r, h => chg r (h.set k (some b))
def dOp (P : Program) (C : Ctx) (ops : Array Oper) (al : Nat → Bool) (nk i : Nat) (s : St) : Option St :=
  match ops[i]? with
  | none => none
  | some o =>
    match s.guard ops o with
    | none => none
    | some false => some (s.put o.dst undefA)
    | some true =>
      bif asr P C o s.ρ (s.rdk P C o al) then
        match kd P C o.op with
        | .p => match effP P o s.ρ with
          | some v => some (s.put o.dst v)
          | none => none
        | .r => match effR P C o s.ρ (s.rd al) with
          | some v => some (s.put o.dst v)
          | none => none
        | .a => match effA P o s.ρ (nk + i), s.heap[nk + i]? with
          | some (v, l), some none => some { s.put o.dst v with heap := chg l s.heap }
          | _, _ => none
        | .w => match effW P C o s.ρ (s.rd al) (nk + i), s.heap[nk + i]? with
          | some (v, l), some none => some { s.put o.dst v with heap := chg l s.heap }
          | _, _ => none
      else none
def dRun (P : Program) (C : Ctx) (ops : Array Oper) (al : Nat → Nat → Bool) (nk : Nat) : List Nat → St → Option St
  | [], s => some s
  | i :: is, s => match dOp P C ops (al i) nk i s with
    | some s' => dRun P C ops al nk is s'
    | none => none
end Go.Ev
namespace Go.Ev
open Go.RowKit
def AllR {α β : Type} (R : α → β → Prop) (l : List α) (m : List β) : Prop :=
  l.length = m.length ∧ ∀ (i : Nat) (a : α) (b : β), l[i]? = some a → m[i]? = some b → R a b
theorem AllR.nil {α β : Type} {R : α → β → Prop} : AllR R [] [] := ⟨rfl, by simp⟩
theorem AllR.cons {α β : Type} {R : α → β → Prop} {a b l m} (h : R a b) (t : AllR R l m) : AllR R (a :: l) (b :: m) := by
  refine ⟨by simp [t.1], fun i x y hx hy => ?_⟩
  cases i with
  | zero => simp at hx hy; subst hx hy; exact h
  | succ i => simp at hx hy; exact t.2 i x y hx hy
theorem AllR.uncons {α β : Type} {R : α → β → Prop} {a l m} (t : AllR R (a :: l) m) : ∃ b m', m = b :: m' ∧ R a b ∧ AllR R l m' := by
  cases m with
  | nil => have := t.1; simp at this
  | cons b m' =>
    refine ⟨b, m', rfl, t.2 0 a b rfl rfl, by have := t.1; simpa using this, fun i x y hx hy => t.2 (i + 1) x y (by simpa using hx) (by simpa using hy)⟩
theorem AllR.unnil {α β : Type} {R : α → β → Prop} {m} (t : AllR R ([] : List α) m) : m = ([] : List β) := by
  have := t.1; simp at this; exact List.length_eq_zero_iff.1 (by omega) 
theorem AllR.mono {α β : Type} {R S : α → β → Prop} {l m} (h : ∀ a b, a ∈ l → R a b → S a b) (t : AllR R l m) : AllR S l m :=
  ⟨t.1, fun i a b ha hb => h a b (List.mem_of_getElem? ha) (t.2 i a b ha hb)⟩
theorem AllR.get {α β : Type} {R : α → β → Prop} {l : List α} {m : List β} (t : AllR R l m) {i : Nat} {a : α} (h : l[i]? = some a) : ∃ b, m[i]? = some b ∧ R a b := by
  have hi : i < l.length := by
    rcases Nat.lt_or_ge i l.length with h' | h'
    · exact h'
    · simp [List.getElem?_eq_none h'] at h
  have hm : i < m.length := t.1 ▸ hi
  exact ⟨m[i], by simp [hm], t.2 i a m[i] h (by simp [hm])⟩
theorem AllR.app {α β : Type} {R : α → β → Prop} {l m l' m'} (t : AllR R l m) (t' : AllR R l' m') : AllR R (l ++ l') (m ++ m') := by
  refine ⟨by simp [t.1, t'.1], fun i a b ha hb => ?_⟩
  rcases Nat.lt_or_ge i l.length with h | h
  · rw [List.getElem?_append_left h] at ha
    rw [List.getElem?_append_left (t.1 ▸ h)] at hb
    exact t.2 i a b ha hb
  · rw [List.getElem?_append_right h] at ha
    rw [List.getElem?_append_right (t.1 ▸ h)] at hb
    rw [← t.1] at hb
    exact t'.2 _ a b ha hb
theorem AllR.take {α β : Type} {R : α → β → Prop} {l m} (t : AllR R l m) (n : Nat) : AllR R (l.take n) (m.take n) := by
  refine ⟨by simp [t.1], fun i a b ha hb => ?_⟩
  rw [List.getElem?_take] at ha hb
  split at ha
  · rename_i h
    rw [if_pos h] at hb
    exact t.2 i a b ha hb
  · cases ha
theorem AllR.drop {α β : Type} {R : α → β → Prop} {l m} (t : AllR R l m) (n : Nat) : AllR R (l.drop n) (m.drop n) := by
  refine ⟨by simp [t.1], fun i a b ha hb => ?_⟩
  rw [List.getElem?_drop] at ha hb
  exact t.2 _ a b ha hb
theorem AllR.set {α β : Type} {R : α → β → Prop} {l m} (t : AllR R l m) (n : Nat) {a b} (h : R a b) : AllR R (l.set n a) (m.set n b) := by
  refine ⟨by simp [t.1], fun i x y hx hy => ?_⟩
  rw [List.getElem?_set] at hx hy
  by_cases e : n = i
  · rw [if_pos e] at hx hy
    split at hx
    · rw [if_pos (by have := t.1; omega)] at hy
      cases hx; cases hy; exact h
    · cases hx
  · rw [if_neg e] at hx hy
    exact t.2 i x y hx hy
theorem AllR.map {α β γ : Type} {R : α → β → Prop} {l : List γ} {f : γ → α} {g : γ → β} (h : ∀ x ∈ l, R (f x) (g x)) : AllR R (l.map f) (l.map g) := by
  refine ⟨by simp, fun i x y hx hy => ?_⟩
  simp only [List.getElem?_map, Option.map_eq_some_iff] at hx hy
  obtain ⟨c, hc, rfl⟩ := hx
  obtain ⟨d, hd, rfl⟩ := hy
  rw [hc] at hd; cases hd
  exact h c (List.mem_of_getElem? hc)
def SV.plain : SV → Bool
  | .bool _ => true
  | .int _ _ => true
  | .val _ => true
  | _ => false
def RdX (w : World) (b off : Nat) (l : List SV) : Prop := ∀ j c, l[j]? = some c → w.cell? ⟨b, off + j, none⟩ = some c.exact
structure Env where
  β : Nat → Option Nat
  σ : Nat → Option Value
  A : Nat → Prop
  F : Nat → Prop
  X : Nat → Prop
def Env.G (E : Env) (fr : Bool) (b : Nat) : Prop := ¬ E.A b ∧ (fr = true → E.F b)
def VecIn (G : Nat → Prop) (w : World) (xs : VL) (v : Value) : Prop :=
  xs.flat = true ∧ ∃ a cap, v = .slice a xs.len cap ∧ xs.len ≤ cap ∧ (a = none → cap = 0) ∧ (xs.len = 0 ∨ ∃ b off, a = some ⟨b, off, none⟩ ∧ G b ∧ b < w.heap.size ∧ ∀ i, i < xs.len → RdX w b (off + i * xs.wd) (xs.at false i))
def CellIn (G : Nat → Prop) (w : World) : SV → Value → Prop
  | .vec _ xs, v => VecIn G w xs v
  | c, v => v = c.exact
def RdAt (G : Nat → Prop) (w : World) (b off : Nat) (l : List SV) : Prop := ∀ j c, l[j]? = some c → ∃ u, w.cell? ⟨b, off + j, none⟩ = some u ∧ CellIn G w c u
def VecG (G : Nat → Prop) (w : World) (fr : Bool) (xs : VL) (v : Value) : Prop :=
  ∃ a cap, v = .slice a xs.len cap ∧ xs.len ≤ cap ∧ (a = none → cap = 0) ∧ (xs.len = 0 ∨ ∃ b off, a = some ⟨b, off, none⟩ ∧ G b ∧ b < w.heap.size ∧ ∀ i, i < xs.len → RdAt G w b (off + i * xs.wd) (xs.at fr i))
def VecAt (E : Env) (w : World) (fr : Bool) (xs : VL) (v : Value) : Prop := VecG (E.G fr) w fr xs v
def PvcR (E : Env) (w : World) (xs : VL) (v : Value) : Prop := ∃ b off u, v = .pointer (some ⟨b, off, none⟩) ∧ ¬ E.A b ∧ b < w.heap.size ∧ w.cell? ⟨b, off, none⟩ = some u ∧ VecAt E w false xs u
def SV.rel (C : Ctx) (E : Env) (w : World) : SV → Value → Prop
  | .bool b, v => v = .bool b
  | .int k n, v => v = .int k n
  | .ptr key off, v => ∃ n, E.β key = some n ∧ v = .pointer (some ⟨n, off, none⟩)
  | .val x, v => v = x
  | .vec fr xs, v => VecAt E w fr xs v
  | .epv fr xs i o, v => ∃ b off, v = .pointer (some ⟨b, off + o, none⟩) ∧ E.G fr b ∧ b < w.heap.size ∧ RdAt (E.G fr) w b off (xs.at fr i)
  | .str l, v => v = .string ⟨l.toArray⟩
  | .emp, v => ∃ a, v = .slice a 0 0
  | .pvc xs, v => PvcR E w xs v
  | .sl key off len cap, v => ∃ n, E.β key = some n ∧ v = .slice (some ⟨n, off, none⟩) len cap
  | .fnv id, v => v = C.fval id
  | .clo f caps, v => ∃ ns : List Nat, caps.map E.β = ns.map some ∧ v = .func (.func f) #[] (ns.map fun n => Value.pointer (some ⟨n, 0, none⟩)).toArray
  | .clv f xss, v => ∃ ps : List Value, v = .func (.func f) #[] ps.toArray ∧ AllR (PvcR E w) xss ps
  | .own key, v => E.σ key = some v ∧ ∃ a n c, v = .slice a n c
  | .sub key wd lo len, v => ∃ a cap b l c, E.σ key = some (.slice b l c) ∧ lo + len ≤ l ∧ v = .slice a len cap ∧ len ≤ cap ∧ (a = none → cap = 0) ∧ (len = 0 ∨ ∃ n, b = some ⟨n, 0, none⟩ ∧ a = some ⟨n, lo * wd, none⟩)
  | .epo key wd i o, v => ∃ n l c, E.σ key = some (.slice (some ⟨n, 0, none⟩) l c) ∧ i < l ∧ v = .pointer (some ⟨n, i * wd + o, none⟩)
  | .top, _ => True
  | .und, v => v = undef
def OneR (C : Ctx) (E : Env) (w : World) (g : Bool) (l : List SV) (v : Value) : Prop :=
  match g, l with
  | true, l => ∃ vs, v = .agg vs ∧ AllR (SV.rel C E w) l vs.toList
  | false, [s] => s.rel C E w v
  | false, _ => False
def AV.rel (C : Ctx) (E : Env) (w : World) : AV → Value → Prop
  | .one g l, v => OneR C E w g l v
  | .tup l, v => ∃ vs, v = .tuple vs ∧ AllR (fun (p : Bool × List SV) v => OneR C E w p.1 p.2 v) l vs.toList
def VL.vals (xs : VL) : List Value := ((List.range xs.len).map fun i => (xs.at false i).map SV.exact).flatten
def BlkR (C : Ctx) (E : Env) (w : World) (k : Nat) : Blk → Prop
  | .cells e l => ∃ n, E.β k = some n ∧ E.A n ∧ ∃ vs : Array Value, w.heap[n]? = some (.cells vs e (0, 0)) ∧ AllR (SV.rel C E w) l vs.toList ∧ ∀ v ∈ vs.toList, oneCell v = true
  | .grow e xs => ∃ v, E.σ k = some v ∧ E.β k = none ∧ (∀ n, v.ownBlock = some n → E.A n) ∧ xs.flat = true ∧ w.ownsRow 0 e xs.wd v xs.len xs.vals
def Env.blk (E : Env) (k : Nat) : Option Nat :=
  match E.β k with
  | some n => some n
  | none => (E.σ k).bind Value.ownBlock
structure BelowX (X : Nat → Prop) (B : Nat) (w w' : World) : Prop where
  os : w'.os = w.os
  tape : w'.tape = w.tape
  output : w'.output = w.output
  size : w.heap.size ≤ w'.heap.size
  block : ∀ k, k < B → ¬ X k → w'.heap[k]? = w.heap[k]?
theorem BelowX.refl (X : Nat → Prop) (B : Nat) (w : World) : BelowX X B w w := ⟨rfl, rfl, rfl, Nat.le_refl _, fun _ _ _ => rfl⟩
theorem BelowX.trans {X : Nat → Prop} {B : Nat} {a b c : World} (h : BelowX X B a b) (k : BelowX X B b c) : BelowX X B a c :=
  ⟨k.os.trans h.os, k.tape.trans h.tape, k.output.trans h.output, Nat.le_trans h.size k.size, fun i hi hx => (k.block i hi hx).trans (h.block i hi hx)⟩
theorem belowX_of {X : Nat → Prop} {B B' : Nat} {w w' : World} (h : Below B' w w') (hB : B ≤ B') : BelowX X B w w' := ⟨h.os, h.tape, h.output, h.size, fun k hk _ => h.block k (Nat.lt_of_lt_of_le hk hB)⟩
theorem BelowX.to {X : Nat → Prop} {B : Nat} {w w' : World} (h : BelowX X B w w') (hX : ∀ n, ¬ X n) : Below B w w' := ⟨h.os, h.tape, h.output, h.size, fun k hk => h.block k hk (hX k)⟩
theorem BelowX.grown {X : Nat → Prop} {B : Nat} {a w w' : World} {row : Option Nat} (h : BelowX X B a w) (hg : w.grownBy w' row) (hB : B ≤ w.heap.size) (hr : ∀ k, row = some k → B ≤ k ∨ X k) : BelowX X B a w' :=
  h.trans ⟨hg.os, hg.tape, hg.output, hg.size, fun k hk hx => hg.block k (by omega) (fun e => by rcases hr k e.symm with h | h; omega; exact hx h)⟩
structure EOK (C : Ctx) (B : Nat) (E : Env) : Prop where
  F : ∀ n, B ≤ n → E.F n
  X : ∀ n, E.X n → E.F n
  eF : E.F = C.F
  eX : E.X = C.X
  v0 : ∀ v, C.v0 = some v → E.σ 0 = some v
theorem EOK.to {C : Ctx} {B : Nat} {E E' : Env} (h : EOK C B E) (h1 : E'.F = E.F) (h2 : E'.X = E.X) (h3 : ∀ v, E.σ 0 = some v → E'.σ 0 = some v) : EOK C B E' :=
  ⟨fun n hn => by rw [h1]; exact h.F n hn, fun n hn => by rw [h1]; rw [h2] at hn; exact h.X n hn, h1.trans h.eF, h2.trans h.eX, fun v hv => h3 v (h.v0 v hv)⟩
structure Rel (C : Ctx) (B : Nat) (w0 : World) (E : Env) (s : St) (a : Act) (w : World) : Prop where
  slots : AllR (AV.rel C E w) s.slots a.tmps.toList
  defers : a.defers = []
  heap : ∀ k b, s.heap[k]? = some (some (some b)) → BlkR C E w k b
  free : ∀ k, s.heap[k]? = some none ∨ s.heap[k]? = none → E.β k = none ∧ E.σ k = none
  lo : ∀ n, E.A n → (B ≤ n ∨ E.X n) ∧ n < w.heap.size
  inj : ∀ k k' b b' n, s.heap[k]? = some (some (some b)) → s.heap[k']? = some (some (some b')) → E.blk k = some n → E.blk k' = some n → k = k'
  below : BelowX E.X B w0 w
  base : B ≤ w.heap.size
  ok : EOK C B E
theorem RdX.mono {w w' : World} {b off : Nat} {l : List SV} (h : RdX w b off l) (hc : ∀ o u, w.cell? ⟨b, o, none⟩ = some u → w'.cell? ⟨b, o, none⟩ = some u) : RdX w' b off l := fun j c hj => hc _ _ (h j c hj)
theorem VecIn.mono {G G' : Nat → Prop} {w w' : World} {xs : VL} {v : Value} (h : VecIn G w xs v) (hG : ∀ b, b < w.heap.size → G b → G' b) (hz : w.heap.size ≤ w'.heap.size)
    (hc : ∀ b o u, G b → w.cell? ⟨b, o, none⟩ = some u → w'.cell? ⟨b, o, none⟩ = some u) : VecIn G' w' xs v := by
  obtain ⟨hf, a, cap, rfl, hcap, hnil, hr⟩ := h
  refine ⟨hf, a, cap, rfl, hcap, hnil, hr.imp id ?_⟩
  rintro ⟨b, off, rfl, hb, hl, hrd⟩
  exact ⟨b, off, rfl, hG b hl hb, by omega, fun i hi => (hrd i hi).mono (hc b · · hb)⟩
theorem CellIn.mono {G G' : Nat → Prop} {w w' : World} {c : SV} {v : Value} (h : CellIn G w c v) (hG : ∀ b, b < w.heap.size → G b → G' b) (hz : w.heap.size ≤ w'.heap.size)
    (hc : ∀ b o u, G b → w.cell? ⟨b, o, none⟩ = some u → w'.cell? ⟨b, o, none⟩ = some u) : CellIn G' w' c v := by
  cases c <;> first
    | exact h
    | exact VecIn.mono h hG hz hc
theorem RdAt.mono {G G' : Nat → Prop} {w w' : World} {b off : Nat} {l : List SV} (h : RdAt G w b off l) (hb : G b) (hG : ∀ b, b < w.heap.size → G b → G' b) (hz : w.heap.size ≤ w'.heap.size)
    (hc : ∀ b o u, G b → w.cell? ⟨b, o, none⟩ = some u → w'.cell? ⟨b, o, none⟩ = some u) : RdAt G' w' b off l := fun j c hj => by
  obtain ⟨u, h1, h2⟩ := h j c hj
  exact ⟨u, hc _ _ _ hb h1, h2.mono hG hz hc⟩
theorem VecG.mono {G G' : Nat → Prop} {w w' : World} {fr : Bool} {xs : VL} {v : Value} (h : VecG G w fr xs v) (hG : ∀ b, b < w.heap.size → G b → G' b) (hz : w.heap.size ≤ w'.heap.size)
    (hc : ∀ b o u, G b → w.cell? ⟨b, o, none⟩ = some u → w'.cell? ⟨b, o, none⟩ = some u) : VecG G' w' fr xs v := by
  obtain ⟨a, cap, rfl, hcap, hnil, hr⟩ := h
  refine ⟨a, cap, rfl, hcap, hnil, hr.imp id ?_⟩
  rintro ⟨b, off, rfl, hb, hl, hrd⟩
  exact ⟨b, off, rfl, hG b hl hb, by omega, fun i hi => (hrd i hi).mono hb hG hz hc⟩
theorem at_flag {G : Nat → Prop} {w : World} {b off : Nat} {xs : VL} {i : Nat} {fr fr' : Bool} (h : RdAt G w b off (xs.at fr i)) : RdAt G w b off (xs.at fr' i) := by
  cases xs with
  | row ks l =>
    simp only [VL.at] at h ⊢
    generalize l.getD i [] = r at h ⊢
    induction ks generalizing r off with
    | nil => exact h
    | cons k ks ih =>
      intro j c hj
      rcases j with _ | j
      · cases k with
        | ints k =>
          simp only [rowCells, List.getElem?_cons_zero, Option.some.injEq] at hj
          subst hj
          obtain ⟨u, h1, h2⟩ := h 0 (.vec fr _) rfl
          exact ⟨u, h1, h2⟩
        | bool => simp only [rowCells, List.getElem?_cons_zero, Option.some.injEq] at hj; subst hj; exact h 0 _ rfl
        | int k => simp only [rowCells, List.getElem?_cons_zero, Option.some.injEq] at hj; subst hj; exact h 0 _ rfl
      · have hj' : (rowCells fr' ks r.tail)[j]? = some c := by cases k <;> simpa only [rowCells, List.getElem?_cons_succ] using hj
        have := ih (off := off + 1) (r := r.tail) (fun i d hd => by
          have := h (i + 1) d (by cases k <;> simpa only [rowCells, List.getElem?_cons_succ] using hd)
          rw [show off + (i + 1) = off + 1 + i by omega] at this
          exact this) j c hj'
        rw [show off + (j + 1) = off + 1 + j by omega]
        exact this
  | _ => exact h
theorem VecG.flag {G : Nat → Prop} {w : World} {fr fr' : Bool} {xs : VL} {v : Value} (h : VecG G w fr xs v) : VecG G w fr' xs v := by
  obtain ⟨a, cap, rfl, hcap, hnil, hr⟩ := h
  exact ⟨a, cap, rfl, hcap, hnil, hr.imp id fun ⟨b, off, h1, h2, h3, h4⟩ => ⟨b, off, h1, h2, h3, fun i hi => at_flag (h4 i hi)⟩⟩
structure ExtE (E E' : Env) (w w' : World) : Prop where
  β : ∀ k n, E.β k = some n → E'.β k = some n
  σ : ∀ k n, E.σ k = some n → E'.σ k = some n
  A : ∀ n, n < w.heap.size → E'.A n → E.A n
  F : ∀ n, n < w.heap.size → ¬ E.A n → E.F n → E'.F n
  z : w.heap.size ≤ w'.heap.size
  c : ∀ b o u, ¬ E.A b → w.cell? ⟨b, o, none⟩ = some u → w'.cell? ⟨b, o, none⟩ = some u
theorem ExtE.G {E E' : Env} {w w' : World} (h : ExtE E E' w w') {fr : Bool} : ∀ b, b < w.heap.size → E.G fr b → E'.G fr b :=
  fun b hb hg => ⟨fun h' => hg.1 (h.A b hb h'), fun e => h.F b hb hg.1 (hg.2 e)⟩
theorem ExtE.cG {E E' : Env} {w w' : World} (h : ExtE E E' w w') {fr : Bool} : ∀ b o u, E.G fr b → w.cell? ⟨b, o, none⟩ = some u → w'.cell? ⟨b, o, none⟩ = some u := fun b o u hg hu => h.c b o u hg.1 hu
theorem VecAt.ext {E E' : Env} {w w' : World} {fr : Bool} {xs : VL} {v : Value} (h : VecAt E w fr xs v) (he : ExtE E E' w w') : VecAt E' w' fr xs v := VecG.mono h he.G he.z he.cG
theorem PvcR.ext {E E' : Env} {w w' : World} {xs : VL} {v : Value} (h : PvcR E w xs v) (he : ExtE E E' w w') : PvcR E' w' xs v := by
  obtain ⟨b, off, u, rfl, hb, hl, hu, hv⟩ := h
  exact ⟨b, off, u, rfl, fun h' => hb (he.A b hl h'), Nat.lt_of_lt_of_le hl he.z, he.c _ _ _ hb hu, hv.ext he⟩
theorem SV.rel_ext {C : Ctx} {E E' : Env} {w w' : World} {s : SV} {v : Value} (h : SV.rel C E w s v) (he : ExtE E E' w w') : SV.rel C E' w' s v := by
  cases s <;> try exact h
  case ptr key off => obtain ⟨n, hn, rfl⟩ := h; exact ⟨n, he.β _ _ hn, rfl⟩
  case vec fr xs => exact VecAt.ext h he
  case pvc xs => exact PvcR.ext h he
  case epv fr xs i o =>
    obtain ⟨b, off, rfl, hb, hl, hrd⟩ := h
    exact ⟨b, off, rfl, he.G b hl hb, Nat.lt_of_lt_of_le hl he.z, hrd.mono hb he.G he.z he.cG⟩
  case sl key off len cap => obtain ⟨n, hn, rfl⟩ := h; exact ⟨n, he.β _ _ hn, rfl⟩
  case clv f xss =>
    obtain ⟨ps, rfl, hp⟩ := h
    exact ⟨ps, rfl, hp.1, fun i xs v hx hv => (hp.2 i xs v hx hv).ext he⟩
  case clo f caps =>
    obtain ⟨ns, hns, rfl⟩ := h
    refine ⟨ns, ?_, rfl⟩
    rw [← hns]
    refine List.map_congr_left fun c hcm => ?_
    have hmem : E.β c ∈ ns.map some := by rw [← hns]; exact List.mem_map_of_mem hcm
    obtain ⟨m, _, hm⟩ := List.mem_map.1 hmem
    rw [he.β c m hm.symm, hm]
  case own key => exact ⟨he.σ _ _ h.1, h.2⟩
  case sub key wd lo len =>
    obtain ⟨a, cap, b, l, c, h1, h2⟩ := h
    exact ⟨a, cap, b, l, c, he.σ _ _ h1, h2⟩
  case epo key wd i o =>
    obtain ⟨n, l, c, h1, h2⟩ := h
    exact ⟨n, l, c, he.σ _ _ h1, h2⟩
theorem OneR.map {C C' E E' w w' g l v} (h : OneR C E w g l v) (hs : ∀ s v, s ∈ l → SV.rel C E w s v → SV.rel C' E' w' s v) : OneR C' E' w' g l v := by
  cases g with
  | true =>
    obtain ⟨vs, rfl, ha⟩ := h
    exact ⟨vs, rfl, ha.mono hs⟩
  | false =>
    match l, h with
    | [s], h => exact hs s v (by simp) h
theorem AV.rel_map {C C' E E' w w' x v} (h : AV.rel C E w x v) (hs : ∀ s v, SV.rel C E w s v → SV.rel C' E' w' s v) : AV.rel C' E' w' x v := by
  cases x with
  | one g l => exact OneR.map h fun s v _ => hs s v
  | tup l =>
    obtain ⟨vs, rfl, ha⟩ := h
    exact ⟨vs, rfl, ha.mono fun p u _ hp => OneR.map hp fun s v _ => hs s v⟩
theorem ofV_rel (C E w) (v : Value) (h : oneCell v = true) : SV.rel C E w (SV.ofV v) v := by
  cases v <;> simp_all [SV.ofV, SV.rel, Value.oneCell']
theorem AV_ofV_rel (C E w) (v : Value) {x} (h : AV.ofV v = some x) : AV.rel C E w x v := by
  cases v <;> simp only [AV.ofV, Option.some.injEq, reduceCtorEq] at h
  case agg cs =>
    split at h
    · rename_i hall
      cases h
      refine ⟨cs, rfl, ?_⟩
      have : cs.toList = cs.toList.map id := by simp
      conv => rhs; rw [this]
      exact AllR.map fun x hx => ofV_rel C E w x (List.all_eq_true.1 hall x hx)
    · cases h
  all_goals (subst h; simp [AV.rel, OneR, SV.ofV, SV.rel])
theorem Rel.eval {C B w0 E s a w} (h : Rel C B w0 E s a w) {x : Operand} {v} (hv : s.ρ x = some v) : AV.rel C E w v (a.eval x) := by
  cases x with
  | tmp t =>
    obtain ⟨b, hb, hr⟩ := h.slots.get hv
    have : a.tmps[t]? = some b := by simpa using hb
    simpa [Act.eval, this] using hr
  | const u => exact AV_ofV_rel C E w u hv
  | global g => cases hv
  | func f =>
    simp only [St.ρ, Option.some.injEq] at hv
    subst hv
    exact ⟨[], rfl, rfl⟩
theorem Rel.put {C B w0 E s a w} (h : Rel C B w0 E s a w) {v : AV} {u : Value} (hv : AV.rel C E w v u) (d : Option Nat) : Rel C B w0 E (s.put d v) (a.put d u) w := by
  cases d with
  | none => exact h
  | some d =>
    refine { h with slots := ?_ }
    simpa [St.put, Act.put] using h.slots.set d hv
theorem undef_rel (C E w) : AV.rel C E w undefA undef := rfl
theorem Rel.guard {C B w0 E s a w} (h : Rel C B w0 E s a w) {ops : Array Oper} {o : Oper} {t : Bool} (hg : s.guard ops o = some t) : Region.wanted o (yielded ops a.tmps) = t := by
  unfold St.guard at hg
  unfold Region.wanted
  split at hg
  · rename_i h0; rw [h0]; simpa using hg
  · rename_i j want h0
    rw [h0]
    simp only
    cases hd : (ops[j]?).bind (·.dst) with
    | none => simp [hd] at hg
    | some d =>
      simp only [hd, Option.bind_some] at hg
      cases hs : s.slots[d]? with
      | none => simp [hs] at hg
      | some x =>
        obtain ⟨u, hu, hr⟩ := h.slots.get hs
        have hu' : a.tmps[d]? = some u := by simpa using hu
        have hy : yielded ops a.tmps j = match u with | .bool b => some b | _ => none := by
          simp only [yielded, hd, Option.bind_some, hu']
          cases u <;> rfl
        rw [hy]
        rw [hs] at hg
        split at hg
        · rename_i b heq
          cases heq
          have : u = .bool b := hr
          subst this
          cases hg
          simp
        · rename_i heq
          cases heq
          have : u = undef := hr
          subst this
          cases hg
          cases want <;> rfl
        · cases hg
theorem szT_spec {P : Program} {t n} (h : szT P t = some n) (w : World) : (sizeOf t).run P w = .ok n w := by
  simp only [szT, Option.map_eq_some_iff] at h
  obtain ⟨i, hi, rfl⟩ := h
  simp [sizeOf, typeInfo, hi]
theorem aggT_spec {P : Program} {t b} (h : aggT P t = some b) (w : World) : (isAgg t).run P w = .ok b w := by
  unfold aggT at h
  split at h
  · rename_i hu; cases h; simp [isAgg, underlying, hu]
  · rename_i hu; cases h; simp [isAgg, underlying, hu]
  · rename_i d h1 h2 hu
    cases h
    simp only [isAgg, Sem.run_bind, run_underlying hu, Result.andThen_ok]
    cases d <;> simp_all
  · cases h
theorem partS_spec {P : Program} {C E w t l off x} {vs : Array Value} (h : partS P t l off = some x) (hr : AllR (SV.rel C E w) l vs.toList) (w' : World) :
    ∃ u, (part t vs off).run P w' = .ok u w' ∧ AV.rel C E w x u := by
  unfold partS at h
  split at h
  · rename_i n ha hn
    split at h
    · rename_i hle
      cases h
      refine ⟨_, by simp [part, aggT_spec ha, szT_spec hn]; rfl, ⟨_, rfl, ?_⟩⟩
      have := (hr.drop off).take n
      simp [cut, Array.toList_extract, List.extract_eq_take_drop] at *
      exact this
    · cases h
  · rename_i n ha hn
    split at h
    · rename_i v hv
      cases h
      obtain ⟨u, hu, hr'⟩ := hr.get hv
      have hu' : vs[off]? = some u := by simpa using hu
      exact ⟨u, by simp [part, aggT_spec ha, hu'], hr'⟩
    · cases h
  · cases h
end Go.Ev
namespace Go.Ev
open Go.RowKit
variable {P : Program} {C : Ctx} {E : Env} {w : World}
theorem okc_one {s : SV} {v : Value} (h : s.okc = true) (hr : SV.rel C E w s v) : oneCell v = true := by
  cases s <;> simp only [SV.okc, Bool.false_eq_true] at h
  case bool => cases hr; rfl
  case int => cases hr; rfl
  case ptr => obtain ⟨n, _, rfl⟩ := hr; rfl
  case val => cases hr; exact h
  case vec => obtain ⟨a, cap, rfl, _⟩ := hr; rfl
  case str => cases hr; rfl
  case epv => obtain ⟨b, off, rfl, _⟩ := hr; rfl
  case pvc => obtain ⟨b, off, u, rfl, _⟩ := hr; rfl
  case sl => obtain ⟨n, _, rfl⟩ := hr; rfl
  case clo => obtain ⟨ns, _, rfl⟩ := hr; rfl
  case clv => obtain ⟨ns, rfl, _⟩ := hr; rfl
  case own => obtain ⟨_, a, n, c, rfl⟩ := hr; rfl
  case sub => obtain ⟨a, cap, b, l, c, _, _, rfl, _⟩ := hr; rfl
  case epo => obtain ⟨n, l, c, _, _, rfl⟩ := hr; rfl
theorem cells_rel {x : AV} {v : Value} {l : List SV} (hx : x.cells? = some l) (hok : l.all SV.okc = true) (hr : AV.rel C E w x v) :
    AllR (SV.rel C E w) l v.cells.toList ∧ ∀ u ∈ v.cells.toList, oneCell u = true := by
  have key : ∀ vs : List Value, AllR (SV.rel C E w) l vs → ∀ u ∈ vs, oneCell u = true := by
    intro vs ha u hu
    obtain ⟨i, hi, rfl⟩ := List.mem_iff_getElem.1 hu
    have hl : i < l.length := ha.1 ▸ hi
    exact okc_one (List.all_eq_true.1 hok l[i] (List.getElem_mem _)) (ha.2 i l[i] vs[i] (by simp [hl]) (by simp [hi]))
  match x, hx with
  | .one true l', hx =>
    cases hx
    obtain ⟨vs, rfl, ha⟩ := hr
    exact ⟨ha, key _ ha⟩
  | .one false [s], hx =>
    cases hx
    have hr' : SV.rel C E w s v := hr
    have h1 := okc_one (by simpa using hok) hr'
    have hc : v.cells = #[v] := by cases v <;> simp_all [Value.cells, Value.oneCell']
    rw [hc]
    have ha : AllR (SV.rel C E w) [s] [v] := AllR.cons hr' AllR.nil
    exact ⟨ha, key _ ha⟩
theorem argsS_rel {B w0 s a} (h : Rel C B w0 E s a w) : ∀ {l : List Operand} {vs}, argsS s.ρ l = some vs → AllR (AV.rel C E w) vs (l.map a.eval)
  | [], vs, hv => by cases hv; exact AllR.nil
  | x :: r, vs, hv => by
    simp only [argsS] at hv
    split at hv
    · rename_i v l hx hr
      cases hv
      exact AllR.cons (h.eval hx) (argsS_rel h hr)
    · cases hv
def PartR (C : Ctx) (E : Env) (w : World) (p : Nat × AV) (q : Nat × Value) : Prop := p.1 = q.1 ∧ AV.rel C E w p.2 q.2
theorem partsS_rel {B w0 s a} (h : Rel C B w0 E s a w) : ∀ {l : List (Nat × Operand)} {vs}, partsS s.ρ l = some vs → AllR (PartR C E w) vs (l.map fun (i, x) => (i, a.eval x))
  | [], vs, hv => by cases hv; exact AllR.nil
  | (i, x) :: r, vs, hv => by
    simp only [partsS] at hv
    split at hv
    · rename_i v l hx hr
      cases hv
      exact AllR.cons ⟨rfl, h.eval hx⟩ (partsS_rel h hr)
    · cases hv
theorem foldl_set_list : ∀ (vs : List Value) (off : Nat) (k : Nat) (cells : Array Value), off + k + vs.length ≤ cells.size →
    ((vs.zipIdx k).foldl (fun cs (p : Value × Nat) => cs.setIfInBounds (off + p.2) p.1) cells).toList = cells.toList.take (off + k) ++ vs ++ cells.toList.drop (off + k + vs.length)
  | [], off, k, cells, h => by simp
  | v :: vs, off, k, cells, h => by
    simp only [List.zipIdx_cons, List.foldl_cons]
    rw [foldl_set_list vs off (k + 1) _ (by simp at h ⊢; omega)]
    simp only [Array.toList_setIfInBounds]
    have e := list_seg_step cells.toList (off + k) v vs (by simp at h ⊢; omega)
    simpa [Nat.add_assoc, Nat.add_comm, Nat.add_left_comm] using e
theorem fillS_spec {place : Nat → Option (Nat × Nat)} : ∀ {ps : List (Nat × AV)} {qs : List (Nat × Value)} {l l' : List SV} {cs : Array Value},
    fillS place l ps = some l' → AllR (PartR C E w) ps qs → AllR (SV.rel C E w) l cs.toList → (∀ v ∈ cs.toList, oneCell v = true) →
    ∃ cs', Instr.fill place cs qs = some cs' ∧ AllR (SV.rel C E w) l' cs'.toList ∧ (∀ v ∈ cs'.toList, oneCell v = true)
  | [], qs, l, l', cs, h, hp, hc, h1 => by
    cases h
    have := hp.unnil; subst this
    exact ⟨cs, rfl, hc, h1⟩
  | (i, v) :: ps, qs, l, l', cs, h, hp, hc, h1 => by
    obtain ⟨⟨j, u⟩, qs', rfl, ⟨hij, hu⟩, hp'⟩ := hp.uncons
    simp only at hij hu
    subst hij
    simp only [fillS] at h
    split at h
    · rename_i off size sc hpl hcl
      split at h
      · rename_i hcond
        obtain ⟨hsz, hle, hok⟩ := hcond
        obtain ⟨hur, hu1⟩ := cells_rel hcl hok hu
        have hus : u.cells.size = size := by
          have := hur.1
          simp at this
          omega
        have hcs : cs.size = l.length := by have := hc.1; simp at this; omega
        have hfold : (u.cells.zipIdx.foldl (fun cs (p : Value × Nat) => cs.setIfInBounds (off + p.2) p.1) cs).toList = cs.toList.take off ++ u.cells.toList ++ cs.toList.drop (off + u.cells.toList.length) := by
          have := foldl_set_list u.cells.toList off 0 cs (by simp; omega)
          rw [← Array.foldl_toList]
          simpa [Array.toList_zipIdx] using this
        have hl2 : AllR (SV.rel C E w) (splice l off sc) (u.cells.zipIdx.foldl (fun cs (p : Value × Nat) => cs.setIfInBounds (off + p.2) p.1) cs).toList := by
          rw [hfold]
          have e : u.cells.toList.length = sc.length := by simp [hur.1]
          rw [e]
          exact ((hc.take off).app hur).app (hc.drop _)
        have h12 : ∀ v ∈ (u.cells.zipIdx.foldl (fun cs (p : Value × Nat) => cs.setIfInBounds (off + p.2) p.1) cs).toList, oneCell v = true := by
          rw [hfold]
          intro v hv
          simp only [List.mem_append] at hv
          rcases hv with (hv | hv) | hv
          · exact h1 v (List.mem_of_mem_take hv)
          · exact hu1 v hv
          · exact h1 v (List.mem_of_mem_drop hv)
        obtain ⟨cs', hf, hr'⟩ := fillS_spec h hp' hl2 h12
        refine ⟨cs', ?_, hr'⟩
        simp only [Instr.fill, hpl, hus]
        rw [if_neg (by simp; omega)]
        exact hf
      · cases h
    · cases h
theorem zeroS_spec {t : TypeId} {l} (h : zeroS P t = some l) (hok : l.all SV.okc = true) (w' : World) : ∃ v : Value, (zeroValue t).run P w' = .ok v w' ∧ AllR (SV.rel C E w) l v.cells.toList ∧ ∀ u ∈ v.cells.toList, oneCell u = true := by
  unfold zeroS at h
  split at h
  · rename_i v hv
    simp only [Option.bind_eq_some_iff] at h hv
    obtain ⟨i, hi, hz⟩ := hv
    obtain ⟨x, hx, hc⟩ := h
    refine ⟨v, by simp [zeroValue, typeInfo, hi, hz], ?_⟩
    exact cells_rel hc hok (AV_ofV_rel C E w v hx)
  · cases h
theorem intOp_spec {op : BinOp} {k x y s} (h : intOp op k x y = some s) (hq : op = .quo ∨ op = .rem → y ≠ 0) (w' : World) (hs : op ≠ .shl ∧ op ≠ .shr) (t : TypeId) :
    ∃ v, (binOp op t (.int k x) (.int k y)).run P w' = .ok v w' ∧ SV.rel C E w s v := by
  cases op <;> simp only [intOp, Option.some.injEq, reduceCtorEq] at h <;> (try subst h) <;> (try (exfalso; simp at hs; done)) <;>
    first
      | exact ⟨_, by simp [binOp, Op.intArith]; rfl, rfl⟩
      | exact ⟨_, by simp only [binOp, Op.intDiv]; rw [if_neg (not_not_intro rfl), if_neg (hq (by simp))]; rfl, rfl⟩
      | exact ⟨_, by simp [binOp]; rfl, rfl⟩
      | exact ⟨_, by simp [binOp, Op.intCmp]; rfl, rfl⟩
theorem intOp_noShift {op : BinOp} {k x y s} (h : intOp op k x y = some s) : op ≠ .shl ∧ op ≠ .shr := by
  constructor <;> (rintro rfl; cases h)
theorem eqFieldsS_spec {d : Nat} (ih : ∀ {t x y r u v}, eqS P d t x y = some r → AV.rel C E w x u → AV.rel C E w y v → ∀ e w', (Op.equalIn (d + e) t u v).run P w' = .ok r w')
    {xs ys : List SV} {us vs : Array Value} (hx : AllR (SV.rel C E w) xs us.toList) (hy : AllR (SV.rel C E w) ys vs.toList) (e : Nat) (w' : World) :
    ∀ {fs : List Field} {r}, eqFieldsS P (eqS P d) xs ys fs = some r → (Op.eqFields (d + e) us vs fs).run P w' = .ok r w'
  | [], r, h => by cases h; rfl
  | f :: fs, r, h => by
    simp only [eqFieldsS] at h
    simp only [Op.eqFields]
    split at h
    · rename_i hn
      rw [if_pos hn]
      split at h
      · rename_i a b ha hb
        split at h
        · rename_i r1 r2 h1 h2
          cases h
          obtain ⟨u, hu, hur⟩ := partS_spec (C := C) (E := E) (w := w) ha hx w'
          obtain ⟨v, hv, hvr⟩ := partS_spec (C := C) (E := E) (w := w) hb hy w'
          simp only [Sem.run_bind, hu, hv, Result.andThen_ok, ih h1 hur hvr e w']
          cases r1
          · simp
          · simpa using eqFieldsS_spec ih hx hy e w' h2
        · cases h
      · cases h
    · rename_i hn
      rw [if_neg hn]
      exact eqFieldsS_spec ih hx hy e w' h
theorem eqS_spec : ∀ {d : Nat} {t x y r u v}, eqS P d t x y = some r → AV.rel C E w x u → AV.rel C E w y v → ∀ e w', (Op.equalIn (d + e) t u v).run P w' = .ok r w'
  | 0, t, x, y, r, u, v, h, _, _, _, _ => by cases h
  | d + 1, t, x, y, r, u, v, h, hu, hv, e, w' => by
    have hd : d + 1 + e = (d + e) + 1 := by omega
    rw [hd]
    simp only [eqS] at h
    split at h
    · rename_i ht
      cases hu; cases hv; cases h
      exact run_equalIn_bool' w' _ _ _ _ ht
    · rename_i ht
      cases hu; cases hv
      split at h
      · rename_i hk; subst hk; cases h; exact run_equalIn_int w' _ _ _ _ _ _ ht
      · cases h
    · rename_i fs _ _ ht
      split at h
      · cases h
      · rename_i hst
        obtain ⟨us, rfl, hus⟩ := hu
        obtain ⟨vs, rfl, hvs⟩ := hv
        have hf : P.fieldsOf t = fs := by simp [Program.fieldsOf, ht]
        rw [run_equalIn_struct w' _ _ _ _ (by rw [hf]; exact ht) (by simpa using hst), hf]
        exact eqFieldsS_spec (fun h1 h2 h3 => eqS_spec h1 h2 h3) hus hvs e w' h
    · cases h
theorem bytes?_rel {s : SV} {l : List UInt8} {v : Value} (h : s.bytes? = some l) (hv : SV.rel C E w s v) : v = .string ⟨l.toArray⟩ := by
  unfold SV.bytes? at h
  split at h
  · cases h; exact hv
  · cases h; exact hv
  · cases h
theorem strS_spec {op : BinOp} {t : TypeId} {a b : SV} {z : AV} {u v : Value} {ox oy : Operand} (h : strS op a b = some z) (hu : SV.rel C E w a u) (hv : SV.rel C E w b v) (hr : op = .add → strRoom a b = true) (w' : World) :
    ∃ r, (do eqGuard op t ox oy u v; binOp op t u v : Sem Value).run P w' = .ok r w' ∧ AV.rel C E w z r := by
  unfold strS at h
  split at h
  · rename_i x y hx hy
    have hu' := bytes?_rel hx hu
    have hv' := bytes?_rel hy hv
    subst hu' hv'
    simp only [Option.map_eq_some_iff] at h
    obtain ⟨s, hs, rfl⟩ := h
    unfold strOp at hs
    split at hs
    · cases hs
      have hroom : x.length + y.length ≤ 9223372036854775807 := by
        have := hr rfl
        simpa [strRoom, hx, hy] using this
      refine ⟨.string ⟨(x ++ y).toArray⟩, ?_, rfl⟩
      have hsz : ¬ (((ByteArray.mk x.toArray).size + (ByteArray.mk y.toArray).size : Nat) : Int) > IntKind.i64.max := by
        have e : IntKind.i64.max = 9223372036854775807 := by decide
        rw [e]
        simp only [ByteArray.size, List.size_toArray]
        omega
      simp only [Sem.run_bind, eqGuard_at_string, Sem.run_pure, Result.andThen_ok, binOp, Op.stringOp]
      rw [if_neg hsz]
      have e : (ByteArray.mk x.toArray) ++ (ByteArray.mk y.toArray) = ByteArray.mk (x ++ y).toArray := by
        apply Go.WideShapes.bytes_inj
        simp
      rw [e]
      rfl
    · cases hs
      exact ⟨.bool (x == y), by simp [eqGuard_at_string, binOp, Op.stringOp], rfl⟩
    · cases hs
      exact ⟨.bool (!(x == y)), by simp [eqGuard_at_string, binOp, Op.stringOp], rfl⟩
    · cases hs
  · cases h
theorem binS_spec {op : BinOp} {t : TypeId} {x y z : AV} {u v : Value} {ox oy : Operand} (h : binS P op t x y = some z) (hu : AV.rel C E w x u) (hv : AV.rel C E w y v)
    (hq : op = .quo ∨ op = .rem → ∀ k b, y = .one false [.int k b] → b ≠ 0) (hsh : op = .shl ∨ op = .shr → ∀ k b, y = .one false [.int k b] → 0 ≤ b)
    (hst : op = .add → ∀ a b, x = .one false [a] → y = .one false [b] → (∃ l, a = .str l) ∨ (∃ v, a = .val v) → strRoom a b = true) (w' : World) :
    ∃ r, (do eqGuard op t ox oy u v; binOp op t u v : Sem Value).run P w' = .ok r w' ∧ AV.rel C E w z r := by
  unfold binS at h
  split at h
  · cases hu; cases hv; cases h
    rename_i k a k' b
    have hb := hsh (.inl rfl) k' b rfl
    refine ⟨.int k (shlI k a b), ?_, rfl⟩
    simp [eqGuard, binOp, Op.shift, shlI, Int.not_lt.2 hb]
  · cases hu; cases hv; cases h
    rename_i k a k' b
    have hb := hsh (.inr rfl) k' b rfl
    refine ⟨.int k (shrI k a b), ?_, rfl⟩
    simp [eqGuard, binOp, Op.shift, shrI, Int.not_lt.2 hb]
  · cases hu; cases hv
    rename_i k a k' b _ _
    split at h
    · rename_i hk; subst hk
      simp only [Option.map_eq_some_iff] at h
      obtain ⟨s, hs, rfl⟩ := h
      obtain ⟨r, hr, hrr⟩ := intOp_spec (P := P) (C := C) (E := E) (w := w) hs (fun e => hq e k b rfl) w' (intOp_noShift hs) t
      refine ⟨r, ?_, hrr⟩
      simp only [Sem.run_bind, eqGuard_at_int, Sem.run_pure, Result.andThen_ok]
      exact hr
    · cases h
  · cases hu; cases hv
    split at h
    · rename_i ht
      cases h
      refine ⟨.bool _, ?_, rfl⟩
      simp only [Sem.run_bind, eqGuard_at_bool, Sem.run_pure, Result.andThen_ok, binOp, Op.equal]
      rw [show Op.maxDepth = 9999 + 1 from rfl, run_equalIn_bool' w' _ _ _ _ ht]
      rfl
    · cases h
  · cases hu; cases hv
    split at h
    · rename_i ht
      cases h
      refine ⟨.bool _, ?_, rfl⟩
      simp only [Sem.run_bind, eqGuard_at_bool, Sem.run_pure, Result.andThen_ok, binOp, Op.equal]
      rw [show Op.maxDepth = 9999 + 1 from rfl, run_equalIn_bool' w' _ _ _ _ ht]
      rfl
    · cases h
  · split at h
    · cases h
    · rename_i hg
      simp only [Option.map_eq_some_iff] at h
      obtain ⟨b, hb, rfl⟩ := h
      have he := eqS_spec (w := w) hb hu hv 9994 w'
      obtain ⟨us, rfl, hus⟩ := hu
      obtain ⟨vs, rfl, hvs⟩ := hv
      refine ⟨.bool b, ?_, rfl⟩
      have hg' : P.eqGuardType P.depth t = false := by simpa using hg
      simp [eqGuard, hg', binOp, Op.equal, Op.maxDepth] at he ⊢
      rw [he]; rfl
  · split at h
    · cases h
    · rename_i hg
      simp only [Option.map_eq_some_iff] at h
      obtain ⟨b, hb, rfl⟩ := h
      have he := eqS_spec (w := w) hb hu hv 9994 w'
      obtain ⟨us, rfl, hus⟩ := hu
      obtain ⟨vs, rfl, hvs⟩ := hv
      refine ⟨.bool (!b), ?_, rfl⟩
      have hg' : P.eqGuardType P.depth t = false := by simpa using hg
      simp [eqGuard, hg', binOp, Op.equal, Op.maxDepth] at he ⊢
      rw [he]; rfl
  · exact strS_spec h hu hv (fun e => hst e _ _ rfl rfl (.inl ⟨_, rfl⟩)) w'
  · exact strS_spec h hu hv (fun e => hst e _ _ rfl rfl (.inr ⟨_, rfl⟩)) w'
  · cases h
theorem unS_spec {op : UnOp} {x z : AV} {u : Value} (h : unS op x = some z) (hu : AV.rel C E w x u) (w' : World) :
    ∃ r, (Op.unary op u).run P w' = .ok r w' ∧ AV.rel C E w z r := by
  unfold unS at h
  split at h
  · cases hu; cases h; exact ⟨_, rfl, rfl⟩
  · cases hu; cases h; exact ⟨_, rfl, rfl⟩
  · cases hu; cases h; exact ⟨_, rfl, rfl⟩
  · cases h
theorem convS_spec {s d : TypeId} {x z : AV} {u : Value} (h : convS P s d x = some z) (hu : AV.rel C E w x u) (w' : World) :
    ∃ r, (convert s d u).run P w' = .ok r w' ∧ AV.rel C E w z r := by
  unfold convS at h
  split at h
  · rename_i ds k _ n hs hd
    cases hu; cases h
    refine ⟨.int k (k.wrap n), ?_, rfl⟩
    simp only [convert, Sem.run_bind, run_underlying hs, run_underlying hd, Result.andThen_ok]
    cases ds <;> simp [Conv.intToInt]
  · cases h
end Go.Ev
namespace Go.Ev
open Go.RowKit
variable {P : Program} {C : Ctx} {B : Nat} {w0 : World} {E : Env} {s : St} {a : Act} {w : World}
theorem placesS_spec : ∀ {fs : List Field} {l} (w' : World), placesS P fs = some l → (fs.mapM fun f => do pure (f.offset, ← sizeOf f.type) : Sem (List (Nat × Nat))).run P w' = .ok l w'
  | [], l, w', h => by cases h; rfl
  | f :: r, l, w', h => by
    simp only [placesS] at h
    split at h
    · rename_i n l' hn hl
      cases h
      have ih := placesS_spec w' hl
      simp only [List.mapM_cons, Sem.run_bind, szT_spec hn, Result.andThen_ok, Sem.run_pure, ih]
    · cases h
theorem mapM_arr {fs : Array Field} {l} (w' : World) (h : placesS P fs.toList = some l) : (fs.mapM fun f => do pure (f.offset, ← sizeOf f.type) : Sem (Array (Nat × Nat))).run P w' = .ok l.toArray w' := by
  rw [Array.mapM_eq_mapM_toList]
  simp only [Sem.run_map, placesS_spec w' h, Result.andThen_ok]
theorem buildS_spec {t : TypeId} {ps : List (Nat × AV)} {qs : Array (Nat × Value)} {x} (h : buildS P t ps = some x) (hp : AllR (PartR C E w) ps qs.toList) (w' : World) (hz : ∀ l, zeroS P t = some l → l.all SV.okc = true) :
    ∃ v, (Instr.build t qs).run P w' = .ok v w' ∧ AV.rel C E w x v := by
  unfold buildS at h
  split at h
  · rename_i z fs hz0 ht
    split at h
    · rename_i pl hpl
      simp only [Option.map_eq_some_iff] at h
      obtain ⟨l, hl, rfl⟩ := h
      obtain ⟨zv, hzv, hzr, hz1⟩ := zeroS_spec (C := C) (E := E) (w := w) hz0 (hz _ hz0) w'
      obtain ⟨cs, hcs, hcr, _⟩ := fillS_spec hl hp hzr hz1
      refine ⟨.agg cs, ?_, ⟨cs, rfl, hcr⟩⟩
      simp only [Instr.build, Sem.run_bind, hzv, Result.andThen_ok, run_underlying ht, mapM_arr w' hpl]
      have e : (fun i : Nat => (pl.toArray)[i]?) = fun i : Nat => pl[i]? := by funext i; simp
      simp only [e, hcs]
      rfl
    · cases h
  · rename_i z n e hz0 ht
    split at h
    · rename_i sz hsz
      simp only [Option.map_eq_some_iff] at h
      obtain ⟨l, hl, rfl⟩ := h
      obtain ⟨zv, hzv, hzr, hz1⟩ := zeroS_spec (C := C) (E := E) (w := w) hz0 (hz _ hz0) w'
      obtain ⟨cs, hcs, hcr, _⟩ := fillS_spec hl hp hzr hz1
      refine ⟨.agg cs, ?_, ⟨cs, rfl, hcr⟩⟩
      simp only [Instr.build, Sem.run_bind, hzv, Result.andThen_ok, run_underlying ht, szT_spec hsz, hcs]
      rfl
    · cases h
  · cases h
theorem foldS_spec {f : AV → AV → Option AV} {g : Value → Value → Sem Value} (hf : ∀ x y z u v, f x y = some z → AV.rel C E w x u → AV.rel C E w y v → ∃ r, (g u v).run P w = .ok r w ∧ AV.rel C E w z r) :
    ∀ {l : List AV} {us : List Value} {x z : AV} {u : Value}, foldS f x l = some z → AllR (AV.rel C E w) l us → AV.rel C E w x u → ∃ r, (us.foldlM g u).run P w = .ok r w ∧ AV.rel C E w z r
  | [], us, x, z, u, h, hl, hu => by
    cases h
    have := hl.unnil; subst this
    exact ⟨u, rfl, hu⟩
  | y :: l, us, x, z, u, h, hl, hu => by
    obtain ⟨v, us', rfl, hv, hl'⟩ := hl.uncons
    simp only [foldS] at h
    split at h
    · rename_i b hb
      obtain ⟨r, hr, hrr⟩ := hf _ _ _ _ _ hb hu hv
      obtain ⟨r', hr', hrr'⟩ := foldS_spec hf h hl' hrr
      exact ⟨r', by simp [List.foldlM_cons, hr, hr'], hrr'⟩
    · cases h
theorem maxS_spec {x y z : AV} {u v : Value} (h : maxS x y = some z) (hu : AV.rel C E w x u) (hv : AV.rel C E w y v) : ∃ r, (Builtin.max2 u v).run P w = .ok r w ∧ AV.rel C E w z r := by
  unfold maxS at h
  split at h
  · cases hu; cases hv; cases h; exact ⟨_, rfl, rfl⟩
  · cases h
theorem minS_spec {x y z : AV} {u v : Value} (h : minS x y = some z) (hu : AV.rel C E w x u) (hv : AV.rel C E w y v) : ∃ r, (Builtin.min2 u v).run P w = .ok r w ∧ AV.rel C E w z r := by
  unfold minS at h
  split at h
  · cases hu; cases hv; cases h; exact ⟨_, rfl, rfl⟩
  · cases h
theorem fieldT_spec {t f} {fd : Field} (h : fieldT P t f = some fd) : ∃ fs, P.underlying t = some (.struct fs) ∧ fs[f]? = some fd := by
  unfold fieldT at h
  split at h
  · rename_i fs hu; exact ⟨fs, hu, h⟩
  · cases h
def ZeroOK (P : Program) : Prop := ∀ t l, zeroS P t = some l → l.all SV.okc = true
theorem zeroOK : ZeroOK P := by
  intro t l h
  unfold zeroS at h
  split at h
  · rename_i v hv
    simp only [Option.bind_eq_some_iff] at h
    obtain ⟨x, hx, hc⟩ := h
    cases v <;> simp only [AV.ofV, Option.some.injEq, reduceCtorEq] at hx
    case agg cs =>
      split at hx
      · rename_i hall
        cases hx
        cases hc
        rw [List.all_map]
        refine List.all_eq_true.2 fun y hy => ?_
        have := List.all_eq_true.1 hall y hy
        cases y <;> simp_all [SV.ofV, SV.okc, Value.oneCell']
      · cases hx
    all_goals (subst hx; cases hc; simp [SV.ofV, SV.okc, Value.oneCell'])
  · cases h
theorem caps_rel {l : List AV} {us : List Value} {ks : List Nat} (hm : l.mapM (fun | AV.one false [.ptr k 0] => some k | _ => none) = some ks) (hl : AllR (AV.rel C E w) l us) :
    ∃ ns : List Nat, ks.map E.β = ns.map some ∧ us = ns.map fun n => Value.pointer (some ⟨n, 0, none⟩) := by
  induction l generalizing us ks with
  | nil =>
    have := hl.unnil; subst this
    simp at hm; subst hm
    exact ⟨[], rfl, rfl⟩
  | cons x l ih =>
    obtain ⟨u, us', rfl, hu, hl'⟩ := hl.uncons
    simp only [List.mapM_cons, Option.bind_eq_bind, Option.bind_eq_some_iff, Option.pure_def, Option.some.injEq] at hm
    obtain ⟨k, hk, ks', hks, rfl⟩ := hm
    obtain ⟨ns, hns, rfl⟩ := ih hks hl'
    split at hk
    · cases hk
      obtain ⟨n, hn, rfl⟩ := hu
      exact ⟨n :: ns, by simp [hn, hns], by simp⟩
    · cases hk
theorem effP_sound (h : Rel C B w0 E s a w) {o : Oper} {v : AV} (he : effP P o s.ρ = some v) {rd : Nat → Option Blk} (ha : asr P C o s.ρ rd = true) :
    ∃ u, (execOp a.eval o).run P w = .ok (.value u) w ∧ AV.rel C E w v u := by
  obtain ⟨dst, op, type, pos, after, guard⟩ := o
  unfold effP at he
  simp only at he
  split at he
  · exact ⟨_, rfl, h.eval he⟩
  · exact ⟨_, rfl, h.eval he⟩
  · -- pick
    rename_i c x y
    split at he
    · rename_i t hc
      have hc' : a.eval c = .bool t := h.eval hc
      refine ⟨if t then a.eval x else a.eval y, by simp [execOp, asBool, hc'], ?_⟩
      cases t
      · exact h.eval he
      · exact h.eval he
    · cases he
  · -- nilCheck
    rename_i x
    split at he
    · rename_i k f hx
      cases he
      obtain ⟨n, hn, hx'⟩ := h.eval hx
      exact ⟨_, by simp [execOp, hx'], ⟨n, hn, rfl⟩⟩
    · rename_i fr xs i o hx
      cases he
      obtain ⟨b, off, hx', hb, hl, hr⟩ := h.eval hx
      exact ⟨_, by simp [execOp, hx'], ⟨b, off, rfl, hb, hl, hr⟩⟩
    · rename_i k wd i o hx
      cases he
      obtain ⟨n, l, c, h1, h2, hx'⟩ := h.eval hx
      exact ⟨_, by simp [execOp, hx'], ⟨n, l, c, h1, h2, rfl⟩⟩
    · cases he
  · -- binOp
    rename_i op t x y _
    split at he
    · rename_i p q hx hy
      obtain ⟨r, hr, hrr⟩ := binS_spec (P := P) (ox := x) (oy := y) he (h.eval hx) (h.eval hy)
        (fun hop k b hb => by rcases hop with rfl | rfl <;> (subst hb; simpa [asr, hy] using ha))
        (fun hop k b hb => by rcases hop with rfl | rfl <;> (subst hb; simpa [asr, hy] using ha))
        (fun hop a b hxa hyb hs => by subst hop hxa hyb; rcases hs with ⟨l, rfl⟩ | ⟨l, rfl⟩ <;> simpa [asr, hx, hy] using ha) w
      refine ⟨r, ?_, hrr⟩
      simp only [execOp]
      rw [Sem.run_bind, hr]; rfl
    · cases he
  · -- unOp
    rename_i op t x
    simp only [Option.bind_eq_some_iff] at he
    obtain ⟨p, hx, he⟩ := he
    obtain ⟨r, hr, hrr⟩ := unS_spec (P := P) he (h.eval hx) w
    exact ⟨r, by simp [execOp, hr], hrr⟩
  · -- convert
    rename_i sr d x
    simp only [Option.bind_eq_some_iff] at he
    obtain ⟨p, hx, he⟩ := he
    obtain ⟨r, hr, hrr⟩ := convS_spec (P := P) he (h.eval hx) w
    exact ⟨r, by simp [execOp, hr], hrr⟩
  · -- build
    rename_i t parts
    simp only [Option.bind_eq_some_iff] at he
    obtain ⟨ps, hps, he⟩ := he
    obtain ⟨r, hr, hrr⟩ := buildS_spec (P := P) (qs := parts.map fun (i, x) => (i, a.eval x)) he (by simpa using partsS_rel h hps) w (zeroOK t)
    exact ⟨r, by simp [execOp, hr], hrr⟩
  · -- fieldAddr
    rename_i t x f
    split at he
    · rename_i k off fd hx hf
      split at he
      · rename_i n hsz
        cases he
        obtain ⟨m, hm, hx'⟩ := h.eval hx
        obtain ⟨fs, hu, hfs⟩ := fieldT_spec hf
        refine ⟨.pointer (some ⟨m, off + fd.offset, none⟩), ?_, ⟨m, hm, rfl⟩⟩
        simp [execOp, Instr.fieldAt, run_underlying hu, hfs, Instr.sureAddr, hx', fieldPlace, szT_spec hsz, Addr.add_lit]
      · cases he
    · rename_i fr xs i off fd hx hf
      split at he
      · rename_i n hsz
        cases he
        obtain ⟨b, ob, hx', hb, hl, hr⟩ := h.eval hx
        obtain ⟨fs, hu, hfs⟩ := fieldT_spec hf
        refine ⟨.pointer (some ⟨b, ob + (off + fd.offset), none⟩), ?_, ⟨b, ob, rfl, hb, hl, hr⟩⟩
        simp [execOp, Instr.fieldAt, run_underlying hu, hfs, Instr.sureAddr, hx', fieldPlace, szT_spec hsz, Addr.add_lit, Nat.add_assoc]
      · cases he
    · rename_i k wd i off fd hx hf
      split at he
      · rename_i n hsz
        cases he
        obtain ⟨m, l, c, h1, h2, hx'⟩ := h.eval hx
        obtain ⟨fs, hu, hfs⟩ := fieldT_spec hf
        refine ⟨.pointer (some ⟨m, i * wd + (off + fd.offset), none⟩), ?_, ⟨m, l, c, h1, h2, rfl⟩⟩
        simp [execOp, Instr.fieldAt, run_underlying hu, hfs, Instr.sureAddr, hx', fieldPlace, szT_spec hsz, Addr.add_lit, Nat.add_assoc]
      · cases he
    · cases he
  · -- field
    rename_i t x f
    split at he
    · rename_i l fd hx hf
      obtain ⟨vs, hx', hvs⟩ := h.eval hx
      obtain ⟨fs, hu, hfs⟩ := fieldT_spec hf
      obtain ⟨r, hr, hrr⟩ := partS_spec he hvs w
      refine ⟨r, ?_, hrr⟩
      simp [execOp, Instr.field, run_underlying hu, hfs, hx', asAgg, hr]
    · cases he
  · -- extract
    rename_i x i
    split at he
    · rename_i l hx
      split at he
      · rename_i g c hl
        cases he
        obtain ⟨vs, hx', hvs⟩ := h.eval hx
        obtain ⟨u, hu, hur⟩ := hvs.get hl
        have hu' : vs[i]? = some u := by simpa using hu
        exact ⟨u, by simp [execOp, Instr.extract, hx', hu'], hur⟩
      · cases he
    · cases he
  · -- makeFunc
    rename_i f first captured
    split at he
    · rename_i hf0
      split at he
      · rename_i l hl
        split at he
        · rename_i ks hks
          cases he
          obtain ⟨ns, hns, hus⟩ := caps_rel hks (argsS_rel h hl)
          refine ⟨_, by simp [execOp, Instr.makeFunc]; rfl, ⟨ns, hns, ?_⟩⟩
          have h1 : first = #[] := Array.eq_empty_of_size_eq_zero hf0
          have h2 : captured.map a.eval = (ns.map fun n => Value.pointer (some ⟨n, 0, none⟩)).toArray := by
            apply Array.ext'
            simpa using hus
          rw [h1, h2]; simp
        · cases he
      · cases he
    · cases he
  · -- index
    rename_i t x i
    split at he
    · rename_i len e l k n hu hx hi
      split at he
      · rename_i sz hsz
        obtain ⟨vs, hx', hvs⟩ := h.eval hx
        have hi' : a.eval i = .int k n := h.eval hi
        obtain ⟨r, hr, hrr⟩ := partS_spec he hvs w
        have hb : 0 ≤ n ∧ n < len := by simpa [asr, hu, hx, hi] using ha
        refine ⟨r, ?_, hrr⟩
        simp [execOp, Instr.index, run_underlying hu, hx', hi', asIntOf, hb, szT_spec hsz, hr]
      · cases he
    · rename_i s k n hu hx hi
      cases he
      have hx' : a.eval x = .string s := h.eval hx
      have hi' : a.eval i = .int k n := h.eval hi
      have hb : 0 ≤ n ∧ n < (s.size : Int) := by simpa [asr, hu, hx, hi] using ha
      have hlt : n.toNat < s.size := by omega
      refine ⟨.int .u8 (strAt s n), ?_, rfl⟩
      have hg : s[n.toNat]? = some (s[n.toNat]'hlt) := getElem?_pos s n.toNat hlt
      have hs : strAt s n = ((s[n.toNat]'hlt).toNat : Int) := by
        unfold strAt
        have : n.toNat < s.data.size := hlt
        rw [show s.data.getD n.toNat 0 = s.data[n.toNat] from by simp only [Array.getD]; rw [dif_pos this]; rfl]
        rfl
      simp [execOp, Instr.index, run_underlying hu, hx', hi', asIntOf, hb.1, hg, hs]
    · rename_i l k n hu hx hi
      cases he
      have hx' : a.eval x = .string ⟨l.toArray⟩ := h.eval hx
      have hi' : a.eval i = .int k n := h.eval hi
      have hb : 0 ≤ n ∧ n < (l.length : Int) := by simpa [asr, hu, hx, hi] using ha
      have hlt : n.toNat < l.length := by omega
      have hlt' : n.toNat < (ByteArray.mk l.toArray).size := by simpa [ByteArray.size] using hlt
      refine ⟨.int .u8 ((l.getD n.toNat 0).toNat : Int), ?_, rfl⟩
      have hg : (ByteArray.mk l.toArray)[n.toNat]? = some ((ByteArray.mk l.toArray)[n.toNat]'hlt') := getElem?_pos _ n.toNat hlt'
      have hs : (l.getD n.toNat 0) = (ByteArray.mk l.toArray)[n.toNat]'hlt' := by
        rw [List.getD_eq_getElem?_getD, List.getElem?_eq_getElem hlt]
        rfl
      simp only [execOp, Instr.index, run_underlying hu, hx', hi', asIntOf, hb.1, hg, hs, Sem.run_bind, Sem.run_pure, Result.andThen_ok]
      simp
    · cases he
  · -- max
    rename_i args ts
    split at he
    · rename_i x r hl
      obtain ⟨u, us, hus, hu, hr⟩ := (argsS_rel h hl).uncons
      obtain ⟨z, hz, hzr⟩ := foldS_spec (P := P) (fun _ _ _ _ _ => maxS_spec) he hr hu
      refine ⟨z, ?_, hzr⟩
      have e : (args.map a.eval).toList = u :: us := by simpa using hus
      simp [execOp, resolve, invoke, builtin, Builtin.max_]
      rw [← Array.toList_map, e]
      simp [hz]
    · cases he
  · -- min
    rename_i args ts
    split at he
    · rename_i x r hl
      obtain ⟨u, us, hus, hu, hr⟩ := (argsS_rel h hl).uncons
      obtain ⟨z, hz, hzr⟩ := foldS_spec (P := P) (fun _ _ _ _ _ => minS_spec) he hr hu
      refine ⟨z, ?_, hzr⟩
      have e : (args.map a.eval).toList = u :: us := by simpa using hus
      simp [execOp, resolve, invoke, builtin, Builtin.min_]
      rw [← Array.toList_map, e]
      simp [hz]
    · cases he
  · cases he
end Go.Ev
namespace Go.Ev
open Go.RowKit
def callable (P : Program) (f : FuncId) : Prop := ∃ fn, P.funcs[f]? = some fn ∧ (fn.name == "runtime.NumGoroutine") = false ∧ fn.body.isNone = false
def SumOK (P : Program) (C : Ctx) (f : FuncId) (first caps : Array Value) (sm : Summ) : Prop :=
  ∀ (E : Env) (w : World) (args : List AV) (vs : Array Value) (rd : Nat → Option Blk) (r : AV), sm.pre args rd = true → sm.fn args rd = some r → AllR (AV.rel C E w) args vs.toList →
    (∀ k b, rd k = some b → BlkR C E w k b) → (∀ n, w.heap.size ≤ n → E.F n) → (∀ n, E.A n → n < w.heap.size) →
    Calls P f (first ++ vs ++ caps) w fun e w' => ∃ v, e = .returned v ∧ AV.rel C E w' r v ∧ Below w.heap.size w w'
def ExtF (P : Program) (f : FuncId) (sm : Summ) : Prop :=
  ∀ (C : Ctx) (E : Env) (w : World) (args : List AV) (vs : Array Value) (rd : Nat → Option Blk) (r : AV), sm.pre args rd = true → sm.fn args rd = some r → AllR (AV.rel C E w) args vs.toList → (∀ k b, rd k = some b → BlkR C E w k b) →
    ∃ v, (callFunc f vs).run P w = .ok (.value v) w ∧ AV.rel C E w r v
def WSumOK (P : Program) (C : Ctx) (f : FuncId) (sm : WSumm) : Prop :=
  ∀ (B : Nat) (w0 : World) (E : Env) (s : St) (a : Act) (w : World) (al : Nat → Bool) (args : List AV) (vs : Array Value) (r : AV) (ch : List (Nat × Option Blk)) (key : Nat), sm.pre args (s.rd al) = true → sm.fn args (s.rd al) key = some (r, ch) → s.heap[key]? = some none →
    (ch.all fun p => Nat.beq p.1 key || (s.rd al p.1).isSome) = true → Rel C B w0 E s a w → AllR (AV.rel C E w) args vs.toList →
    Calls P f vs w fun e w' => ∃ v E', e = .returned v ∧ Rel C B w0 E' { s with heap := chg ch s.heap } a w' ∧ AV.rel C E' w' r v
structure CtxOK (P : Program) (C : Ctx) : Prop where
  sum : ∀ f sm, C.sum f = some sm → (callable P f ∧ SumOK P C f #[] #[] sm) ∨ ExtF P f sm
  fsum : ∀ i sm, C.fsum i = some sm → ∃ f first caps, C.fval i = .func (.func f) first caps ∧ callable P f ∧ SumOK P C f first caps sm
  wsum : ∀ f sm, C.wsum f = some sm → callable P f ∧ WSumOK P C f sm
variable {P : Program} {C : Ctx} {B : Nat} {w0 : World} {E E' : Env} {s : St} {a : Act} {w w' : World}
theorem cell_heap {b o : Nat} (h : w'.heap[b]? = w.heap[b]?) : w'.cell? ⟨b, o, none⟩ = w.cell? ⟨b, o, none⟩ := by
  simp [World.cell?, h]
theorem cell_lt {b o : Nat} {u} (h : w.cell? ⟨b, o, none⟩ = some u) : b < w.heap.size := World.block_lt_of_cell? (a := ⟨b, o, none⟩) w h
theorem heap_get_lt {n : Nat} {o} (h : w.heap[n]? = some o) : n < w.heap.size := by
  rcases Nat.lt_or_ge n w.heap.size with h' | h'
  · exact h'
  · simp [Array.getElem?_eq_none h'] at h
theorem list_get_lt {α : Type} {l : List α} {n : Nat} {o} (h : l[n]? = some o) : n < l.length := by
  rcases Nat.lt_or_ge n l.length with h' | h'
  · exact h'
  · simp [List.getElem?_eq_none h'] at h
theorem SV.rel_below {v x} (h : SV.rel C E w x v) (hb : Below w.heap.size w w') : SV.rel C E w' x v :=
  SV.rel_ext h ⟨fun _ _ h => h, fun _ _ h => h, fun _ _ h => h, fun _ _ _ h => h, hb.size, fun b o u _ hc => by rw [cell_heap (hb.block b (cell_lt hc))]; exact hc⟩
theorem AV.rel_below {v x} (h : AV.rel C E w x v) (hb : Below w.heap.size w w') : AV.rel C E w' x v :=
  AV.rel_map h fun _ _ hs => SV.rel_below hs hb
theorem grownBy_of_below (hb : Below w.heap.size w w') (r : Option Nat) : w.grownBy w' r := ⟨hb.os, hb.tape, hb.output, hb.size, fun k hk _ => hb.block k hk⟩
theorem BlkR.below {k b} (h : BlkR C E w k b) (hb : Below w.heap.size w w') : BlkR C E w' k b := by
  cases b with
  | cells e l =>
    obtain ⟨n, hn, hA, vs, hv, hr, h1⟩ := h
    exact ⟨n, hn, hA, vs, by rw [hb.block n (heap_get_lt hv)]; exact hv, hr.mono fun _ _ _ hs => SV.rel_below hs hb, h1⟩
  | grow e xs =>
    obtain ⟨v, hv, hβ, hA, hfl, ho⟩ := h
    exact ⟨v, hv, hβ, hA, hfl, ho.kept (grownBy_of_below hb none) (by cases v.ownBlock <;> simp)⟩
theorem Rel.world (h : Rel C B w0 E s a w) (hb : Below w.heap.size w w') : Rel C B w0 E s a w' where
  slots := h.slots.mono fun _ _ _ hs => AV.rel_below hs hb
  defers := h.defers
  heap k b hk := (h.heap k b hk).below hb
  free := h.free
  lo n hn := ⟨(h.lo n hn).1, Nat.lt_of_lt_of_le (h.lo n hn).2 hb.size⟩
  inj := h.inj
  below := h.below.trans (belowX_of hb h.base)
  base := Nat.le_trans h.base hb.size
  ok := h.ok
theorem Rel.drew (h : Rel C B w0 E s a w) : Rel C B w0 E s a w.drew := h.world (Below.refl _ _).drew
def upd {α : Type} (β : Nat → Option α) (k : Nat) (n : α) : Nat → Option α := fun x => if x = k then some n else β x
theorem upd_same {α : Type} {β : Nat → Option α} {k n} : upd β k n k = some n := by simp [upd]
theorem upd_ne {α : Type} {β : Nat → Option α} {k n x} (h : x ≠ k) : upd β k n x = β x := by simp [upd, h]
theorem upd_keep {α : Type} {β : Nat → Option α} {k n} (h : β k = none) : ∀ x m, β x = some m → upd β k n x = some m := by
  intro x m hm
  rw [upd_ne]
  · exact hm
  · rintro rfl; rw [h] at hm; cases hm
theorem below_alloc (o : Obj) : Below w.heap.size w (w.alloc o) := (Below.refl _ _).alloc (Nat.le_refl _) _
theorem put_slots {d : Option Nat} {x : AV} {u : Value} {E : Env} {w : World} {s : St} {a : Act} (hs : AllR (AV.rel C E w) s.slots a.tmps.toList) (hx : AV.rel C E w x u) (h : List (Option (Option Blk))) :
    AllR (AV.rel C E w) { s.put d x with heap := h }.slots (a.put d u).tmps.toList := by
  cases d with
  | none => exact hs
  | some d => simpa [St.put, Act.put] using hs.set d hx
theorem put_defers {d : Option Nat} {u : Value} {a : Act} : (a.put d u).defers = a.defers := by cases d <;> rfl
theorem Rel.lay (h : Rel C B w0 E s a w) {k : Nat} {b : Blk} {x : AV} {u : Value} (d : Option Nat)
    (hkl : k < s.heap.length)
    (hext : ∀ x v, SV.rel C E w x v → SV.rel C E' w' x v)
    (hblk : ∀ k' b', k' ≠ k → s.heap[k']? = some (some (some b')) → BlkR C E w k' b' → BlkR C E' w' k' b')
    (hnew : BlkR C E' w' k b)
    (hfree : ∀ k', k' ≠ k → E.β k' = none ∧ E.σ k' = none → E'.β k' = none ∧ E'.σ k' = none)
    (hlo : ∀ n, E'.A n → (B ≤ n ∨ E'.X n) ∧ n < w'.heap.size)
    (hinj : ∀ k' b' n, k' ≠ k → s.heap[k']? = some (some (some b')) → E'.blk k' = some n → E.blk k' = some n ∧ E'.blk k ≠ some n)
    (hbelow : BelowX E'.X B w0 w') (hbase : B ≤ w'.heap.size) (hok : EOK C B E')
    (hx : AV.rel C E' w' x u) : Rel C B w0 E' { s.put d x with heap := s.heap.set k (some (some b)) } (a.put d u) w' where
  slots := put_slots (h.slots.mono fun _ _ _ hs => AV.rel_map hs hext) hx _
  defers := by rw [put_defers]; exact h.defers
  heap k' b' hb' := by
    simp only [List.getElem?_set] at hb'
    by_cases hkk : k = k'
    · subst hkk
      rw [if_pos rfl, if_pos hkl] at hb'
      cases hb'
      exact hnew
    · rw [if_neg hkk] at hb'
      exact hblk k' b' (Ne.symm hkk) hb' (h.heap k' b' hb')
  free k' hk' := by
    have hne : k' ≠ k := by
      rintro rfl
      simp [hkl] at hk'
    simp only [List.getElem?_set, if_neg (Ne.symm hne)] at hk'
    exact hfree k' hne (h.free k' hk')
  lo := hlo
  inj k1 k2 b1 b2 n h1 h2 e1 e2 := by
    simp only [List.getElem?_set] at h1 h2
    by_cases e : k = k1
    · by_cases e' : k = k2
      · omega
      · rw [if_neg e'] at h2
        subst e
        exact absurd e1 (hinj k2 b2 n (Ne.symm e') h2 e2).2
    · rw [if_neg e] at h1
      by_cases e' : k = k2
      · subst e'
        exact absurd e2 (hinj k1 b1 n (Ne.symm e) h1 e1).2
      · rw [if_neg e'] at h2
        exact h.inj k1 k2 b1 b2 n h1 h2 (hinj k1 b1 n (Ne.symm e) h1 e1).1 (hinj k2 b2 n (Ne.symm e') h2 e2).1
  below := hbelow
  base := hbase
  ok := hok
theorem Rel.blkA (h : Rel C B w0 E s a w) {k b n} (hk : s.heap[k]? = some (some (some b))) (hn : E.blk k = some n) : E.A n := by
  have := h.heap k b hk
  unfold Env.blk at hn
  cases b with
  | cells e l =>
    obtain ⟨m, hm, hA, _⟩ := this
    rw [hm] at hn; cases hn; exact hA
  | grow e xs =>
    obtain ⟨v, hv, hβ, hA, _⟩ := this
    rw [hβ, hv] at hn
    exact hA n hn
theorem Rel.alloc (h : Rel C B w0 E s a w) {k : Nat} (hk : s.heap[k]? = some none) {e : TypeId} {l : List SV} {vs : Array Value} (hv : AllR (SV.rel C E w) l vs.toList) (h1 : ∀ v ∈ vs.toList, oneCell v = true)
    {x : AV} {u : Value} (d : Option Nat)
    (hx : AV.rel C { E with β := upd E.β k w.heap.size, A := fun n => E.A n ∨ n = w.heap.size } (w.alloc (.cells vs e)) x u) :
    Rel C B w0 { E with β := upd E.β k w.heap.size, A := fun n => E.A n ∨ n = w.heap.size } { s.put d x with heap := s.heap.set k (some (some (.cells e l))) } (a.put d u) (w.alloc (.cells vs e)) := by
  obtain ⟨hkn, hks⟩ := h.free k (.inl hk)
  have hb := below_alloc (w := w) (.cells vs e)
  have hext : ∀ x v, SV.rel C E w x v → SV.rel C { E with β := upd E.β k w.heap.size, A := fun n => E.A n ∨ n = w.heap.size } (w.alloc (.cells vs e)) x v := fun x v hx =>
    SV.rel_ext hx ⟨upd_keep hkn, fun _ _ h => h, fun n hn h => h.elim id fun e => by omega, fun _ _ _ h => h, hb.size, fun b o u _ hc => by rw [cell_heap (hb.block b (cell_lt hc))]; exact hc⟩
  refine h.lay d (list_get_lt hk) hext ?_ ?_ ?_ ?_ ?_ (h.below.trans (belowX_of hb h.base)) (by have := h.base; simp; omega) (h.ok.to rfl rfl fun _ h => h) hx
  · intro k' b' hne _ hbl
    cases b' with
    | cells e' l' =>
      obtain ⟨n, hn, hA, vs', hv', hr', h1'⟩ := hbl
      exact ⟨n, upd_keep hkn _ _ hn, .inl hA, vs', by rw [hb.block n (heap_get_lt hv')]; exact hv', hr'.mono fun _ _ _ => hext _ _, h1'⟩
    | grow e' xs =>
      obtain ⟨v, hv', hβ, hA, hfl, ho⟩ := hbl
      exact ⟨v, hv', by simp only; rw [upd_ne hne]; exact hβ, fun n hn => .inl (hA n hn), hfl, ho.kept (grownBy_of_below hb none) (by cases v.ownBlock <;> simp)⟩
  · exact ⟨w.heap.size, upd_same, .inr rfl, vs, by show (w.heap.push _)[w.heap.size]? = _; simp, hv.mono fun _ _ _ => hext _ _, h1⟩
  · intro k' hne hf
    exact ⟨by simp only; rw [upd_ne hne]; exact hf.1, hf.2⟩
  · rintro n (hn | rfl)
    · have := h.lo n hn; exact ⟨this.1, by simp; omega⟩
    · exact ⟨.inl h.base, by simp⟩
  · intro k' b' n hne hk' hn
    have e1 : Env.blk { E with β := upd E.β k w.heap.size, A := fun n => E.A n ∨ n = w.heap.size } k' = E.blk k' := by
      simp only [Env.blk]; rw [upd_ne hne]
    rw [e1] at hn
    refine ⟨hn, ?_⟩
    have := (h.lo n (h.blkA hk' hn)).2
    simp only [Env.blk, upd_same]
    intro e; cases e; omega
theorem Rel.store (h : Rel C B w0 E s a w) {k n : Nat} {e : TypeId} {l l' : List SV} {vs vs' : Array Value} (hk : s.heap[k]? = some (some (some (.cells e l)))) (hn : E.β k = some n) (hA : E.A n)
    (hv0 : w.heap[n]? = some (.cells vs e (0, 0))) (hv : AllR (SV.rel C E w) l' vs'.toList) (h1 : ∀ v ∈ vs'.toList, oneCell v = true) (d : Option Nat) :
    Rel C B w0 E { s.put d undefA with heap := s.heap.set k (some (some (.cells e l'))) } (a.put d undef) (w.setRow n vs') := by
  have hext : ∀ x v, SV.rel C E w x v → SV.rel C E (w.setRow n vs') x v := fun x v hx => SV.rel_ext hx ⟨fun _ _ h => h, fun _ _ h => h, fun _ _ h => h, fun _ _ _ h => h, by simp, fun b o u hb hc => by
    rw [cell_setRow_other]
    · exact hc
    · rintro rfl; exact hb hA⟩
  have hblkk : E.blk k = some n := by simp [Env.blk, hn]
  refine h.lay d (list_get_lt hk) hext ?_ ⟨n, hn, hA, vs', setRow_heap w n vs vs' e _ hv0, hv.mono fun _ _ _ => hext _ _, h1⟩ (fun _ _ h => h) (fun m hm => by simpa using h.lo m hm) ?_ (h.below.trans ⟨rfl, rfl, rfl, by simp, fun k hk hx => setRow_other _ _ _ _ (by rintro rfl; rcases (h.lo k hA).1 with h' | h'; omega; exact hx h')⟩) (by simpa using h.base) (h.ok.to rfl rfl fun _ h => h) (undef_rel C E _)
  · intro k' b' hne hk' hbl
    have hne' : E.blk k' ≠ some n := fun e => hne (h.inj k' k _ _ n hk' hk e hblkk)
    cases b' with
    | cells e' l' =>
      obtain ⟨m, hm, hA', us, hu, hr', h1'⟩ := hbl
      have : m ≠ n := by rintro rfl; exact hne' (by simp [Env.blk, hm])
      exact ⟨m, hm, hA', us, by rw [setRow_other _ _ _ _ this]; exact hu, hr'.mono fun _ _ _ => hext _ _, h1'⟩
    | grow e' xs =>
      obtain ⟨v, hv', hβ, hA', hfl, ho⟩ := hbl
      refine ⟨v, hv', hβ, hA', hfl, ho.kept (row := some n) ⟨rfl, rfl, rfl, by simp, fun m _ hm => setRow_other _ _ _ _ (fun e => hm (by rw [e]))⟩ ?_⟩
      right
      intro e
      exact hne' (by simp [Env.blk, hβ, hv', e])
  · intro k' b' m hne hk' hm
    exact ⟨hm, fun e => hne (h.inj k' k _ _ m hk' hk hm e)⟩
theorem Rel.storeGrow (h : Rel C B w0 E s a w) {k : Nat} {e : TypeId} {xs ys : VL} {v : Value} {g : Nat} (hk : s.heap[k]? = some (some (some (.grow e xs)))) (hv : E.σ k = some v) (hβ : E.β k = none) (hg : v.ownBlock = some g) (hA : E.A g)
    (hfl : ys.flat = true) (ho : w'.ownsRow 0 e ys.wd v ys.len ys.vals) (hgr : w.grownBy w' (some g)) (d : Option Nat) :
    Rel C B w0 E { s.put d undefA with heap := s.heap.set k (some (some (.grow e ys))) } (a.put d undef) w' := by
  have hext : ∀ x v, SV.rel C E w x v → SV.rel C E w' x v := fun x v hx => SV.rel_ext hx ⟨fun _ _ h => h, fun _ _ h => h, fun _ _ h => h, fun _ _ _ h => h, hgr.size, fun b o u hb hc => by
    rw [cell_heap (hgr.block b (cell_lt hc) (fun e => hb (by cases e; exact hA)))]; exact hc⟩
  have hblkk : E.blk k = some g := by simp [Env.blk, hβ, hv, hg]
  refine h.lay d (list_get_lt hk) hext ?_ ⟨v, hv, hβ, fun n hn => by rw [hg] at hn; cases hn; exact hA, hfl, ho⟩ (fun _ _ h => h) (fun m hm => ⟨(h.lo m hm).1, Nat.lt_of_lt_of_le (h.lo m hm).2 hgr.size⟩) ?_
    (h.below.grown hgr h.base (fun k hk => by cases hk; exact (h.lo g hA).1)) (Nat.le_trans h.base hgr.size) (h.ok.to rfl rfl fun _ h => h) (undef_rel C E _)
  · intro k' b' hne hk' hbl
    have hne' : E.blk k' ≠ some g := fun e => hne (h.inj k' k _ _ g hk' hk e hblkk)
    cases b' with
    | cells e' l' =>
      obtain ⟨m, hm, hA', us, hu, hr', h1'⟩ := hbl
      have : m ≠ g := by rintro rfl; exact hne' (by simp [Env.blk, hm])
      exact ⟨m, hm, hA', us, by rw [hgr.block m (heap_get_lt hu) (fun e => this (by cases e; rfl))]; exact hu, hr'.mono fun _ _ _ => hext _ _, h1'⟩
    | grow e' zs =>
      obtain ⟨u, hu, hβ', hA', hfl', ho'⟩ := hbl
      exact ⟨u, hu, hβ', hA', hfl', ho'.kept hgr (.inr fun e => hne' (by simp [Env.blk, hβ', hu, e]))⟩
  · intro k' b' m hne hk' hm
    exact ⟨hm, fun e => hne (h.inj k' k _ _ m hk' hk hm e)⟩
theorem Rel.kill (h : Rel C B w0 E s a w) (k : Nat) (_hk : ∀ x, s.heap[k]? = some x → x ≠ none) : Rel C B w0 E { s with heap := s.heap.set k (some none) } a w where
  slots := h.slots
  defers := h.defers
  heap k' b hb := by
    simp only [List.getElem?_set] at hb
    split at hb
    · split at hb <;> cases hb
    · exact h.heap k' b hb
  free k' hk' := by
    simp only [List.getElem?_set] at hk'
    split at hk'
    · rename_i e
      split at hk'
      · rcases hk' with hk' | hk' <;> cases hk'
      · subst e; exact h.free k (.inr (List.getElem?_eq_none (by omega)))
    · exact h.free k' hk'
  lo := h.lo
  inj k1 k2 b1 b2 n h1 h2 := by
    simp only [List.getElem?_set] at h1 h2
    split at h1
    · split at h1 <;> cases h1
    · split at h2
      · split at h2 <;> cases h2
      · exact h.inj k1 k2 b1 b2 n h1 h2
  below := h.below
  base := h.base
  ok := h.ok
theorem Rel.own1 (h : Rel C B w0 E s a w) {k : Nat} (hk : s.heap[k]? = some none) {e : TypeId} {ys : VL} {v : Value} {row : Option Nat} (hv : ∃ b n c, v = .slice b n c)
    (hfl : ys.flat = true) (ho : w'.ownsRow 0 e ys.wd v ys.len ys.vals) (hgr : w.grownBy w' row) (hrow : ∀ g, row = some g → E.A g ∧ ∀ k' b', s.heap[k']? = some (some (some b')) → E.blk k' ≠ some g)
    (hblk : ∀ g, v.ownBlock = some g → some g = row ∨ w.heap.size ≤ g) (d : Option Nat) :
    ∃ E', E'.σ k = some v ∧ Rel C B w0 E' { s.put d (.one false [.own k]) with heap := s.heap.set k (some (some (.grow e ys))) } (a.put d v) w' := by
  obtain ⟨hkn, hks⟩ := h.free k (.inl hk)
  refine ⟨{ E with σ := upd E.σ k v, A := fun n => E.A n ∨ v.ownBlock = some n }, upd_same, ?_⟩
  have hext : ∀ x u, SV.rel C E w x u → SV.rel C { E with σ := upd E.σ k v, A := fun n => E.A n ∨ v.ownBlock = some n } w' x u := fun x u hx =>
    SV.rel_ext hx ⟨fun _ _ h => h, upd_keep hks, fun n hn h => h.elim id fun hv => by
      rcases hblk n hv with e | e
      · exact (hrow n e.symm).1
      · omega, fun _ _ _ h => h, hgr.size, fun b o u hb hc => by
      rw [cell_heap (hgr.block b (cell_lt hc) (fun e => hb (hrow b e.symm).1))]; exact hc⟩
  have hlt := ho.lt
  refine h.lay d (list_get_lt hk) hext ?_ ⟨v, upd_same, hkn, fun n hn => .inr hn, hfl, ho⟩ ?_ ?_ ?_ (h.below.grown hgr h.base (fun g hg => (h.lo g (hrow g hg).1).1)) (Nat.le_trans h.base hgr.size) (h.ok.to rfl rfl (upd_keep hks 0)) ⟨upd_same, hv⟩
  · intro k' b' hne hk' hbl
    have hne' : ∀ g, row = some g → E.blk k' ≠ some g := fun g hg => (hrow g hg).2 k' b' hk'
    cases b' with
    | cells e' l' =>
      obtain ⟨m, hm, hA', us, hu, hr', h1'⟩ := hbl
      have hmr : some m ≠ row := by intro e; exact hne' m e.symm (by simp [Env.blk, hm])
      exact ⟨m, hm, .inl hA', us, by rw [hgr.block m (heap_get_lt hu) hmr]; exact hu, hr'.mono fun _ _ _ => hext _ _, h1'⟩
    | grow e' zs =>
      obtain ⟨u, hu, hβ', hA', hfl', ho'⟩ := hbl
      refine ⟨u, by simp only; rw [upd_ne hne]; exact hu, hβ', fun n hn => .inl (hA' n hn), hfl', ho'.kept hgr ?_⟩
      cases hub : u.ownBlock with
      | none => exact .inl rfl
      | some m =>
        right
        intro e
        exact hne' m e.symm (by simp [Env.blk, hβ', hu, hub])
  · intro k' hne hf
    exact ⟨hf.1, by simp only; rw [upd_ne hne]; exact hf.2⟩
  · rintro n (hn | hn)
    · exact ⟨(h.lo n hn).1, Nat.lt_of_lt_of_le (h.lo n hn).2 hgr.size⟩
    · refine ⟨?_, (hlt n hn).2⟩
      rcases hblk n hn with e | e
      · exact (h.lo n (hrow n e.symm).1).1
      · exact .inl (Nat.le_trans h.base e)
  · intro k' b' n hne hk' hn
    have e1 : Env.blk { E with σ := upd E.σ k v, A := fun n => E.A n ∨ v.ownBlock = some n } k' = E.blk k' := by
      simp only [Env.blk]; rw [upd_ne hne]
    rw [e1] at hn
    refine ⟨hn, ?_⟩
    simp only [Env.blk, hkn, upd_same, Option.bind_some]
    intro hv'
    rcases hblk n hv' with e | e
    · exact (hrow n e.symm).2 k' b' hk' hn
    · have := (h.lo n (h.blkA hk' hn)).2; omega
theorem Rel.own (h : Rel C B w0 E s a w) {k : Nat} (hk : s.heap[k]? = some none) {e : TypeId} {ys : VL} {v : Value} {row : Option Nat} (hv : ∃ b n c, v = .slice b n c)
    (hfl : ys.flat = true) (ho : w'.ownsRow 0 e ys.wd v ys.len ys.vals) (hgr : w.grownBy w' row) (hrow : ∀ g, row = some g → E.A g ∧ ∀ k' b', s.heap[k']? = some (some (some b')) → E.blk k' ≠ some g)
    (hblk : ∀ g, v.ownBlock = some g → some g = row ∨ w.heap.size ≤ g) (d : Option Nat) :
    ∃ E', Rel C B w0 E' { s.put d (.one false [.own k]) with heap := s.heap.set k (some (some (.grow e ys))) } (a.put d v) w' := (h.own1 hk hv hfl ho hgr hrow hblk d).imp fun _ h => h.2
end Go.Ev
