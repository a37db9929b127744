/- A symbolic evaluator for the translated Go code: its values and steps. Definitions only. -/
/- The symbolic evaluator: abstract values, states, and what one operation does. -/
import Derived.WalkKit
import Derived.ProofKit
import Derived.WalkLawsBesides
namespace Go.Ev
open Go.RowKit

/-! Lists that are only read, by their payload. -/
/-- what a cell of a row is, and what it holds -/
inductive Ct where
  | int (k : IntKind)
  | bool
  | ints (k : IntKind)
  deriving DecidableEq
inductive Cv where
  | i (n : Int)
  | b (x : Bool)
  | l (xs : List Int)
def Cv.int : Cv → Int
  | .i n => n
  | _ => 0
def Cv.bool : Cv → Bool
  | .b x => x
  | _ => false
def Cv.ints : Cv → List Int
  | .l xs => xs
  | _ => []
inductive VL where
  | int (k : IntKind) (l : List Int)
  | bool (l : List Bool)
  | lit (wd : Nat) (l : List (List Value))
  | row (ks : List Ct) (l : List (List Cv))

inductive SV where
  | bool (b : Bool)
  | int (k : IntKind) (n : Int)
  | ptr (key off : Nat)
  | val (v : Value)
  | vec (fr : Bool) (xs : VL)
  | epv (fr : Bool) (xs : VL) (i o : Nat)
  | str (l : List UInt8)
  | emp
  | pvc (xs : VL)
  | sl (key off len cap : Nat)
  | fnv (id : Nat)
  | clo (f : FuncId) (caps : List Nat)
  | clv (f : FuncId) (xss : List VL)
  | own (key : Nat)
  | sub (key wd lo len : Nat)
  | epo (key wd i o : Nat)
  | top
  | und

/-- One value: a scalar (false, [s]) or an aggregate (true, cells); or a tuple of such. -/
inductive AV where
  | one (g : Bool) (cells : List SV)
  | tup (l : List (Bool × List SV))

inductive Blk where
  | cells (elem : TypeId) (l : List SV)
  | grow (elem : TypeId) (xs : VL)

structure St where
  slots : List AV
  heap : List (Option (Option Blk))

/-! ### Lists -/
def VL.len : VL → Nat
  | .int _ l => l.length
  | .bool l => l.length
  | .lit _ l => l.length
  | .row _ l => l.length
def VL.wd : VL → Nat
  | .int _ _ => 1
  | .bool _ => 1
  | .lit wd _ => wd
  | .row ks _ => ks.length
def rowCells (fr : Bool) : List Ct → List Cv → List SV
  | [], _ => []
  | .bool :: ks, l => .bool (l.headD (.i 0)).bool :: rowCells fr ks l.tail
  | .int k :: ks, l => .int k (l.headD (.i 0)).int :: rowCells fr ks l.tail
  | .ints k :: ks, l => .vec fr (.int k (l.headD (.i 0)).ints) :: rowCells fr ks l.tail
/-- so many plain cells -/
def litCells : Nat → List Value → List SV
  | 0, _ => []
  | n + 1, [] => .bool false :: litCells n []
  | n + 1, .bool b :: r => .bool b :: litCells n r
  | n + 1, .int k x :: r => .int k x :: litCells n r
  | n + 1, _ :: r => .bool false :: litCells n r
/-- the cells of element i -/
def VL.at (fr : Bool) : VL → Nat → List SV
  | .int k l, i => [.int k (l.getD i 0)]
  | .bool l, i => [.bool (l.getD i false)]
  | .lit wd l, i => litCells wd (l.getD i [])
  | .row ks l, i => rowCells fr ks (l.getD i [])
/-- no lists in its cells -/
def VL.flat : VL → Bool
  | .row _ _ => false
  | _ => true
def VL.cut : VL → Nat → Nat → VL
  | .int k l, lo, n => .int k ((l.drop lo).take n)
  | .bool l, lo, n => .bool ((l.drop lo).take n)
  | .lit wd l, lo, n => .lit wd ((l.drop lo).take n)
  | .row ks l, lo, n => .row ks ((l.drop lo).take n)
def SV.exact : SV → Value
  | .bool b => .bool b
  | .int k n => .int k n
  | .val v => v
  | _ => undef

theorem rowCells_length (fr : Bool) (ks : List Ct) : ∀ l, (rowCells fr ks l).length = ks.length := by
  induction ks with
  | nil => intro l; rfl
  | cons k ks ih => intro l; cases k <;> simp [rowCells, ih]
theorem litCells_length : ∀ (n : Nat) (l : List Value), (litCells n l).length = n
  | 0, _ => rfl
  | n + 1, [] => by simp [litCells, litCells_length n]
  | n + 1, v :: r => by cases v <;> simp [litCells, litCells_length n]
theorem VL.at_length (fr : Bool) (xs : VL) (i : Nat) : (xs.at fr i).length = xs.wd := by
  cases xs <;> simp [VL.at, VL.wd, rowCells_length, litCells_length]

/-! ### Operands -/
abbrev oneCell : Value → Bool := Value.oneCell'
def SV.ofV : Value → SV
  | .bool b => .bool b
  | .int k n => .int k n
  | v => .val v
def AV.ofV : Value → Option AV
  | .agg cs => if cs.toList.all oneCell then some (.one true (cs.toList.map SV.ofV)) else none
  | .tuple _ => none
  | v => some (.one false [SV.ofV v])
def undefA : AV := .one false [.und]
def St.ρ (s : St) : Operand → Option AV
  | .tmp t => s.slots[t]?
  | .const v => AV.ofV v
  | .global _ => none
  | .func f => some (.one false [.clo f []])

def St.put (s : St) (d : Option Nat) (v : AV) : St :=
  match d with
  | some d => { s with slots := s.slots.set d v }
  | none => s

/-- what is known of a function: where it may be called, and what it answers -/
structure Summ where
  pre : List AV → (Nat → Option Blk) → Bool
  fn : List AV → (Nat → Option Blk) → Option AV
/-- of a function that takes lists over, or writes into one: its answer and what becomes of blocks -/
structure WSumm where
  pre : List AV → (Nat → Option Blk) → Bool
  fn : List AV → (Nat → Option Blk) → Option (AV × List (Nat × Option Blk))
structure Ctx where
  sum : FuncId → Option Summ
  fsum : Nat → Option Summ
  fval : Nat → Value
  wsum : FuncId → Option WSumm
  /-- the blocks that count as new, and the one that is lent -/
  F : Nat → Prop
  X : Nat → Prop
  v0 : Option Value

/-! ### Type facts -/
def szT (P : Program) (t : TypeId) : Option Nat := (P.info? t).map (·.size)
def aggT (P : Program) (t : TypeId) : Option Bool :=
  match P.underlying t with
  | some (.struct _) => some true
  | some (.array _ _) => some true
  | some _ => some false
  | none => none
def fieldT (P : Program) (t : TypeId) (f : Nat) : Option Field :=
  match P.underlying t with
  | some (.struct fs) => fs[f]?
  | _ => none

def cut (l : List SV) (off n : Nat) : List SV := (l.drop off).take n
/-- a part of cells, read as of type t -/
def partS (P : Program) (t : TypeId) (l : List SV) (off : Nat) : Option AV :=
  match aggT P t, szT P t with
  | some true, some n => if off + n ≤ l.length then some (.one true (cut l off n)) else none
  | some false, some _ => match l[off]? with
    | some v => some (.one false [v])
    | none => none
  | _, _ => none

/-! ### Arithmetic -/
def bitsI (op : BinOp) (k : IntKind) (x y : Int) : Int :=
  let a := BitVec.ofInt k.bits x
  let b := BitVec.ofInt k.bits y
  match op with
  | .and => k.wrap ((a &&& b).toNat : Int)
  | .or => k.wrap ((a ||| b).toNat : Int)
  | .xor => k.wrap ((a ^^^ b).toNat : Int)
  | _ => k.wrap ((a &&& ~~~b).toNat : Int)
def shlI (k : IntKind) (x y : Int) : Int := k.wrap (x * 2 ^ (min y.toNat k.bits))
def shrI (k : IntKind) (x y : Int) : Int := x.fdiv (2 ^ (min y.toNat k.bits))

def intOp (op : BinOp) (k : IntKind) (x y : Int) : Option SV :=
  match op with
  | .add => some (.int k (k.wrap (x + y)))
  | .sub => some (.int k (k.wrap (x - y)))
  | .mul => some (.int k (k.wrap (x * y)))
  | .quo => some (.int k (k.wrap (x.tdiv y)))
  | .rem => some (.int k (x.tmod y))
  | .and | .or | .xor | .andNot => some (.int k (bitsI op k x y))
  | .eql => some (.bool (x == y))
  | .neq => some (.bool (x != y))
  | .lss => some (.bool (decide (x < y)))
  | .leq => some (.bool (decide (x ≤ y)))
  | .gtr => some (.bool (decide (x > y)))
  | .geq => some (.bool (decide (x ≥ y)))
  | _ => none


/-- equality, by type -/
def eqFieldsS (P : Program) (eq : TypeId → AV → AV → Option Bool) (xs ys : List SV) : List Field → Option Bool
  | [] => some true
  | f :: fs =>
    if f.name ≠ "_" then
      match partS P f.type xs f.offset, partS P f.type ys f.offset with
      | some a, some b =>
        match eq f.type a b, eqFieldsS P eq xs ys fs with
        | some r, some r' => some (r && r')
        | _, _ => none
      | _, _ => none
    else eqFieldsS P eq xs ys fs
def eqS (P : Program) : (depth : Nat) → TypeId → AV → AV → Option Bool
  | 0, _, _, _ => none
  | d + 1, t, x, y =>
    match P.underlying t, x, y with
    | some .bool, .one false [.bool a], .one false [.bool b] => some (a == b)
    | some (.int _), .one false [.int k a], .one false [.int k' b] => if k = k' then some (a == b) else none
    | some (.struct fs), .one true xs, .one true ys => if P.stoodInHeld t then none else eqFieldsS P (eqS P d) xs ys fs.toList
    | _, _, _ => none

/-- a string's bytes -/
def SV.bytes? : SV → Option (List UInt8)
  | .str l => some l
  | .val (.string s) => some s.data.toList
  | _ => none
def strOp (op : BinOp) (x y : List UInt8) : Option SV :=
  match op with
  | .add => some (.str (x ++ y))
  | .eql => some (.bool (x == y))
  | .neq => some (.bool (!(x == y)))
  | _ => none
def strS (op : BinOp) (a b : SV) : Option AV :=
  match a.bytes?, b.bytes? with
  | some x, some y => (strOp op x y).map fun s => .one false [s]
  | _, _ => none
def binS (P : Program) (op : BinOp) (t : TypeId) (x y : AV) : Option AV :=
  match op, x, y with
  | .shl, .one false [.int k a], .one false [.int _ b] => some (.one false [.int k (shlI k a b)])
  | .shr, .one false [.int k a], .one false [.int _ b] => some (.one false [.int k (shrI k a b)])
  | op, .one false [.int k a], .one false [.int k' b] => if k = k' then (intOp op k a b).map fun s => .one false [s] else none
  | .eql, .one false [.bool a], .one false [.bool b] => match P.underlying t with
    | some .bool => some (.one false [.bool (a == b)])
    | _ => none
  | .neq, .one false [.bool a], .one false [.bool b] => match P.underlying t with
    | some .bool => some (.one false [.bool (!(a == b))])
    | _ => none
  | .eql, .one true xs, .one true ys => if P.eqGuardType P.depth t then none else (eqS P 6 t (.one true xs) (.one true ys)).map fun b => .one false [.bool b]
  | .neq, .one true xs, .one true ys => if P.eqGuardType P.depth t then none else (eqS P 6 t (.one true xs) (.one true ys)).map fun b => .one false [.bool (!b)]
  | op, .one false [.str a], .one false [b] => strS op (.str a) b
  | op, .one false [.val a], .one false [b] => strS op (.val a) b
  | _, _, _ => none

def unS (op : UnOp) (x : AV) : Option AV :=
  match op, x with
  | .neg, .one false [.int k n] => some (.one false [.int k (k.wrap (0 - n))])
  | .xor, .one false [.int k n] => some (.one false [.int k (bitsI .xor k (if k.signed then -1 else k.max) n)])
  | .not, .one false [.bool b] => some (.one false [.bool (!b)])
  | _, _ => none

def convS (P : Program) (src dst : TypeId) (x : AV) : Option AV :=
  match P.underlying src, P.underlying dst, x with
  | some _, some (.int k), .one false [.int _ n] => some (.one false [.int k (k.wrap n)])
  | _, _, _ => none

def AV.cells? : AV → Option (List SV)
  | .one true l => some l
  | .one false [s] => some [s]
  | _ => none
/-- may it be stored as a cell? -/
def SV.okc : SV → Bool
  | .val v => oneCell v
  | .fnv _ => false
  | .emp => false
  | .top => false
  | .und => false
  | _ => true

def splice (l : List SV) (off : Nat) (n : List SV) : List SV := l.take off ++ n ++ l.drop (off + n.length)
def fillS (place : Nat → Option (Nat × Nat)) : List SV → List (Nat × AV) → Option (List SV)
  | l, [] => some l
  | l, (i, v) :: rest =>
    match place i, v.cells? with
    | some (off, size), some cs => if cs.length = size ∧ off + size ≤ l.length ∧ cs.all SV.okc then fillS place (splice l off cs) rest else none
    | _, _ => none
def zeroS (P : Program) (t : TypeId) : Option (List SV) :=
  match (P.info? t).bind (·.zero) with
  | some v => (AV.ofV v).bind AV.cells?
  | none => none
def partsS (ρ : Operand → Option AV) : List (Nat × Operand) → Option (List (Nat × AV))
  | [] => some []
  | (i, x) :: r => match ρ x, partsS ρ r with
    | some v, some l => some ((i, v) :: l)
    | _, _ => none
def placesS (P : Program) (fs : List Field) : Option (List (Nat × Nat)) :=
  match fs with
  | [] => some []
  | f :: r => match szT P f.type, placesS P r with
    | some n, some l => some ((f.offset, n) :: l)
    | _, _ => none
def buildS (P : Program) (t : TypeId) (parts : List (Nat × AV)) : Option AV :=
  match zeroS P t, P.underlying t with
  | some z, some (.struct fs) => match placesS P fs.toList with
    | some pl => (fillS (fun i => pl[i]?) z parts).map (.one true ·)
    | none => none
  | some z, some (.array _ e) => match szT P e with
    | some n => (fillS (fun i => some (i * n, n)) z parts).map (.one true ·)
    | none => none
  | _, _ => none
def rep {α : Type} (z : List α) : Nat → List α
  | 0 => []
  | n + 1 => z ++ rep z n
def buildSliceS (P : Program) (t : TypeId) (len : Nat) (parts : List (Nat × AV)) : Option (TypeId × List SV) :=
  match P.underlying t with
  | some (.slice e) => match szT P e, zeroS P e with
    | some n, some z => if n ≠ 0 ∧ len * n ≤ 2 ^ 24 ∧ z.length = n then (fillS (fun i => some (i * n, n)) (rep z len) parts).map fun l => (e, l) else none
    | _, _ => none
  | _ => none

def argsS (ρ : Operand → Option AV) : List Operand → Option (List AV)
  | [] => some []
  | x :: r => match ρ x, argsS ρ r with
    | some v, some l => some (v :: l)
    | _, _ => none

/-- a list, where it lies -/
def asVL (rd : Nat → Option Blk) : SV → Option VL
  | .vec _ xs => some xs
  | .own k => match rd k with
    | some (.grow _ xs) => some xs
    | _ => none
  | .sub k wd lo n => match rd k with
    | some (.grow _ xs) => if xs.wd = wd then some (xs.cut lo n) else none
    | _ => none
  | _ => none
def lenS (P : Program) (rd : Nat → Option Blk) (t : TypeId) (x : AV) : Option AV :=
  match P.underlying t, x with
  | some (.slice _), .one false [.vec _ xs] => some (.one false [.int .i64 xs.len])
  | some (.slice _), .one false [.sl _ _ len _] => some (.one false [.int .i64 len])
  | some (.slice _), .one false [.val (.slice none n _)] => some (.one false [.int .i64 n])
  | some (.slice _), .one false [.own k] => match rd k with
    | some (.grow _ xs) => some (.one false [.int .i64 xs.len])
    | _ => none
  | some (.slice _), .one false [.sub _ _ _ n] => some (.one false [.int .i64 n])
  | some .string, .one false [.str l] => some (.one false [.int .i64 l.length])
  | some .string, .one false [.val (.string s)] => some (.one false [.int .i64 s.size])
  | _, _ => none
/-- x[i]'s place -/
def ixS (P : Program) (rd : Nat → Option Blk) (t : TypeId) (x : AV) (n : Int) : Option AV :=
  match P.underlying t, x with
  | some (.slice e), .one false [.vec fr xs] => if szT P e = some xs.wd then some (.one false [.epv fr xs n.toNat 0]) else none
  | some (.slice e), .one false [.sl k off _ _] => match szT P e with
    | some sz => some (.one false [.ptr k (off + n.toNat * sz)])
    | none => none
  | some (.array _ e), .one false [.ptr k off] => match szT P e with
    | some sz => some (.one false [.ptr k (off + n.toNat * sz)])
    | none => none
  | some (.slice e), .one false [.own k] => match rd k with
    | some (.grow _ xs) => if szT P e = some xs.wd then some (.one false [.epo k xs.wd n.toNat 0]) else none
    | _ => none
  | some (.slice e), .one false [.sub k wd lo _] => if szT P e = some wd then some (.one false [.epo k wd (lo + n.toNat) 0]) else none
  | _, _ => none
def ixB (P : Program) (rd : Nat → Option Blk) (t : TypeId) (x : AV) (n : Int) : Bool :=
  match P.underlying t, x with
  | some (.slice _), .one false [.vec _ xs] => decide (0 ≤ n) && decide (n < xs.len)
  | some (.slice _), .one false [.sl _ _ len _] => decide (0 ≤ n) && decide (n < len)
  | some (.array len _), .one false [.ptr _ _] => decide (0 ≤ n) && decide (n < len)
  | some (.slice _), .one false [.own k] => match rd k with
    | some (.grow _ xs) => decide (0 ≤ n) && decide (n < xs.len)
    | _ => false
  | some (.slice _), .one false [.sub _ _ _ len] => decide (0 ≤ n) && decide (n < len)
  | _, _ => false
def boundS (ρ : Operand → Option AV) : Option Operand → Option (Option Int)
  | none => some none
  | some o => match ρ o with
    | some (.one false [.int _ n]) => some (some n)
    | _ => none
/-- x[lo:hi] -/
def cutS (P : Program) (rd : Nat → Option Blk) (t : TypeId) (x : AV) (lo hi : Option Int) : Option AV :=
  match P.underlying t, x with
  | some (.slice e), .one false [.vec fr xs] => if szT P e = some xs.wd then some (.one false [.vec fr (xs.cut (lo.getD 0).toNat ((hi.getD xs.len).toNat - (lo.getD 0).toNat))]) else none
  | some (.slice e), .one false [.sl k off len cap] => match szT P e with
    | some sz => some (.one false [.sl k (off + (lo.getD 0).toNat * sz) ((hi.getD len).toNat - (lo.getD 0).toNat) (cap - (lo.getD 0).toNat)])
    | none => none
  | some (.slice e), .one false [.own k] => match rd k with
    | some (.grow _ xs) => if szT P e = some xs.wd then some (.one false [.sub k xs.wd (lo.getD 0).toNat ((hi.getD xs.len).toNat - (lo.getD 0).toNat)]) else none
    | _ => none
  | some (.slice e), .one false [.sub k wd l0 n] => if szT P e = some wd then some (.one false [.sub k wd (l0 + (lo.getD 0).toNat) ((hi.getD n).toNat - (lo.getD 0).toNat)]) else none
  | _, _ => none
def cutLen (P : Program) (rd : Nat → Option Blk) (t : TypeId) (x : AV) : Option Nat :=
  match P.underlying t, x with
  | some (.slice _), .one false [.vec _ xs] => some xs.len
  | some (.slice _), .one false [.sl _ _ len cap] => if len < cap then some len else none
  | some (.slice _), .one false [.own k] => match rd k with
    | some (.grow _ xs) => some xs.len
    | _ => none
  | some (.slice _), .one false [.sub _ _ _ n] => some n
  | _, _ => none
def cutB (len : Nat) (lo hi : Option Int) : Bool := decide (0 ≤ lo.getD 0) && (decide (lo.getD 0 ≤ hi.getD len) && decide (hi.getD len ≤ len))
/-- known cells as a list -/
def ints? (k : IntKind) : List SV → Option (List Int)
  | [] => some []
  | .int k' n :: r => if k' = k then (ints? k r).map (n :: ·) else none
  | _ => none
def bools? : List SV → Option (List Bool)
  | [] => some []
  | .bool b :: r => (bools? r).map (b :: ·)
  | _ => none
def cellsVL (P : Program) (e : TypeId) (l : List SV) : Option VL :=
  match P.underlying e with
  | some (.int k) => (ints? k l).map (.int k ·)
  | some .bool => (bools? l).map .bool
  | _ => none
/-- what is appended: a list's payload -/
def srcVL (P : Program) (rd : Nat → Option Blk) (e : TypeId) : AV → Option VL
  | .one false [.sl k off len _] => match rd k with
    | some (.cells _ l) => if off + len ≤ l.length then cellsVL P e (cut l off len) else none
    | _ => none
  | .one false [.val (.slice none 0 0)] => match P.underlying e with
    | some (.int k) => some (.int k [])
    | some .bool => some (.bool [])
    | _ => none
  | .one false [.emp] => match P.underlying e with
    | some (.int k) => some (.int k [])
    | some .bool => some (.bool [])
    | _ => none
  | .one false [s] => asVL rd s
  | _ => none
def VL.app : VL → VL → Option VL
  | .int k l, .int k' l' => if k = k' then some (.int k (l ++ l')) else none
  | .bool l, .bool l' => some (.bool (l ++ l'))
  | _, _ => none
def VL.setAt : VL → Nat → SV → Option VL
  | .int k l, i, .int k' n => if k = k' then some (.int k (l.set i n)) else none
  | .bool l, i, .bool b => some (.bool (l.set i b))
  | _, _, _ => none
/-- s[:0:0] -/
def empS (P : Program) (rd : Nat → Option Blk) (t : TypeId) (x : AV) : Option AV :=
  match P.underlying t with
  | some (.slice e) => match srcVL P rd e x, szT P e with
    | some _, some _ => some (.one false [.emp])
    | _, _ => none
  | _ => none
def imax (x y : Int) : Int := if y > x then y else x
def imin (x y : Int) : Int := if y < x then y else x
def maxS : AV → AV → Option AV
  | .one false [.int k x], .one false [.int _ y] => some (.one false [.int k (imax x y)])
  | _, _ => none
def minS : AV → AV → Option AV
  | .one false [.int k x], .one false [.int _ y] => some (.one false [.int k (imin x y)])
  | _, _ => none
def foldS (f : AV → AV → Option AV) : AV → List AV → Option AV
  | a, [] => some a
  | a, x :: r => match f a x with
    | some b => foldS f b r
    | none => none

/-- a byte of a string -/
def strAt (s : ByteArray) (n : Int) : Int := ((s.data.getD n.toNat 0).toNat : Int)
/-- what only reckons with operands -/
def effP (P : Program) (o : Oper) (ρ : Operand → Option AV) : Option AV :=
  match o.op with
  | .move x => ρ x
  | .assign x => ρ x
  | .pick c a b => match ρ c with
    | some (.one false [.bool t]) => bif t then ρ a else ρ b
    | _ => none
  | .nilCheck x => match ρ x with
    | some (.one false [.ptr k f]) => some (.one false [.ptr k f])
    | some (.one false [.epv f a b c]) => some (.one false [.epv f a b c])
    | some (.one false [.epo a b c d]) => some (.one false [.epo a b c d])
    | _ => none
  | .binOp op t x y _ => match ρ x, ρ y with
    | some a, some b => binS P op t a b
    | _, _ => none
  | .unOp op _ x => (ρ x).bind (unS op)
  | .convert s d x => (ρ x).bind (convS P s d)
  | .build t parts => (partsS ρ parts.toList).bind (buildS P t)
  | .fieldAddr t x f => match ρ x, fieldT P t f with
    | some (.one false [.ptr k off]), some fd => match szT P fd.type with
      | some (_ + 1) => some (.one false [.ptr k (off + fd.offset)])
      | _ => none
    | some (.one false [.epv fr xs i off]), some fd => match szT P fd.type with
      | some (_ + 1) => some (.one false [.epv fr xs i (off + fd.offset)])
      | _ => none
    | some (.one false [.epo k wd i off]), some fd => match szT P fd.type with
      | some (_ + 1) => some (.one false [.epo k wd i (off + fd.offset)])
      | _ => none
    | _, _ => none
  | .field t x f => match ρ x, fieldT P t f with
    | some (.one true l), some fd => partS P fd.type l fd.offset
    | _, _ => none
  | .extract x i => match ρ x with
    | some (.tup l) => match l[i]? with
      | some (g, c) => some (.one g c)
      | none => none
    | _ => none
  | .makeFunc (.func f) first captured => if first.size = 0 then
      match argsS ρ captured.toList with
      | some l => match l.mapM (fun | AV.one false [.ptr k 0] => some k | _ => none) with
        | some ks => some (.one false [.clo f ks])
        | none => none
      | none => none
    else none
  | .index t x i => match P.underlying t, ρ x, ρ i with
    | some (.array _ e), some (.one true l), some (.one false [.int _ n]) => match szT P e with
      | some sz => partS P e l (n.toNat * sz)
      | none => none
    | some .string, some (.one false [.val (.string s)]), some (.one false [.int _ n]) => some (.one false [.int .u8 (strAt s n)])
    | some .string, some (.one false [.str l]), some (.one false [.int _ n]) => some (.one false [.int .u8 ((l.getD n.toNat 0).toNat : Int)])
    | _, _, _ => none
  | .call { callee := .builtin .max, args, .. } => match argsS ρ args.toList with
    | some (x :: r) => foldS maxS x r
    | _ => none
  | .call { callee := .builtin .min, args, .. } => match argsS ρ args.toList with
    | some (x :: r) => foldS minS x r
    | _ => none
  | _ => none

def strRoom (a b : SV) : Bool := match a.bytes?, b.bytes? with
  | some x, some y => decide (x.length + y.length ≤ 9223372036854775807)
  | _, _ => true
def wsumOf (C : Ctx) : Operand → Option WSumm
  | .func f => C.wsum f
  | _ => none
/-- s[:0:0] -/
def isNought : Option (Option Int) → Bool
  | some (some 0) => true
  | _ => false
/-- what must hold, or it panics -/
def asr (P : Program) (C : Ctx) (o : Oper) (ρ : Operand → Option AV) (rd : Nat → Option Blk) : Bool :=
  match o.op with
  | .binOp .quo _ _ y _ | .binOp .rem _ _ y _ => match ρ y with
    | some (.one false [.int _ b]) => !(b == 0)
    | _ => false
  | .binOp .shl _ _ y _ | .binOp .shr _ _ y _ => match ρ y with
    | some (.one false [.int _ b]) => decide (0 ≤ b)
    | _ => false
  | .binOp .add _ x y _ => match ρ x, ρ y with
    | some (.one false [.str a]), some (.one false [b]) => strRoom (.str a) b
    | some (.one false [.val a]), some (.one false [b]) => strRoom (.val a) b
    | _, _ => true
  | .index t x i => match P.underlying t, ρ x, ρ i with
    | some (.array len _), _, some (.one false [.int _ n]) => decide (0 ≤ n) && decide (n < len)
    | some .string, some (.one false [.val (.string s)]), some (.one false [.int _ n]) => decide (0 ≤ n) && decide (n < (s.size : Int))
    | some .string, some (.one false [.str l]), some (.one false [.int _ n]) => decide (0 ≤ n) && decide (n < (l.length : Int))
    | _, _, _ => false
  | .indexAddr t x i => match ρ x, ρ i with
    | some v, some (.one false [.int _ n]) => ixB P rd t v n
    | _, _ => false
  | .slice t x lo hi mx => match mx with
    | none => match ρ x, boundS ρ lo, boundS ρ hi with
      | some v, some l, some h => match cutLen P rd t v with
        | some n => cutB n l h
        | none => false
      | _, _, _ => false
    | some _ => true
  | .makeSlice t l c => match P.underlying t, ρ l, ρ c with
    | some (.slice e), some (.one false [.int _ n]), some (.one false [.int _ m]) => decide (0 ≤ n) && (decide (n ≤ m) && decide (((P.info? e).map (·.bytes)).getD 0 * m ≤ 281474976710656))
    | _, _, _ => false
  | .call { callee := .builtin .append, args, argTypes } => match argTypes[0]?, args[0]?, args[1]? with
    | some t, some x, some y => match P.underlying t, ρ x, ρ y with
      | some (.slice e), some u, some v => match srcVL P rd e u, srcVL P rd e v with
        | some xs, some ys => decide ((xs.len + ys.len) * ((P.info? e).map (·.bytes)).getD 0 ≤ 140737488355328)
        | _, _ => false
      | _, _, _ => false
    | _, _, _ => false
  | .call { callee := .value x, args, .. } => match wsumOf C x with
   | some sm => match argsS ρ args.toList with
    | some l => sm.pre l rd
    | none => false
   | none => match ρ x, argsS ρ args.toList with
    | some (.one false [.clo f caps]), some l => match C.sum f with
      | some sm => sm.pre (l ++ caps.map fun k => .one false [.ptr k 0]) rd
      | none => false
    | some (.one false [.clv f xss]), some l => match C.sum f with
      | some sm => sm.pre (l ++ xss.map fun xs => .one false [.pvc xs]) rd
      | none => false
    | some (.one false [.fnv i]), some l => match C.fsum i with
      | some sm => sm.pre l rd
      | none => false
    | _, _ => false
  | _ => true

/-- what reads memory -/
def effR (P : Program) (C : Ctx) (o : Oper) (ρ : Operand → Option AV) (rd : Nat → Option Blk) : Option AV :=
  match o.op with
  | .load t x => match ρ x with
    | some (.one false [.ptr k off]) => match rd k with
      | some (.cells _ l) => partS P t l off
      | _ => none
    | some (.one false [.epv fr xs i off]) => partS P t (xs.at fr i) off
    | some (.one false [.pvc xs]) => partS P t [.vec false xs] 0
    | some (.one false [.epo k wd i off]) => match rd k with
      | some (.grow _ xs) => if xs.wd = wd then partS P t (xs.at false i) off else none
      | _ => none
    | _ => none
  | .indexAddr t x i => match ρ x, ρ i with
    | some v, some (.one false [.int _ n]) => ixS P rd t v n
    | _, _ => none
  | .slice t x lo hi mx => match mx with
    | none => match ρ x, boundS ρ lo, boundS ρ hi with
      | some v, some l, some h => cutS P rd t v l h
      | _, _, _ => none
    | some m => match lo, ρ x with
      | none, some v => cond (isNought (boundS ρ hi) && isNought (boundS ρ (some m))) (empS P rd t v) none
      | _, _ => none
  | .convert sr d x => match P.underlying sr, P.underlying d, ρ x with
    | some (.slice e), some .string, some (.one false [s]) => match P.underlying e, srcVL P rd e (.one false [s]) with
      | some (.int .u8), some (.int .u8 l) => some (.one false [.str (l.map fun n => UInt8.ofNat n.toNat)])
      | _, _ => none
    | _, _, _ => none
  | .call { callee := .builtin .len, args, argTypes } => match argTypes[0]?, args[0]? with
    | some t, some x => (ρ x).bind (lenS P rd t)
    | _, _ => none
  | .call { callee := .value x, args, .. } => match ρ x, argsS ρ args.toList with
    | some (.one false [.clo f caps]), some l => match C.sum f with
      | some sm => sm.fn (l ++ caps.map fun k => .one false [.ptr k 0]) rd
      | none => none
    | some (.one false [.clv f xss]), some l => match C.sum f with
      | some sm => sm.fn (l ++ xss.map fun xs => .one false [.pvc xs]) rd
      | none => none
    | some (.one false [.fnv i]), some l => match C.fsum i with
      | some sm => sm.fn l rd
      | none => none
    | _, _ => none
  | _ => none

/-- what makes a new block at a key -/
def effA (P : Program) (o : Oper) (ρ : Operand → Option AV) (key : Nat) : Option (AV × List (Nat × Option Blk)) :=
  match o.op with
  | .box t x => match (ρ x).bind AV.cells? with
    | some cs => if cs.all SV.okc then some (.one false [.ptr key 0], [(key, some (.cells t cs))]) else none
    | none => none
  | .alloc t => match zeroS P t with
    | some cs => if cs.all SV.okc then some (.one false [.ptr key 0], [(key, some (.cells t cs))]) else none
    | none => none
  | .buildSlice t len parts => match (partsS ρ parts.toList).bind (buildSliceS P t len) with
    | some (e, l) => some (.one false [.sl key 0 len len], [(key, some (.cells e l))])
    | none => none
  | .makeSlice t l c => match P.underlying t, ρ l, ρ c with
    | some (.slice e), some (.one false [.int _ n]), some (.one false [.int _ _]) => if ((P.info? e).map (·.bytes)).getD 0 = 0 then none else match P.underlying e, zeroS P e, szT P e with
      | some (.int k), some [.int k' 0], some 1 => if k' = k then some (.one false [.own key], [(key, some (.grow e (.int k (List.replicate n.toNat 0))))]) else none
      | some .bool, some [.bool false], some 1 => some (.one false [.own key], [(key, some (.grow e (.bool (List.replicate n.toNat false))))])
      | _, _, _ => none
    | _, _, _ => none
  | _ => none

/-- what writes into a block -/
def effW (P : Program) (C : Ctx) (o : Oper) (ρ : Operand → Option AV) (rd : Nat → Option Blk) (key : Nat) : Option (AV × List (Nat × Option Blk)) :=
  match o.op with
  | .store t a x => match ρ a, (ρ x).bind AV.cells?, szT P t with
    | some (.one false [.ptr k off]), some cs, some n => match rd k with
      | some (.cells e l) => if cs.length = n ∧ off + n ≤ l.length ∧ cs.all SV.okc then some (undefA, [(k, some (.cells e (splice l off cs)))]) else none
      | _ => none
    | some (.one false [.epo k 1 i 0]), some [c], some 1 => match rd k with
      | some (.grow e xs) => (xs.setAt i c).map fun ys => (undefA, [(k, some (.grow e ys))])
      | _ => none
    | _, _, _ => none
  | .call { callee := .builtin .append, args, argTypes } => if argTypes.size = 2 ∧ args.size = 2 ∧ argTypes[0]? = argTypes[1]? then
      match argTypes[0]?, args[0]?, args[1]? with
      | some t, some x, some y => match P.underlying t, ρ x, ρ y with
        | some (.slice e), some u, some v => match srcVL P rd e u, srcVL P rd e v, (zeroS P e).map List.length, szT P e with
          | some xs, some ys, some (z + 1), some sz => if z + 1 = sz ∧ xs.wd = sz ∧ ((P.info? e).map (·.bytes)).getD 0 ≠ 0 then
              match u, xs.app ys with
              | .one false [.own k], some zs => match rd k with
                | some (.grow e' _) => if e' = e then some (.one false [.own key], [(k, none), (key, some (.grow e zs))]) else none
                | _ => none
              | .one false [.sl k 0 len cap], some zs => match rd k with
                | some (.cells e' l) => if len = cap ∧ l.length = len * sz ∧ e' = e ∧ cap ≤ 4611686018427387904 then some (.one false [.own key], [(k, none), (key, some (.grow e zs))]) else none
                | _ => none
              | .one false [.val (.slice none 0 0)], some zs => some (.one false [.own key], [(key, some (.grow e zs))])
              | .one false [.emp], some zs => cond zs.flat (some (.one false [.vec true zs], [])) none
              | _, _ => none
            else none
          | _, _, _, _ => none
        | _, _, _ => none
      | _, _, _ => none
    else none
  | .call { callee := .value (.func f), args, .. } => match C.wsum f, argsS ρ args.toList with
    | some sm, some l => match sm.fn l rd with
      | some (v, ch) => cond (ch.all fun p => (rd p.1).isSome) (some (v, ch)) none
      | none => none
    | _, _ => none
  | _ => none

inductive Kd where
  | p | r | a | w
  deriving DecidableEq
def kd (P : Program) (C : Ctx) : Op → Kd
  | .load _ _ | .indexAddr _ _ _ | .slice _ _ _ _ _ => .r
  | .convert s _ _ => match P.underlying s with
    | some (.slice _) => .r
    | _ => .p
  | .call { callee := .value (.func f), .. } => match C.wsum f with
    | some _ => .w
    | none => .r
  | .call { callee := .value _, .. } => .r
  | .call { callee := .builtin .len, .. } => .r
  | .box _ _ | .alloc _ | .buildSlice _ _ _ | .makeSlice _ _ _ => .a
  | .store _ _ _ => .w
  | .call { callee := .builtin .append, .. } => .w
  | _ => .p

/-! ### One operation of a region -/
def St.rd (s : St) (al : Nat → Bool) (k : Nat) : Option Blk := bif al k then (s.heap[k]?).join.join else none
def St.guard (s : St) (ops : Array Oper) (o : Oper) : Option Bool :=
  match o.guard with
  | none => some true
  | some (j, want) => match ((ops[j]?).bind (·.dst)).bind (s.slots[·]?) with
    | some (.one false [.bool b]) => some (b == want)
    | some (.one false [.und]) => some false
    | _ => none
def St.rdk (P : Program) (C : Ctx) (s : St) (o : Oper) (al : Nat → Bool) : Nat → Option Blk :=
  match kd P C o.op with
  | .r => s.rd al
  | .w => s.rd al
  | _ => fun _ => none

def chg : List (Nat × Option Blk) → List (Option (Option Blk)) → List (Option (Option Blk))
  | [], h => h
  | (k, b) :: r, h => chg r (h.set k (some b))
def dOp (P : Program) (C : Ctx) (ops : Array Oper) (al : Nat → Bool) (nk i : Nat) (s : St) : Option St :=
  match ops[i]? with
  | none => none
  | some o =>
    match s.guard ops o with
    | none => none
    | some false => some (s.put o.dst undefA)
    | some true =>
      bif asr P C o s.ρ (s.rdk P C o al) then
        match kd P C o.op with
        | .p => match effP P o s.ρ with
          | some v => some (s.put o.dst v)
          | none => none
        | .r => match effR P C o s.ρ (s.rd al) with
          | some v => some (s.put o.dst v)
          | none => none
        | .a => match effA P o s.ρ (nk + i), s.heap[nk + i]? with
          | some (v, l), some none => some { s.put o.dst v with heap := chg l s.heap }
          | _, _ => none
        | .w => match effW P C o s.ρ (s.rd al) (nk + i), s.heap[nk + i]? with
          | some (v, l), some none => some { s.put o.dst v with heap := chg l s.heap }
          | _, _ => none
      else none

def dRun (P : Program) (C : Ctx) (ops : Array Oper) (al : Nat → Nat → Bool) (nk : Nat) : List Nat → St → Option St
  | [], s => some s
  | i :: is, s => match dOp P C ops (al i) nk i s with
    | some s' => dRun P C ops al nk is s'
    | none => none

end Go.Ev
