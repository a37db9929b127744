/- Contracts and laws of functions of the program, on the way to the claim. Conditions: as each theorem states. -/
import Derived.Test.YtgaapeaclbpaeaaEvJ
namespace Go.Fb
open Go.Ev
/-- wide.U128 -/
structure U2 where
  hi : Int
  lo : Int
  deriving DecidableEq
/-- wide.U192 -/
structure U3 where
  hi : Int
  mid : Int
  lo : Int
  deriving DecidableEq
/-- ratio.R -/
structure RR where
  neg : Bool
  num : List Int
  den : List Int
  deriving DecidableEq
/-- a fraction of rows of bits -/
structure RQ where
  neg : Bool
  num : List Bool
  den : List Bool
  deriving DecidableEq
/-- round.number -/
structure RN where
  neg : Bool
  m : U2
  e : Int
  rest : Bool
  deriving DecidableEq
/-- A / B times 2^E, and perhaps a little more -/
structure RX where
  a : List Bool
  b : List Bool
  e : Int
  rest : Bool
  deriving DecidableEq
/-- soft.num -/
structure SN where
  f : Int
  c : Int
  neg : Bool
  m : Int
  e : Int
  deriving DecidableEq
/-- api.Span -/
structure SP where
  empty : Bool
  lo : Int
  hi : Int
  deriving DecidableEq
/-- slip's sides -/
structure SD where
  a : SP
  b : SP
  now : SP
  ea : Int
  eb : Int
  deriving DecidableEq
end Go.Fb
namespace Go.Ev
open Go.Fb
def ccU2 : CC U2 := ccMap (ccCons (ccInt .u64) (ccInt .u64)) (fun x => ⟨x.1, x.2⟩) (fun s => (s.hi, s.lo)) (fun _ => rfl)
def ccU3 : CC U3 := ccMap (ccCons (ccInt .u64) (ccCons (ccInt .u64) (ccInt .u64))) (fun x => ⟨x.1, x.2.1, x.2.2⟩) (fun s => (s.hi, s.mid, s.lo)) (fun _ => rfl)
def ccRR : CC RR := ccMap (ccCons ccBool (ccCons (ccInts .u32) (ccInts .u32))) (fun x => ⟨x.1, x.2.1, x.2.2⟩) (fun s => (s.neg, s.num, s.den)) (fun _ => rfl)
def ccRQ : CC RQ := ccMap (ccCons ccBool (ccCons ccBools ccBools)) (fun x => ⟨x.1, x.2.1, x.2.2⟩) (fun s => (s.neg, s.num, s.den)) (fun _ => rfl)
def ccRN : CC RN := ccMap (ccCons ccBool (ccCons ccU2 (ccCons (ccInt .i64) ccBool))) (fun x => ⟨x.1, x.2.1, x.2.2.1, x.2.2.2⟩) (fun s => (s.neg, s.m, s.e, s.rest)) (fun _ => rfl)
def ccRX : CC RX := ccMap (ccCons ccBools (ccCons ccBools (ccCons (ccInt .i64) ccBool))) (fun x => ⟨x.1, x.2.1, x.2.2.1, x.2.2.2⟩) (fun s => (s.a, s.b, s.e, s.rest)) (fun _ => rfl)
def ccSN : CC SN := ccMap (ccCons (ccInt .u64) (ccCons (ccInt .u8) (ccCons ccBool (ccCons (ccInt .u64) (ccInt .i64))))) (fun x => ⟨x.1, x.2.1, x.2.2.1, x.2.2.2.1, x.2.2.2.2⟩) (fun s => (s.f, s.c, s.neg, s.m, s.e)) (fun _ => rfl)
def ccSP : CC SP := ccMap (ccCons ccBool (ccCons (ccInt .u64) (ccInt .u64))) (fun x => ⟨x.1, x.2.1, x.2.2⟩) (fun s => (s.empty, s.lo, s.hi)) (fun _ => rfl)
def ccSD : CC SD := ccMap (ccCons ccSP (ccCons ccSP (ccCons ccSP (ccCons (ccInt .u64) (ccInt .u64))))) (fun x => ⟨x.1, x.2.1, x.2.2.1, x.2.2.2.1, x.2.2.2.2⟩) (fun s => (s.a, s.b, s.now, s.ea, s.eb)) (fun _ => rfl)
def cU2 : Cod U2 := cStruct ccU2
def cU3 : Cod U3 := cStruct ccU3
def cRR : Cod RR := cStruct ccRR
def cRQ : Cod RQ := cStruct ccRQ
def cRN : Cod RN := cStruct ccRN
def cRX : Cod RX := cStruct ccRX
def cSN : Cod SN := cStruct ccSN
def cSP : Cod SP := cStruct ccSP
def cSD : Cod SD := cStruct ccSD
/-- lists of rows, as they are -/
def cRow (ks : List Ct) : Cod (List (List Cv)) := cRows ks id id (fun _ => rfl)
def ecU2 : EC U2 where
  wd := 2
  cells s := [.int .u64 s.hi, .int .u64 s.lo]
  dec | [.int .u64 hi, .int .u64 lo] => some ⟨hi, lo⟩
      | _ => none
  ok l x h := by
    split at h
    · cases h; rfl
    · cases h
/-- two words of an array -/
def ecW2 : EC (Int × Int) where
  wd := 2
  cells s := [.int .u64 s.1, .int .u64 s.2]
  dec | [.int .u64 hi, .int .u64 lo] => some (hi, lo)
      | _ => none
  ok l x h := by
    split at h
    · cases h; rfl
    · cases h
end Go.Ev
