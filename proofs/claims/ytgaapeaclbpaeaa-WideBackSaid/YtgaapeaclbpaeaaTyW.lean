/- Contracts and laws of functions of the program, on the way to the claim. Conditions: as each theorem states. -/
import Derived.Test.YtgaapeaclbpaeaaEvJ
namespace Go.Fb
open Go.Ev
/-- wide.U128 -/
structure U2 where
  hi : Int
  lo : Int
  deriving DecidableEq
/-- wide.U192 -/
structure U3 where
  hi : Int
  mid : Int
  lo : Int
  deriving DecidableEq
end Go.Fb
namespace Go.Ev
open Go.Fb
def cU2 : Cod U2 where
  enc _ s := .one true [.int .u64 s.hi, .int .u64 s.lo]
  dec _ | .one true [.int .u64 hi, .int .u64 lo] => some ⟨hi, lo⟩
        | _ => none
  ok rd a x h := by
    split at h
    · cases h; exact fun C E w v _ hv => plain_in rfl hv
    · cases h
def cU3 : Cod U3 where
  enc _ s := .one true [.int .u64 s.hi, .int .u64 s.mid, .int .u64 s.lo]
  dec _ | .one true [.int .u64 hi, .int .u64 mid, .int .u64 lo] => some ⟨hi, mid, lo⟩
        | _ => none
  ok rd a x h := by
    split at h
    · cases h; exact fun C E w v _ hv => plain_in rfl hv
    · cases h
def ecU2 : EC U2 where
  wd := 2
  cells s := [.int .u64 s.hi, .int .u64 s.lo]
  dec | [.int .u64 hi, .int .u64 lo] => some ⟨hi, lo⟩
      | _ => none
  ok l x h := by
    split at h
    · cases h; rfl
    · cases h
/-- two words of an array -/
def ecW2 : EC (Int × Int) where
  wd := 2
  cells s := [.int .u64 s.1, .int .u64 s.2]
  dec | [.int .u64 hi, .int .u64 lo] => some (hi, lo)
      | _ => none
  ok l x h := by
    split at h
    · cases h; rfl
    · cases h
end Go.Ev
