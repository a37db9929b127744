/- The program's struct types and their codecs. -/
import Derived.Test.YtfbpklopnnnniaaEvJ
namespace Go.Fb
open Go.Ev
/-- api.Ints -/
structure I3 where
  e : Bool
  lo : Int
  hi : Int
  deriving DecidableEq
/-- clock.Clock, flyballref21.Pair -/
structure CK where
  d : I3
  p : I3
  deriving DecidableEq
end Go.Fb
namespace Go.Ev
open Go.Fb
def cI3 : Cod I3 where
  enc _ s := .one true [.bool s.e, .int .i64 s.lo, .int .i64 s.hi]
  dec _ | .one true [.bool e, .int .i64 lo, .int .i64 hi] => some ⟨e, lo, hi⟩
        | _ => none
  ok rd a x h := by
    split at h
    · cases h; exact fun C E w v _ hv => plain_in rfl hv
    · cases h
def cCK : Cod CK where
  enc _ s := .one true [.bool s.d.e, .int .i64 s.d.lo, .int .i64 s.d.hi, .bool s.p.e, .int .i64 s.p.lo, .int .i64 s.p.hi]
  dec _ | .one true [.bool e, .int .i64 lo, .int .i64 hi, .bool e', .int .i64 lo', .int .i64 hi'] => some ⟨⟨e, lo, hi⟩, ⟨e', lo', hi'⟩⟩
        | _ => none
  ok rd a x h := by
    split at h
    · cases h; exact fun C E w v _ hv => plain_in rfl hv
    · cases h
def ecI3 : EC I3 where
  wd := 3
  cells s := [.bool s.e, .int .i64 s.lo, .int .i64 s.hi]
  dec | [.bool e, .int .i64 lo, .int .i64 hi] => some ⟨e, lo, hi⟩
      | _ => none
  ok l x h := by
    split at h
    · cases h; rfl
    · cases h
end Go.Ev
