/-
  The framework LS, part 0: the package variables of which something is known at the start (by number), as this seat has them.
  No condition: a definition.
-/
import Derived.Calls
namespace Go.LS
set_option linter.all false

/-- rscode's powers of 2, and the exponents -/
def powT : List Int := [1, 2, 4, 8, 16, 5, 10, 20, 13, 26, 17, 7, 14, 28, 29, 31, 27, 19, 3, 6, 12, 24, 21, 15, 30, 25, 23, 11, 22, 9, 18]
def logT : List Int := [0, 0, 1, 18, 2, 5, 19, 11, 3, 29, 6, 27, 20, 8, 12, 23, 4, 10, 30, 17, 7, 22, 28, 26, 21, 25, 9, 16, 13, 14, 24, 15]
def isInts (l : List Int) (o : Obj) : Prop := ∃ t fz, o = .cells (l.map fun z => Value.int .i64 z).toArray t fz
/-- the block's number, and what is known of it -/
def knownTabs : List (Nat × (Obj → Prop)) := [(0, isInts powT), (1, isInts logT)]

end Go.LS
