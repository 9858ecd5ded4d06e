/-
  The framework LS, part 0: the package variables of which something is known at the start (by number), as this seat has them.
  No condition: a definition.
-/
import Derived.Calls
import Derived.Lib.ItoaNum
namespace Go.LS
set_option linter.all false

/-- the table of powers of ten -/
def isPow10 (o : Obj) : Prop := ∃ t fz, o = .cells (Lib.pow10Tab.map fun z => Value.int .u64 z).toArray t fz
/-- a variable that holds one int -/
def isInt1 (o : Obj) : Prop := ∃ m t fz, o = .cells #[.int .i64 m] t fz
/-- the block's number, and what is known of it -/
def knownTabs : List (Nat × (Obj → Prop)) := [(0, isPow10), (1, isInt1)]

end Go.LS
