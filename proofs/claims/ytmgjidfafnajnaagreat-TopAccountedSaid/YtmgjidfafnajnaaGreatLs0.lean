/-
  The framework LS, part 0: the package variables of which something is known at the start (by number), as this seat has them.
  No condition: a definition.
-/
import Derived.Calls
namespace Go.LS
set_option linter.all false
def knownTabs:List (Nat×(Obj→Prop)):=[]
end Go.LS
