/-
  The tape: each reading of it has a value, and the tape stays in order.
  Conditions: those of TOK.
-/
import Derived.Test.YtogfplnonlpmcaaPA
import Derived.Test.YtogfplnonlpmcaaD2
namespace Go.LS
set_option linter.all false
set_option linter.unusedSimpArgs false
set_option linter.unusedVariables false

end Go.LS
