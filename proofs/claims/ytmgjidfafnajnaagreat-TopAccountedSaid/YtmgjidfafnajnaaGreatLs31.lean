/-
  The framework LS, part 31: arguments that are slices of structs of numbers, and structs with such slices.
  No condition: lemmas.
-/
import Derived.Test.YtmgjidfafnajnaaGreatLs30
import Derived.ChangeSlices
namespace Go.LS
set_option linter.all false
set_option linter.unusedSimpArgs false
set_option linter.unusedVariables false
open Go.RowKit
section
variable {H:Type} {enc:TypeId×Value→H} {P:Program} {w:World} {spare:Nat→Bool} {held:Bool}
end
end Go.LS
namespace Go.LS
end Go.LS
