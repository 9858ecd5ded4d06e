/-
  The framework LS, part 32: contracts of library functions that leave memory alone but for new blocks; strconv's numerals as plain functions.
  No condition: lemmas.
-/
import Derived.Test.YtmgjidfafnajnaaGreatLs31
import Derived.Sort.Grow
import Derived.Deep.Draws
import Derived.Lib.ItoaNum
import Derived.Laws.Strings
namespace Go.LS
set_option linter.all false
set_option linter.unusedSimpArgs false
set_option linter.unusedVariables false
open Go.RowKit Go.Sort
section
variable {P:Program}
theorem bs_toL (a:Str):(bs a).toList=a:=by rw [ByteArray.toList_eq]; simp [bs]
attribute [go_sem] bs_toL
theorem TabOK.nil {w:World}{B:List Nat}(h:TabOK w B):TabOK w []:=fun x hx=>⟨fun h'=>(nomatch h'),(h x hx).2⟩
end
end Go.LS
