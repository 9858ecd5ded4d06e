/-
  Law 01: the sanity check, and the laws about New, Valid and Compare.
  Conditions: numbers in the ranges of their Go types.
-/
import Derived.Test.YtogfplnonlpmcaaPS
namespace Go.LS
set_option linter.all false
set_option linter.unusedSimpArgs false
set_option linter.unusedVariables false
set_option maxRecDepth 20000

theorem some_bind {α β : Type} (x : α) (f : α → Option β) : (some x).bind f = f x := rfl
theorem Less_eq (a b : api_Ratio) : ratio_Less a b = some (cmpR a b == -1) := by
  unfold ratio_Less; rw [Compare_eq]; rfl
theorem cmpR_vals (a b : api_Ratio) : cmpR a b = -1 ∨ cmpR a b = 0 ∨ cmpR a b = 1 := by
  unfold cmpR cmpI; (repeat' split) <;> simp
theorem less_same (a b : api_Ratio) : (cmpR a b == -1) = decide (cmpR a b < 0) := by
  rcases cmpR_vals a b with h | h | h <;> rw [h] <;> rfl
end Go.LS
