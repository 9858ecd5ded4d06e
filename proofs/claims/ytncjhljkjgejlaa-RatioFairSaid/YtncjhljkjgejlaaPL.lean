/-
  Law 01: the sanity check, and the laws about New, Valid and Compare.
  Conditions: numbers in the ranges of their Go types.
-/
import Derived.Test.YtncjhljkjgejlaaPS
namespace Go.LS
set_option linter.all false
set_option linter.unusedSimpArgs false
set_option linter.unusedVariables false
set_option maxRecDepth 20000

theorem some_bind {α β : Type} (x : α) (f : α → Option β) : (some x).bind f = f x := rfl
theorem awake_apportion : ratio_Apportion 3 [5, 3, 0] = some ([2, 1, 0], 0) := by
  unfold ratio_Apportion
  repeat (first | (rfl; done) | (rw [iter_eq]; simp [IntKind.wrap, IntKind.bits, IntKind.signed, ratio_Apportion_l6, ratio_Apportion_j5, ratio_Apportion_l4, ratio_Apportion_j3, ratio_Apportion_l2, ratio_Apportion_j1, req_pos, bindV, ix, setI, rep,
    slices_SortStableFunc_intint_ratio_Apportion_f1, slices_stableCmpFunc_int_ratio_Apportion_f1, slices_stableCmpFunc_int_ratio_Apportion_f1_l6, slices_stableCmpFunc_int_ratio_Apportion_f1_j5, slices_stableCmpFunc_int_ratio_Apportion_f1_l4,
    slices_insertionSortCmpFunc_int_ratio_Apportion_f1, slices_insertionSortCmpFunc_int_ratio_Apportion_f1_l3, slices_insertionSortCmpFunc_int_ratio_Apportion_f1_l2, slices_insertionSortCmpFunc_int_ratio_Apportion_f1_j1, ratio_Apportion_f1, cmp_Compare_int, cmp_isNaN_int]))
theorem awake_eq : law01_awake = some true := by
  unfold law01_awake
  rw [New_eq 6 (-4) ⟨by decide, by decide⟩ ⟨by decide, by decide⟩, awake_apportion]
  simp [newOf, redOf, fitOf, req_pos, ix]
theorem Less_eq (a b : api_Ratio) : ratio_Less a b = some (cmpR a b == -1) := by
  unfold ratio_Less; rw [Compare_eq]; rfl
theorem cmpR_vals (a b : api_Ratio) : cmpR a b = -1 ∨ cmpR a b = 0 ∨ cmpR a b = 1 := by
  unfold cmpR cmpI; (repeat' split) <;> simp
theorem less_same (a b : api_Ratio) : (cmpR a b == -1) = decide (cmpR a b < 0) := by
  rcases cmpR_vals a b with h | h | h <;> rw [h] <;> rfl
theorem pure_RatioMakes (num den : Int) (hn : I64 num) (hd : I64 den) : law01_RatioMakes num den = some true := by
  unfold law01_RatioMakes
  rw [New_eq num den hn hd, NewR_eq num den hn hd]
  simp [awake_eq, req_pos]
theorem pure_RatioValid (num den : Int) : law01_RatioValid num den = some true := by
  unfold law01_RatioValid
  rw [Valid_eq, ValidR_eq]
  simp [awake_eq, req_pos]
theorem pure_RatioCompares (a b c d : Int) : law01_RatioCompares a b c d = some true := by
  unfold law01_RatioCompares
  rw [Compare_eq, CompareR_eq, Less_eq, LessR_eq]
  simp [awake_eq, req_pos, less_same]
end Go.LS
