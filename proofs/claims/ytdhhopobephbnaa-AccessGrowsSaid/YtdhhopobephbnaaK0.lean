/-
  Facts about the program's types. No condition: printed by dec.py.
-/
import Derived.Test.YtdhhopobephbnaaD0
import Derived.Test.YtdhhopobephbnaaProg
import Derived.KernelRfl
namespace Go.LS
open Go.Proofs
set_option linter.all false
set_option linter.unusedSimpArgs false
set_option linter.unusedVariables false
set_option maxRecDepth 20000

theorem ty3 : tyOf Try.prog 3 = ⟨1, 8, false, [.int .i64 0], [0], .int .i64⟩ := by kernel_rfl
theorem ty4 : tyOf Try.prog 4 = ⟨1, 1, false, [.bool false], [0], .bool⟩ := by kernel_rfl
theorem ty22 : tyOf Try.prog 22 = ⟨1, 24, false, [.slice none 0 0], [1], .sl 3⟩ := by kernel_rfl
theorem ty23 : tyOf Try.prog 23 = ⟨1, 24, false, [.slice none 0 0], [4], .sl 28⟩ := by kernel_rfl
theorem ty24 : tyOf Try.prog 24 = ⟨1, 8, false, [.pointer none], [0], .other⟩ := by kernel_rfl
theorem ty28 : tyOf Try.prog 28 = ⟨4, 32, true, [.int .i64 0, .int .i64 0, .int .i64 0, .int .i64 0], [0, 0, 0, 0], .st [(0, 3), (1, 3), (2, 3), (3, 3)]⟩ := by kernel_rfl
theorem ty29 : tyOf Try.prog 29 = ⟨1, 8, false, [.int .i64 0], [0], .int .i64⟩ := by kernel_rfl
theorem ty35 : tyOf Try.prog 35 = ⟨1, 24, false, [.slice none 0 0], [5], .sl 49⟩ := by kernel_rfl
theorem ty38 : tyOf Try.prog 38 = ⟨2, 16, true, [.int .i64 0, .int .i64 0], [0, 0], .st [(0, 3), (1, 3)]⟩ := by kernel_rfl
theorem ty49 : tyOf Try.prog 49 = ⟨5, 40, true, [.int .i64 0, .int .i64 0, .int .i64 0, .int .i64 0, .int .i64 0], [0, 0, 0, 0, 0], .st [(0, 3), (1, 3), (2, 3), (3, 3), (4, 3)]⟩ := by kernel_rfl
theorem ty57 : tyOf Try.prog 57 = ⟨2, 32, true, [.slice none 0 0, .int .i64 0], [1, 0], .st [(0, 22), (1, 3)]⟩ := by kernel_rfl
theorem ty61 : tyOf Try.prog 61 = ⟨1, 24, false, [.slice none 0 0], [2], .sl 38⟩ := by kernel_rfl
def E00 : Env Try.prog := ⟨fun _ _ _ _ => ⟨False, [], []⟩, fun _ => none, fun _ _ _ _ h => h.elim, fun _ _ h => nomatch h⟩
theorem eq_38 : EqOK Try.prog 38 [.int .i64 0, .int .i64 0] := by
  first
  | exact eqOKi [(3, .int .i64 0), (3, .int .i64 0)] (by kernel_rfl) (by kernel_rfl) (by kernel_rfl) (by kernel_rfl) (by kernel_rfl)
def E01 : Env Try.prog := Env.addT E00 38 [.int .i64 0, .int .i64 0] eq_38
def E0 : Env Try.prog := E01
attribute [go_sem] ty3 ty4 ty22 ty23 ty24 ty28 ty29 ty35 ty38 ty49 ty57 ty61 E0 E00 E01
end Go.LS
