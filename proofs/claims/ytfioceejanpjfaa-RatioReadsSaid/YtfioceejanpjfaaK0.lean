/-
  Facts about the program's types. No condition: printed by dec.py.
-/
import Derived.Test.YtfioceejanpjfaaD0
import Derived.Test.YtfioceejanpjfaaProg
import Derived.KernelRfl
namespace Go.LS
open Go.Proofs
set_option linter.all false
set_option linter.unusedSimpArgs false
set_option linter.unusedVariables false
set_option maxRecDepth 20000

theorem ty3 : tyOf Try.prog 3 = ⟨1, 8, false, [.int .i64 0], [0], .int .i64⟩ := by kernel_rfl
theorem ty4 : tyOf Try.prog 4 = ⟨1, 1, false, [.bool false], [0], .bool⟩ := by kernel_rfl
theorem ty5 : tyOf Try.prog 5 = ⟨1, 1, false, [.int .u8 0], [0], .int .u8⟩ := by kernel_rfl
theorem ty9 : tyOf Try.prog 9 = ⟨1, 16, false, [.string (bs [])], [0], .str⟩ := by kernel_rfl
theorem ty23 : tyOf Try.prog 23 = ⟨2, 16, true, [.int .i64 0, .int .i64 0], [0, 0], .st [(0, 3), (1, 3)]⟩ := by kernel_rfl
theorem ty24 : tyOf Try.prog 24 = ⟨1, 8, false, [.int .i64 0], [0], .int .i64⟩ := by kernel_rfl
theorem ty29 : tyOf Try.prog 29 = ⟨1, 24, false, [.slice none 0 0], [1], .sl 3⟩ := by kernel_rfl
theorem ty30 : tyOf Try.prog 30 = ⟨1, 8, false, [.pointer none], [0], .other⟩ := by kernel_rfl
theorem ty35 : tyOf Try.prog 35 = ⟨1, 24, false, [.slice none 0 0], [1], .sl 5⟩ := by kernel_rfl
theorem ty36 : tyOf Try.prog 36 = ⟨1, 24, false, [.slice none 0 0], [1], .sl 9⟩ := by kernel_rfl
theorem ty41 : tyOf Try.prog 41 = ⟨1, 24, false, [.slice none 0 0], [2], .sl 23⟩ := by kernel_rfl
theorem ty47 : tyOf Try.prog 47 = ⟨1, 8, false, [.int .u64 0], [0], .int .u64⟩ := by kernel_rfl
theorem ty52 : tyOf Try.prog 52 = ⟨2, 16, true, [.int .u64 0, .int .u64 0], [0, 0], .st [(0, 47), (1, 47)]⟩ := by kernel_rfl
theorem ty54 : tyOf Try.prog 54 = ⟨3, 24, true, [.bool false, .int .u64 0, .int .u64 0], [0, 0, 0], .st [(0, 4), (1, 52)]⟩ := by kernel_rfl
theorem ty61 : tyOf Try.prog 61 = ⟨2, 16, true, [.int .u64 0, .int .u64 0], [0, 0], .st [(0, 47), (1, 47)]⟩ := by kernel_rfl
theorem ty67 : tyOf Try.prog 67 = ⟨2, 32, true, [.slice none 0 0, .int .i64 0], [1, 0], .st [(0, 29), (1, 3)]⟩ := by kernel_rfl
theorem ty88 : tyOf Try.prog 88 = ⟨1, 8, false, [.int .u64 0], [0], .int .u64⟩ := by kernel_rfl
def E00 : Env Try.prog := ⟨fun _ _ _ _ => ⟨False, [], []⟩, fun _ _ => [], fun _ => none, fun _ _ _ _ h => h.elim, fun _ _ h => nomatch h⟩
theorem eq_23 : EqOK Try.prog 23 [.int .i64 0, .int .i64 0] := by
  first
  | exact eqOKi [(3, .int .i64 0), (3, .int .i64 0)] (by kernel_rfl) (by kernel_rfl) (by kernel_rfl) (by kernel_rfl) (by kernel_rfl)
def E01 : Env Try.prog := Env.addT E00 23 [.int .i64 0, .int .i64 0] eq_23
theorem eq_61 : EqOK Try.prog 61 [.int .u64 0, .int .u64 0] := by
  first
  | exact eqOKi [(47, .int .u64 0), (47, .int .u64 0)] (by kernel_rfl) (by kernel_rfl) (by kernel_rfl) (by kernel_rfl) (by kernel_rfl)
def E02 : Env Try.prog := Env.addT E01 61 [.int .u64 0, .int .u64 0] eq_61
def E0 : Env Try.prog := E02
attribute [go_sem] ty3 ty4 ty5 ty9 ty23 ty24 ty29 ty30 ty35 ty36 ty41 ty47 ty52 ty54 ty61 ty67 ty88 E0 E00 E01 E02
end Go.LS
