/-
  Facts about the program's types. No condition: printed by dec.py.
-/
import Derived.Test.YtamifffofclhkaaD0
import Derived.Test.YtamifffofclhkaaProg
import Derived.KernelRfl
namespace Go.LS
open Go.Proofs
set_option linter.all false
set_option linter.unusedSimpArgs false
set_option linter.unusedVariables false
set_option maxRecDepth 20000

theorem ty3 : tyOf Try.prog 3 = ⟨1, 8, false, [.int .i64 0], [0], .int .i64⟩ := by kernel_rfl
theorem ty4 : tyOf Try.prog 4 = ⟨1, 1, false, [.bool false], [0], .bool⟩ := by kernel_rfl
theorem ty5 : tyOf Try.prog 5 = ⟨1, 1, false, [.int .u8 0], [0], .int .u8⟩ := by kernel_rfl
theorem ty9 : tyOf Try.prog 9 = ⟨1, 16, false, [.string (bs [])], [0], .str⟩ := by kernel_rfl
theorem ty22 : tyOf Try.prog 22 = ⟨1, 24, false, [.slice none 0 0], [1], .sl 3⟩ := by kernel_rfl
theorem ty25 : tyOf Try.prog 25 = ⟨1, 8, false, [.pointer none], [0], .other⟩ := by kernel_rfl
theorem ty28 : tyOf Try.prog 28 = ⟨1, 24, true, [.slice none 0 0], [1], .st [(0, 22)]⟩ := by kernel_rfl
theorem ty31 : tyOf Try.prog 31 = ⟨1, 8, false, [.int .i64 0], [0], .int .i64⟩ := by kernel_rfl
theorem ty40 : tyOf Try.prog 40 = ⟨2, 16, true, [.int .i64 0, .int .i64 0], [0, 0], .st [(0, 3), (1, 3)]⟩ := by kernel_rfl
theorem ty49 : tyOf Try.prog 49 = ⟨1, 24, false, [.slice none 0 0], [4], .sl 70⟩ := by kernel_rfl
theorem ty51 : tyOf Try.prog 51 = ⟨1, 24, true, [.slice none 0 0], [4], .st [(0, 49)]⟩ := by kernel_rfl
theorem ty57 : tyOf Try.prog 57 = ⟨2, 32, true, [.slice none 0 0, .int .i64 0], [1, 0], .st [(0, 22), (1, 3)]⟩ := by kernel_rfl
theorem ty61 : tyOf Try.prog 61 = ⟨1, 8, false, [.int .u64 0], [0], .int .u64⟩ := by kernel_rfl
theorem ty70 : tyOf Try.prog 70 = ⟨4, 32, true, [.int .i64 0, .int .i64 0, .int .i64 0, .int .i64 0], [0, 0, 0, 0], .st [(0, 40), (2, 40)]⟩ := by kernel_rfl
theorem ty71 : tyOf Try.prog 71 = ⟨1, 8, false, [.nilFunc], [0], .other⟩ := by kernel_rfl
theorem ty82 : tyOf Try.prog 82 = ⟨2, 16, true, [.int .u64 0, .int .u64 0], [0, 0], .st [(0, 61), (1, 61)]⟩ := by kernel_rfl
theorem ty84 : tyOf Try.prog 84 = ⟨3, 24, true, [.bool false, .int .u64 0, .int .u64 0], [0, 0, 0], .st [(0, 4), (1, 82)]⟩ := by kernel_rfl
theorem ty89 : tyOf Try.prog 89 = ⟨1, 8, false, [.int .u64 0], [0], .int .u64⟩ := by kernel_rfl
theorem ty101 : tyOf Try.prog 101 = ⟨1, 8, true, [.int .i64 0], [0], .st [(0, 31)]⟩ := by kernel_rfl
theorem ty104 : tyOf Try.prog 104 = ⟨1, 8, false, [.nilFunc], [0], .other⟩ := by kernel_rfl
theorem ty105 : tyOf Try.prog 105 = ⟨1, 8, false, [.nilFunc], [0], .other⟩ := by kernel_rfl
theorem ty112 : tyOf Try.prog 112 = ⟨1, 8, false, [.pointer none], [0], .other⟩ := by kernel_rfl
def E00 : Env Try.prog := ⟨fun _ _ _ _ => ⟨False, [], []⟩, fun _ _ => [], fun _ => none, fun _ _ _ _ h => h.elim, fun _ _ h => nomatch h⟩
def E0 : Env Try.prog := E00
attribute [go_sem] ty3 ty4 ty5 ty9 ty22 ty25 ty28 ty31 ty40 ty49 ty51 ty57 ty61 ty70 ty71 ty82 ty84 ty89 ty101 ty104 ty105 ty112 E0 E00
end Go.LS
