/-
  Facts about the program's types. No condition: printed by dec.py.
-/
import Derived.Test.YtdfbbiahpcelmaaD0
import Derived.Test.YtdfbbiahpcelmaaProg
import Derived.KernelRfl
namespace Go.LS
open Go.Proofs
set_option linter.all false
set_option linter.unusedSimpArgs false
set_option linter.unusedVariables false
set_option maxRecDepth 20000

theorem ty3 : tyOf Try.prog 3 = ⟨1, 8, false, [.int .i64 0], [0], .int .i64⟩ := by kernel_rfl
theorem ty4 : tyOf Try.prog 4 = ⟨1, 1, false, [.bool false], [0], .bool⟩ := by kernel_rfl
theorem ty5 : tyOf Try.prog 5 = ⟨1, 1, false, [.int .u8 0], [0], .int .u8⟩ := by kernel_rfl
theorem ty9 : tyOf Try.prog 9 = ⟨1, 16, false, [.string (bs [])], [0], .str⟩ := by kernel_rfl
theorem ty22 : tyOf Try.prog 22 = ⟨1, 24, false, [.slice none 0 0], [1], .sl 3⟩ := by kernel_rfl
theorem ty26 : tyOf Try.prog 26 = ⟨1, 24, true, [.slice none 0 0], [1], .st [(0, 22)]⟩ := by kernel_rfl
theorem ty27 : tyOf Try.prog 27 = ⟨1, 8, false, [.pointer none], [0], .other⟩ := by kernel_rfl
theorem ty31 : tyOf Try.prog 31 = ⟨2, 16, true, [.int .i64 0, .int .i64 0], [0, 0], .st [(0, 3), (1, 3)]⟩ := by kernel_rfl
theorem ty32 : tyOf Try.prog 32 = ⟨1, 8, false, [.int .i64 0], [0], .int .i64⟩ := by kernel_rfl
theorem ty51 : tyOf Try.prog 51 = ⟨8, 64, true, [.int .i64 0, .int .i64 0, .int .i64 0, .int .i64 0, .int .i64 0, .int .i64 0, .int .i64 0, .int .i64 0], [0, 0, 0, 0, 0, 0, 0, 0], .arr 4 31⟩ := by kernel_rfl
theorem ty53 : tyOf Try.prog 53 = ⟨4, 96, true, [.slice none 0 0, .slice none 0 0, .slice none 0 0, .slice none 0 0], [1, 1, 1, 1], .arr 4 26⟩ := by kernel_rfl
theorem ty55 : tyOf Try.prog 55 = ⟨4, 32, true, [.int .i64 0, .int .i64 0, .int .i64 0, .int .i64 0], [0, 0, 0, 0], .arr 4 3⟩ := by kernel_rfl
theorem ty58 : tyOf Try.prog 58 = ⟨2, 32, true, [.slice none 0 0, .int .i64 0], [1, 0], .st [(0, 22), (1, 3)]⟩ := by kernel_rfl
theorem ty61 : tyOf Try.prog 61 = ⟨1, 8, false, [.int .u64 0], [0], .int .u64⟩ := by kernel_rfl
theorem ty64 : tyOf Try.prog 64 = ⟨2, 16, true, [.int .u64 0, .int .u64 0], [0, 0], .st [(0, 61), (1, 61)]⟩ := by kernel_rfl
theorem ty76 : tyOf Try.prog 76 = ⟨2, 16, true, [.int .u64 0, .int .u64 0], [0, 0], .st [(0, 61), (1, 61)]⟩ := by kernel_rfl
theorem ty78 : tyOf Try.prog 78 = ⟨3, 24, true, [.bool false, .int .u64 0, .int .u64 0], [0, 0, 0], .st [(0, 4), (1, 76)]⟩ := by kernel_rfl
theorem ty84 : tyOf Try.prog 84 = ⟨1, 8, false, [.int .u64 0], [0], .int .u64⟩ := by kernel_rfl
def E00 : Env Try.prog := ⟨fun _ _ _ _ => ⟨False, [], []⟩, fun _ _ => [], fun _ => none, fun _ _ _ _ h => h.elim, fun _ _ h => nomatch h⟩
theorem eq_31 : EqOK Try.prog 31 [.int .i64 0, .int .i64 0] := by
  first
  | exact eqOKi [(3, .int .i64 0), (3, .int .i64 0)] (by kernel_rfl) (by kernel_rfl) (by kernel_rfl) (by kernel_rfl) (by kernel_rfl)
def E01 : Env Try.prog := Env.addT E00 31 [.int .i64 0, .int .i64 0] eq_31
theorem eq_64 : EqOK Try.prog 64 [.int .u64 0, .int .u64 0] := by
  first
  | exact eqOKi [(61, .int .u64 0), (61, .int .u64 0)] (by kernel_rfl) (by kernel_rfl) (by kernel_rfl) (by kernel_rfl) (by kernel_rfl)
def E02 : Env Try.prog := Env.addT E01 64 [.int .u64 0, .int .u64 0] eq_64
def E0 : Env Try.prog := E02
attribute [go_sem] ty3 ty4 ty5 ty9 ty22 ty26 ty27 ty31 ty32 ty51 ty53 ty55 ty58 ty61 ty64 ty76 ty78 ty84 E0 E00 E01 E02
end Go.LS
