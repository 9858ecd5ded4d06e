/-
  Facts about the program's types. No condition: printed by dec.py.
-/
import Derived.Test.YtncjhljkjgejlaaD0
import Derived.Test.YtncjhljkjgejlaaProg
import Derived.KernelRfl
namespace Go.LS
open Go.Proofs
set_option linter.all false
set_option linter.unusedSimpArgs false
set_option linter.unusedVariables false
set_option maxRecDepth 20000

theorem ty3 : tyOf Try.prog 3 = ⟨1, 8, false, [.int .i64 0], [0], .int .i64⟩ := by kernel_rfl
theorem ty4 : tyOf Try.prog 4 = ⟨1, 1, false, [.bool false], [0], .bool⟩ := by kernel_rfl
theorem ty5 : tyOf Try.prog 5 = ⟨1, 1, false, [.int .u8 0], [0], .int .u8⟩ := by kernel_rfl
theorem ty9 : tyOf Try.prog 9 = ⟨1, 16, false, [.string (bs [])], [0], .str⟩ := by kernel_rfl
theorem ty22 : tyOf Try.prog 22 = ⟨1, 24, false, [.slice none 0 0], [1], .sl 3⟩ := by kernel_rfl
theorem ty23 : tyOf Try.prog 23 = ⟨1, 8, false, [.int .i64 0], [0], .int .i64⟩ := by kernel_rfl
theorem ty29 : tyOf Try.prog 29 = ⟨1, 8, false, [.pointer none], [0], .other⟩ := by kernel_rfl
theorem ty35 : tyOf Try.prog 35 = ⟨2, 16, true, [.int .i64 0, .int .i64 0], [0, 0], .st [(0, 3), (1, 3)]⟩ := by kernel_rfl
theorem ty47 : tyOf Try.prog 47 = ⟨1, 24, false, [.slice none 0 0], [2], .sl 35⟩ := by kernel_rfl
theorem ty53 : tyOf Try.prog 53 = ⟨2, 32, true, [.slice none 0 0, .int .i64 0], [1, 0], .st [(0, 22), (1, 3)]⟩ := by kernel_rfl
theorem ty55 : tyOf Try.prog 55 = ⟨1, 8, false, [.int .u64 0], [0], .int .u64⟩ := by kernel_rfl
theorem ty58 : tyOf Try.prog 58 = ⟨2, 16, true, [.int .u64 0, .int .u64 0], [0, 0], .st [(0, 55), (1, 55)]⟩ := by kernel_rfl
theorem ty60 : tyOf Try.prog 60 = ⟨3, 24, true, [.bool false, .int .u64 0, .int .u64 0], [0, 0, 0], .st [(0, 4), (1, 58)]⟩ := by kernel_rfl
theorem ty63 : tyOf Try.prog 63 = ⟨2, 16, true, [.int .u64 0, .int .u64 0], [0, 0], .st [(0, 55), (1, 55)]⟩ := by kernel_rfl
theorem ty93 : tyOf Try.prog 93 = ⟨1, 8, false, [.int .u64 0], [0], .int .u64⟩ := by kernel_rfl
def E00 : Env Try.prog := ⟨fun _ _ _ _ => ⟨False, [], []⟩, fun _ _ => [], fun _ => none, fun _ _ _ _ h => h.elim, fun _ _ h => nomatch h⟩
theorem eq_35 : EqOK Try.prog 35 [.int .i64 0, .int .i64 0] := by
  first
  | exact eqOKi [(3, .int .i64 0), (3, .int .i64 0)] (by kernel_rfl) (by kernel_rfl) (by kernel_rfl) (by kernel_rfl) (by kernel_rfl)
def E01 : Env Try.prog := Env.addT E00 35 [.int .i64 0, .int .i64 0] eq_35
theorem eq_63 : EqOK Try.prog 63 [.int .u64 0, .int .u64 0] := by
  first
  | exact eqOKi [(55, .int .u64 0), (55, .int .u64 0)] (by kernel_rfl) (by kernel_rfl) (by kernel_rfl) (by kernel_rfl) (by kernel_rfl)
def E02 : Env Try.prog := Env.addT E01 63 [.int .u64 0, .int .u64 0] eq_63
def E0 : Env Try.prog := E02
attribute [go_sem] ty3 ty4 ty5 ty9 ty22 ty23 ty29 ty35 ty47 ty53 ty55 ty58 ty60 ty63 ty93 E0 E00 E01 E02
end Go.LS
