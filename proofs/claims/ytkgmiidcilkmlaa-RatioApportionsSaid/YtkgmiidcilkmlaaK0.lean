/-
  Facts about the program's types. No condition: printed by dec.py.
-/
import Derived.Test.YtkgmiidcilkmlaaD0
import Derived.Test.YtkgmiidcilkmlaaProg
import Derived.KernelRfl
namespace Go.LS
open Go.Proofs
set_option linter.all false
set_option linter.unusedSimpArgs false
set_option linter.unusedVariables false
set_option maxRecDepth 20000

theorem ty3 : tyOf Try.prog 3 = ⟨1, 8, false, [.int .i64 0], [0], .int .i64⟩ := by kernel_rfl
theorem ty4 : tyOf Try.prog 4 = ⟨1, 1, false, [.bool false], [0], .bool⟩ := by kernel_rfl
theorem ty5 : tyOf Try.prog 5 = ⟨1, 1, false, [.int .u8 0], [0], .int .u8⟩ := by kernel_rfl
theorem ty9 : tyOf Try.prog 9 = ⟨1, 16, false, [.string (bs [])], [0], .str⟩ := by kernel_rfl
theorem ty22 : tyOf Try.prog 22 = ⟨1, 24, false, [.slice none 0 0], [1], .sl 3⟩ := by kernel_rfl
theorem ty23 : tyOf Try.prog 23 = ⟨1, 8, false, [.int .i64 0], [0], .int .i64⟩ := by kernel_rfl
theorem ty30 : tyOf Try.prog 30 = ⟨1, 8, false, [.nilFunc], [0], .other⟩ := by kernel_rfl
theorem ty32 : tyOf Try.prog 32 = ⟨2, 16, true, [.int .i64 0, .int .i64 0], [0, 0], .st [(0, 3), (1, 3)]⟩ := by kernel_rfl
theorem ty38 : tyOf Try.prog 38 = ⟨1, 8, false, [.int .u64 0], [0], .int .u64⟩ := by kernel_rfl
theorem ty41 : tyOf Try.prog 41 = ⟨2, 16, true, [.int .u64 0, .int .u64 0], [0, 0], .st [(0, 38), (1, 38)]⟩ := by kernel_rfl
theorem ty43 : tyOf Try.prog 43 = ⟨3, 24, true, [.bool false, .int .u64 0, .int .u64 0], [0, 0, 0], .st [(0, 4), (1, 41)]⟩ := by kernel_rfl
theorem ty50 : tyOf Try.prog 50 = ⟨1, 8, false, [.int .u64 0], [0], .int .u64⟩ := by kernel_rfl
def E00 : Env Try.prog := ⟨fun _ _ _ _ => ⟨False, [], []⟩, fun _ _ => [], fun _ => none, fun _ _ _ _ h => h.elim, fun _ _ h => nomatch h⟩
theorem eq_32 : EqOK Try.prog 32 [.int .i64 0, .int .i64 0] := by
  first
  | exact eqOKi [(3, .int .i64 0), (3, .int .i64 0)] (by kernel_rfl) (by kernel_rfl) (by kernel_rfl) (by kernel_rfl) (by kernel_rfl)
def E01 : Env Try.prog := Env.addT E00 32 [.int .i64 0, .int .i64 0] eq_32
def E0 : Env Try.prog := E01
attribute [go_sem] ty3 ty4 ty5 ty9 ty22 ty23 ty30 ty32 ty38 ty41 ty43 ty50 E0 E00 E01
end Go.LS
