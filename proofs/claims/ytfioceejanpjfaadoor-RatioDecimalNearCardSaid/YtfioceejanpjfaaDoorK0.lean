/-
  Facts about the program's types. No condition: printed by dec.py.
-/
import Derived.Test.YtfioceejanpjfaaDoorD0
import Derived.Test.YtfioceejanpjfaaDoorLX
import Derived.Test.YtfioceejanpjfaaDoorProg
import Derived.KernelRfl
namespace Go.LS
open Go.Proofs
set_option linter.all false
set_option linter.unusedSimpArgs false
set_option linter.unusedVariables false
set_option maxRecDepth 20000

theorem ty3 : tyOf Tryd.prog 3 = ⟨1, 8, false, [.int .i64 0], [0], .int .i64⟩ := by kernel_rfl
theorem ty4 : tyOf Tryd.prog 4 = ⟨1, 1, false, [.bool false], [0], .bool⟩ := by kernel_rfl
theorem ty5 : tyOf Tryd.prog 5 = ⟨1, 1, false, [.int .u8 0], [0], .int .u8⟩ := by kernel_rfl
theorem ty9 : tyOf Tryd.prog 9 = ⟨1, 16, false, [.string (bs [])], [0], .str⟩ := by kernel_rfl
theorem ty22 : tyOf Tryd.prog 22 = ⟨1, 24, false, [.slice none 0 0], [1], .sl 3⟩ := by kernel_rfl
theorem ty24 : tyOf Tryd.prog 24 = ⟨2, 16, true, [.int .i64 0, .int .i64 0], [0, 0], .st [(0, 3), (1, 3)]⟩ := by kernel_rfl
theorem ty25 : tyOf Tryd.prog 25 = ⟨1, 8, false, [.pointer none], [0], .other⟩ := by kernel_rfl
theorem ty28 : tyOf Tryd.prog 28 = ⟨1, 8, false, [.nilFunc], [0], .other⟩ := by kernel_rfl
theorem ty33 : tyOf Tryd.prog 33 = ⟨1, 8, false, [.int .i64 0], [0], .int .i64⟩ := by kernel_rfl
theorem ty41 : tyOf Tryd.prog 41 = ⟨2, 32, true, [.slice none 0 0, .int .i64 0], [1, 0], .st [(0, 22), (1, 3)]⟩ := by kernel_rfl
theorem ty43 : tyOf Tryd.prog 43 = ⟨1, 8, false, [.int .u64 0], [0], .int .u64⟩ := by kernel_rfl
theorem ty46 : tyOf Tryd.prog 46 = ⟨2, 16, true, [.int .u64 0, .int .u64 0], [0, 0], .st [(0, 43), (1, 43)]⟩ := by kernel_rfl
theorem ty52 : tyOf Tryd.prog 52 = ⟨2, 16, true, [.int .u64 0, .int .u64 0], [0, 0], .st [(0, 43), (1, 43)]⟩ := by kernel_rfl
theorem ty68 : tyOf Tryd.prog 68 = ⟨3, 24, true, [.bool false, .int .u64 0, .int .u64 0], [0, 0, 0], .st [(0, 4), (1, 46)]⟩ := by kernel_rfl
theorem ty79 : tyOf Tryd.prog 79 = ⟨1, 8, false, [.int .u64 0], [0], .int .u64⟩ := by kernel_rfl
theorem ty80 : tyOf Tryd.prog 80 = ⟨1, 24, false, [.slice none 0 0], [1], .sl 5⟩ := by kernel_rfl
def E00 : Env Tryd.prog := ⟨fun _ _ _ _ => ⟨False, [], []⟩, fun _ _ => [], fun _ => none, fun _ _ _ _ h => h.elim, fun _ _ h => nomatch h⟩
theorem eq_24 : EqOK Tryd.prog 24 [.int .i64 0, .int .i64 0] := by
  first
  | exact eqOKi [(3, .int .i64 0), (3, .int .i64 0)] (by kernel_rfl) (by kernel_rfl) (by kernel_rfl) (by kernel_rfl) (by kernel_rfl)
def E01 : Env Tryd.prog := Env.addT E00 24 [.int .i64 0, .int .i64 0] eq_24
theorem eq_52 : EqOK Tryd.prog 52 [.int .u64 0, .int .u64 0] := by
  first
  | exact eqOKi [(43, .int .u64 0), (43, .int .u64 0)] (by kernel_rfl) (by kernel_rfl) (by kernel_rfl) (by kernel_rfl) (by kernel_rfl)
def E02 : Env Tryd.prog := Env.addT E01 52 [.int .u64 0, .int .u64 0] eq_52
def E0 : Env Tryd.prog := E02
attribute [go_sem] ty3 ty4 ty5 ty9 ty22 ty24 ty25 ty28 ty33 ty41 ty43 ty46 ty52 ty68 ty79 ty80 E0 E00 E01 E02
end Go.LS
