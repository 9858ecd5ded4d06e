/-
  Facts about the program's types. No condition: printed by dec.py.
-/
import Derived.Test.YtmgjidfafnajnaaDoorD0
import Derived.Test.YtmgjidfafnajnaaDoorLX
import Derived.Test.YtmgjidfafnajnaaDoorProg
import Derived.KernelRfl
namespace Go.LS
open Go.Proofs
set_option linter.all false
set_option linter.unusedSimpArgs false
set_option linter.unusedVariables false
set_option maxRecDepth 20000

theorem ty3 : tyOf Tryd.prog 3 = ⟨1, 8, false, [.int .i64 0], [0], .int .i64⟩ := by kernel_rfl
theorem ty4 : tyOf Tryd.prog 4 = ⟨1, 1, false, [.bool false], [0], .bool⟩ := by kernel_rfl
theorem ty5 : tyOf Tryd.prog 5 = ⟨1, 1, false, [.int .u8 0], [0], .int .u8⟩ := by kernel_rfl
theorem ty9 : tyOf Tryd.prog 9 = ⟨1, 16, false, [.string (bs [])], [0], .str⟩ := by kernel_rfl
theorem ty22 : tyOf Tryd.prog 22 = ⟨1, 24, false, [.slice none 0 0], [1], .sl 3⟩ := by kernel_rfl
theorem ty23 : tyOf Tryd.prog 23 = ⟨1, 8, false, [.pointer none], [0], .other⟩ := by kernel_rfl
theorem ty25 : tyOf Tryd.prog 25 = ⟨1, 24, false, [.slice none 0 0], [4], .sl 38⟩ := by kernel_rfl
theorem ty27 : tyOf Tryd.prog 27 = ⟨1, 24, false, [.slice none 0 0], [3], .sl 57⟩ := by kernel_rfl
theorem ty28 : tyOf Tryd.prog 28 = ⟨1, 24, false, [.slice none 0 0], [1], .sl 52⟩ := by kernel_rfl
theorem ty29 : tyOf Tryd.prog 29 = ⟨1, 24, false, [.slice none 0 0], [3], .sl 50⟩ := by kernel_rfl
theorem ty31 : tyOf Tryd.prog 31 = ⟨4, 80, true, [.int .i64 0, .slice none 0 0, .slice none 0 0, .slice none 0 0], [0, 3, 1, 3], .st [(0, 3), (1, 27), (2, 28), (3, 29)]⟩ := by kernel_rfl
theorem ty33 : tyOf Tryd.prog 33 = ⟨1, 24, false, [.slice none 0 0], [1], .sl 22⟩ := by kernel_rfl
theorem ty34 : tyOf Tryd.prog 34 = ⟨1, 8, false, [.int .i64 0], [0], .int .i64⟩ := by kernel_rfl
theorem ty38 : tyOf Tryd.prog 38 = ⟨4, 32, true, [.int .i64 0, .int .i64 0, .int .i64 0, .int .i64 0], [0, 0, 0, 0], .st [(0, 3), (1, 3), (2, 3), (3, 3)]⟩ := by kernel_rfl
theorem ty48 : tyOf Tryd.prog 48 = ⟨2, 32, true, [.slice none 0 0, .int .i64 0], [1, 0], .st [(0, 22), (1, 3)]⟩ := by kernel_rfl
theorem ty50 : tyOf Tryd.prog 50 = ⟨3, 24, true, [.int .i64 0, .int .i64 0, .int .i64 0], [0, 0, 0], .st [(0, 3), (1, 3), (2, 3)]⟩ := by kernel_rfl
theorem ty52 : tyOf Tryd.prog 52 = ⟨1, 24, true, [.slice none 0 0], [1], .st [(0, 33)]⟩ := by kernel_rfl
theorem ty55 : tyOf Tryd.prog 55 = ⟨1, 24, false, [.slice none 0 0], [6], .sl 89⟩ := by kernel_rfl
theorem ty57 : tyOf Tryd.prog 57 = ⟨3, 40, true, [.int .i64 0, .int .i64 0, .slice none 0 0], [0, 0, 6], .st [(0, 3), (1, 3), (2, 55)]⟩ := by kernel_rfl
theorem ty65 : tyOf Tryd.prog 65 = ⟨1, 8, false, [.pointer none], [0], .other⟩ := by kernel_rfl
theorem ty66 : tyOf Tryd.prog 66 = ⟨1, 24, false, [.slice none 0 0], [1], .sl 5⟩ := by kernel_rfl
theorem ty68 : tyOf Tryd.prog 68 = ⟨2, 32, true, [.pointer none, .slice none 0 0], [0, 1], .st [(0, 65), (1, 66)]⟩ := by kernel_rfl
theorem ty77 : tyOf Tryd.prog 77 = ⟨1, 8, false, [.int .u64 0], [0], .int .u64⟩ := by kernel_rfl
theorem ty89 : tyOf Tryd.prog 89 = ⟨6, 48, true, [.int .i64 0, .int .i64 0, .int .i64 0, .int .i64 0, .int .i64 0, .int .i64 0], [0, 0, 0, 0, 0, 0], .st [(0, 3), (1, 3), (2, 3), (3, 3), (4, 3), (5, 3)]⟩ := by kernel_rfl
def E00 : Env Tryd.prog := ⟨fun _ _ _ _ => ⟨False, [], []⟩, fun _ _ => [], fun _ => none, fun _ _ _ _ h => h.elim, fun _ _ h => nomatch h⟩
theorem eq_38 : EqOK Tryd.prog 38 [.int .i64 0, .int .i64 0, .int .i64 0, .int .i64 0] := by
  first
  | exact eqOKi [(3, .int .i64 0), (3, .int .i64 0), (3, .int .i64 0), (3, .int .i64 0)] (by kernel_rfl) (by kernel_rfl) (by kernel_rfl) (by kernel_rfl) (by kernel_rfl)
def E01 : Env Tryd.prog := Env.addT E00 38 [.int .i64 0, .int .i64 0, .int .i64 0, .int .i64 0] eq_38
def E0 : Env Tryd.prog := E01
attribute [go_sem] ty3 ty4 ty5 ty9 ty22 ty23 ty25 ty27 ty28 ty29 ty31 ty33 ty34 ty38 ty48 ty50 ty52 ty55 ty57 ty65 ty66 ty68 ty77 ty89 E0 E00 E01
end Go.LS
