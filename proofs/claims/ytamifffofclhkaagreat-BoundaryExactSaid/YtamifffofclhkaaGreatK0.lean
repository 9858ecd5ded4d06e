/-
  Facts about the program's types. No condition: printed by dec.py.
-/
import Derived.Test.YtamifffofclhkaaGreatD0
import Derived.Test.YtamifffofclhkaaGreatProg
import Derived.KernelRfl
namespace Go.LS
open Go.Proofs
set_option linter.all false
set_option linter.unusedSimpArgs false
set_option linter.unusedVariables false
set_option maxRecDepth 20000

theorem ty3 : tyOf Tryz.prog 3 = ⟨1,8,false,[.int .i64 0],[0],.int .i64⟩ := by kernel_rfl
theorem ty4 : tyOf Tryz.prog 4 = ⟨1,1,false,[.bool false],[0],.bool⟩ := by kernel_rfl
theorem ty5 : tyOf Tryz.prog 5 = ⟨1,1,false,[.int .u8 0],[0],.int .u8⟩ := by kernel_rfl
theorem ty9 : tyOf Tryz.prog 9 = ⟨1,16,false,[.string (bs [])],[0],.str⟩ := by kernel_rfl
theorem ty22 : tyOf Tryz.prog 22 = ⟨1,24,false,[.slice none 0 0],[1],.sl 3⟩ := by kernel_rfl
theorem ty24 : tyOf Tryz.prog 24 = ⟨1,24,true,[.slice none 0 0],[1],.st [(0,22)]⟩ := by kernel_rfl
theorem ty26 : tyOf Tryz.prog 26 = ⟨2,16,true,[.int .i64 0,.int .i64 0],[0,0],.st [(0,3),(1,3)]⟩ := by kernel_rfl
theorem ty27 : tyOf Tryz.prog 27 = ⟨1,24,false,[.slice none 0 0],[4],.sl 68⟩ := by kernel_rfl
theorem ty29 : tyOf Tryz.prog 29 = ⟨1,24,true,[.slice none 0 0],[4],.st [(0,27)]⟩ := by kernel_rfl
theorem ty32 : tyOf Tryz.prog 32 = ⟨1,8,false,[.pointer none],[0],.other⟩ := by kernel_rfl
theorem ty37 : tyOf Tryz.prog 37 = ⟨3,72,true,[.slice none 0 0,.slice none 0 0,.slice none 0 0],[1,1,1],.arr 3 22⟩ := by kernel_rfl
theorem ty38 : tyOf Tryz.prog 38 = ⟨1,8,false,[.int .i64 0],[0],.int .i64⟩ := by kernel_rfl
theorem ty41 : tyOf Tryz.prog 41 = ⟨3,72,true,[.slice none 0 0,.slice none 0 0,.slice none 0 0],[1,1,1],.arr 3 24⟩ := by kernel_rfl
theorem ty47 : tyOf Tryz.prog 47 = ⟨2,48,true,[.slice none 0 0,.slice none 0 0],[4,4],.arr 2 29⟩ := by kernel_rfl
theorem ty49 : tyOf Tryz.prog 49 = ⟨8,64,true,[.int .i64 0,.int .i64 0,.int .i64 0,.int .i64 0,.int .i64 0,.int .i64 0,.int .i64 0,.int .i64 0],[0,0,0,0,0,0,0,0],.arr 4 26⟩ := by kernel_rfl
theorem ty52 : tyOf Tryz.prog 52 = ⟨3,24,true,[.int .i64 0,.int .i64 0,.int .i64 0],[0,0,0],.arr 3 3⟩ := by kernel_rfl
theorem ty53 : tyOf Tryz.prog 53 = ⟨9,72,true,[.int .i64 0,.int .i64 0,.int .i64 0,.int .i64 0,.int .i64 0,.int .i64 0,.int .i64 0,.int .i64 0,.int .i64 0],[0,0,0,0,0,0,0,0,0],.arr 3 52⟩ := by kernel_rfl
theorem ty57 : tyOf Tryz.prog 57 = ⟨2,32,true,[.slice none 0 0,.int .i64 0],[1,0],.st [(0,22),(1,3)]⟩ := by kernel_rfl
theorem ty59 : tyOf Tryz.prog 59 = ⟨1,8,false,[.nilFunc],[0],.other⟩ := by kernel_rfl
theorem ty68 : tyOf Tryz.prog 68 = ⟨4,32,true,[.int .i64 0,.int .i64 0,.int .i64 0,.int .i64 0],[0,0,0,0],.st [(0,26),(2,26)]⟩ := by kernel_rfl
theorem ty75 : tyOf Tryz.prog 75 = ⟨1,8,false,[.int .u64 0],[0],.int .u64⟩ := by kernel_rfl
theorem ty78 : tyOf Tryz.prog 78 = ⟨2,16,true,[.int .u64 0,.int .u64 0],[0,0],.st [(0,75),(1,75)]⟩ := by kernel_rfl
theorem ty80 : tyOf Tryz.prog 80 = ⟨3,24,true,[.bool false,.int .u64 0,.int .u64 0],[0,0,0],.st [(0,4),(1,78)]⟩ := by kernel_rfl
theorem ty83 : tyOf Tryz.prog 83 = ⟨2,16,true,[.int .u64 0,.int .u64 0],[0,0],.st [(0,75),(1,75)]⟩ := by kernel_rfl
theorem ty111 : tyOf Tryz.prog 111 = ⟨1,8,false,[.int .u64 0],[0],.int .u64⟩ := by kernel_rfl
theorem ty117 : tyOf Tryz.prog 117 = ⟨1,8,true,[.int .i64 0],[0],.st [(0,38)]⟩ := by kernel_rfl
theorem ty120 : tyOf Tryz.prog 120 = ⟨1,8,false,[.nilFunc],[0],.other⟩ := by kernel_rfl
theorem ty121 : tyOf Tryz.prog 121 = ⟨1,8,false,[.nilFunc],[0],.other⟩ := by kernel_rfl
theorem ty129 : tyOf Tryz.prog 129 = ⟨1,8,false,[.pointer none],[0],.other⟩ := by kernel_rfl
def E00 : Env Tryz.prog := ⟨fun _ _ _ _ => ⟨False,[],[]⟩,fun _ _ => [],fun _ => none,fun _ _ _ _ h => h.elim,fun _ _ h => nomatch h⟩
theorem eq_83 : EqOK Tryz.prog 83 [.int .u64 0,.int .u64 0] := by
  first
  | exact eqOKi [(75,.int .u64 0),(75,.int .u64 0)] (by kernel_rfl) (by kernel_rfl) (by kernel_rfl) (by kernel_rfl) (by kernel_rfl)
def E01 : Env Tryz.prog := Env.addT E00 83 [.int .u64 0,.int .u64 0] eq_83
def E0 : Env Tryz.prog := E01
attribute [go_sem] ty3 ty4 ty5 ty9 ty22 ty24 ty26 ty27 ty29 ty32 ty37 ty38 ty41 ty47 ty49 ty52 ty53 ty57 ty59 ty68 ty75 ty78 ty80 ty83 ty111 ty117 ty120 ty121 ty129 E0 E00 E01
end Go.LS
