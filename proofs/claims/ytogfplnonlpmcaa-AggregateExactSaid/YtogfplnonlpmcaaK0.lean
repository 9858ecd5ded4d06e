/-
  Facts about the program's types. No condition: printed by dec.py.
-/
import Derived.Test.YtogfplnonlpmcaaD0
import Derived.Test.YtogfplnonlpmcaaProg
import Derived.KernelRfl
namespace Go.LS
open Go.Proofs
set_option linter.all false
set_option linter.unusedSimpArgs false
set_option linter.unusedVariables false
set_option maxRecDepth 20000

theorem ty3 : tyOf Try.prog 3 = ⟨1,8,false,[.int .i64 0],[0],.int .i64⟩:=by kernel_rfl
theorem ty4 : tyOf Try.prog 4 = ⟨1,1,false,[.bool false],[0],.bool⟩:=by kernel_rfl
theorem ty5 : tyOf Try.prog 5 = ⟨1,1,false,[.int .u8 0],[0],.int .u8⟩:=by kernel_rfl
theorem ty9 : tyOf Try.prog 9 = ⟨1,16,false,[.string (bs [])],[0],.str⟩:=by kernel_rfl
theorem ty22 : tyOf Try.prog 22 = ⟨1,24,false,[.slice none 0 0],[1],.sl 3⟩:=by kernel_rfl
theorem ty23 : tyOf Try.prog 23 = ⟨1,24,false,[.slice none 0 0],[3],.sl 57⟩:=by kernel_rfl
theorem ty25 : tyOf Try.prog 25 = ⟨3,56,true,[.slice none 0 0,.slice none 0 0,.int .i64 0],[3,1,0],.st [(0,23),(1,22),(2,3)]⟩:=by kernel_rfl
theorem ty26 : tyOf Try.prog 26 = ⟨1,24,false,[.slice none 0 0],[3],.sl 38⟩:=by kernel_rfl
theorem ty29 : tyOf Try.prog 29 = ⟨1,8,false,[.pointer none],[0],.other⟩:=by kernel_rfl
theorem ty34 : tyOf Try.prog 34 = ⟨1,8,false,[.pointer none],[0],.other⟩:=by kernel_rfl
theorem ty36 : tyOf Try.prog 36 = ⟨2,16,true,[.int .i64 0,.int .i64 0],[0,0],.st [(0,3),(1,3)]⟩:=by kernel_rfl
theorem ty38 : tyOf Try.prog 38 = ⟨3,24,true,[.int .i64 0,.int .i64 0,.int .i64 0],[0,0,0],.st [(0,3),(1,36)]⟩:=by kernel_rfl
theorem ty42 : tyOf Try.prog 42 = ⟨9,168,true,[.slice none 0 0,.slice none 0 0,.int .i64 0,.slice none 0 0,.slice none 0 0,.int .i64 0,.slice none 0 0,.slice none 0 0,.int .i64 0],[3,1,0,3,1,0,3,1,0],.arr 3 25⟩:=by kernel_rfl
theorem ty43 : tyOf Try.prog 43 = ⟨1,8,false,[.int .i64 0],[0],.int .i64⟩:=by kernel_rfl
theorem ty45 : tyOf Try.prog 45 = ⟨3,72,true,[.slice none 0 0,.slice none 0 0,.slice none 0 0],[3,3,3],.arr 3 26⟩:=by kernel_rfl
theorem ty46 : tyOf Try.prog 46 = ⟨3,24,true,[.int .i64 0,.int .i64 0,.int .i64 0],[0,0,0],.arr 3 3⟩:=by kernel_rfl
theorem ty53 : tyOf Try.prog 53 = ⟨2,16,true,[.int .i64 0,.int .i64 0],[0,0],.arr 2 3⟩:=by kernel_rfl
theorem ty57 : tyOf Try.prog 57 = ⟨3,24,true,[.int .i64 0,.int .i64 0,.int .i64 0],[0,0,0],.st [(0,3),(1,3),(2,3)]⟩:=by kernel_rfl
theorem ty81 : tyOf Try.prog 81 = ⟨2,32,true,[.slice none 0 0,.int .i64 0],[1,0],.st [(0,22),(1,3)]⟩:=by kernel_rfl
theorem ty82 : tyOf Try.prog 82 = ⟨1,8,false,[.pointer none],[0],.other⟩:=by kernel_rfl
theorem ty83 : tyOf Try.prog 83 = ⟨1,24,false,[.slice none 0 0],[1],.sl 22⟩:=by kernel_rfl
theorem ty106 : tyOf Try.prog 106 = ⟨1,8,false,[.nilFunc],[0],.other⟩:=by kernel_rfl
theorem ty110 : tyOf Try.prog 110 = ⟨1,8,false,[.int .u64 0],[0],.int .u64⟩:=by kernel_rfl
theorem ty113 : tyOf Try.prog 113 = ⟨2,16,true,[.int .u64 0,.int .u64 0],[0,0],.st [(0,110),(1,110)]⟩:=by kernel_rfl
theorem ty115 : tyOf Try.prog 115 = ⟨3,24,true,[.bool false,.int .u64 0,.int .u64 0],[0,0,0],.st [(0,4),(1,113)]⟩:=by kernel_rfl
theorem ty124 : tyOf Try.prog 124 = ⟨1,24,false,[.slice none 0 0],[2],.sl 36⟩:=by kernel_rfl
theorem ty128 : tyOf Try.prog 128 = ⟨2,16,true,[.int .u64 0,.int .u64 0],[0,0],.st [(0,110),(1,110)]⟩:=by kernel_rfl
theorem ty147 : tyOf Try.prog 147 = ⟨1,8,false,[.nilFunc],[0],.other⟩:=by kernel_rfl
theorem ty151 : tyOf Try.prog 151 = ⟨1,8,false,[.int .u64 0],[0],.int .u64⟩:=by kernel_rfl
def E00 : Env Try.prog:=⟨fun _ _ _ _ => ⟨False,[],[]⟩,fun _ _ => [],fun _ => none,fun _ _ _ _ h => h.elim,fun _ _ h => nomatch h⟩
theorem eq_36 : EqOK Try.prog 36 [.int .i64 0,.int .i64 0]:=by
  first
  | exact eqOKi [(3,.int .i64 0),(3,.int .i64 0)] (by kernel_rfl) (by kernel_rfl) (by kernel_rfl) (by kernel_rfl) (by kernel_rfl)
def E01 : Env Try.prog:=Env.addT E00 36 [.int .i64 0,.int .i64 0] eq_36
theorem eq_128 : EqOK Try.prog 128 [.int .u64 0,.int .u64 0]:=by
  first
  | exact eqOKi [(110,.int .u64 0),(110,.int .u64 0)] (by kernel_rfl) (by kernel_rfl) (by kernel_rfl) (by kernel_rfl) (by kernel_rfl)
def E02 : Env Try.prog:=Env.addT E01 128 [.int .u64 0,.int .u64 0] eq_128
def E0 : Env Try.prog:=E02
attribute [go_sem] ty3 ty4 ty5 ty9 ty22 ty23 ty25 ty26 ty29 ty34 ty36 ty38 ty42 ty43 ty45 ty46 ty53 ty57 ty81 ty82 ty83 ty106 ty110 ty113 ty115 ty124 ty128 ty147 ty151 E0 E00 E01 E02
end Go.LS
