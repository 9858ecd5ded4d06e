/-
  Facts about the program's types. No condition: printed by dec.py.
-/
import Derived.Test.YtogfplnonlpmcaaD0
import Derived.Test.YtogfplnonlpmcaaProg
import Derived.KernelRfl
namespace Go.LS
open Go.Proofs
set_option linter.all false
set_option linter.unusedSimpArgs false
set_option linter.unusedVariables false
set_option maxRecDepth 20000

theorem ty3 : tyOf Try.prog 3 = ⟨1,8,false,[.int .i64 0],[0],.int .i64⟩:=by kernel_rfl
theorem ty4 : tyOf Try.prog 4 = ⟨1,1,false,[.bool false],[0],.bool⟩:=by kernel_rfl
theorem ty5 : tyOf Try.prog 5 = ⟨1,1,false,[.int .u8 0],[0],.int .u8⟩:=by kernel_rfl
theorem ty9 : tyOf Try.prog 9 = ⟨1,16,false,[.string (bs [])],[0],.str⟩:=by kernel_rfl
theorem ty22 : tyOf Try.prog 22 = ⟨1,24,false,[.slice none 0 0],[1],.sl 3⟩:=by kernel_rfl
theorem ty23 : tyOf Try.prog 23 = ⟨1,24,false,[.slice none 0 0],[3],.sl 57⟩:=by kernel_rfl
theorem ty25 : tyOf Try.prog 25 = ⟨3,56,true,[.slice none 0 0,.slice none 0 0,.int .i64 0],[3,1,0],.st [(0,23),(1,22),(2,3)]⟩:=by kernel_rfl
theorem ty26 : tyOf Try.prog 26 = ⟨1,24,false,[.slice none 0 0],[3],.sl 38⟩:=by kernel_rfl
theorem ty29 : tyOf Try.prog 29 = ⟨1,8,false,[.pointer none],[0],.other⟩:=by kernel_rfl
theorem ty36 : tyOf Try.prog 36 = ⟨2,16,true,[.int .i64 0,.int .i64 0],[0,0],.st [(0,3),(1,3)]⟩:=by kernel_rfl
theorem ty38 : tyOf Try.prog 38 = ⟨3,24,true,[.int .i64 0,.int .i64 0,.int .i64 0],[0,0,0],.st [(0,3),(1,36)]⟩:=by kernel_rfl
theorem ty43 : tyOf Try.prog 43 = ⟨1,8,false,[.int .i64 0],[0],.int .i64⟩:=by kernel_rfl
theorem ty57 : tyOf Try.prog 57 = ⟨3,24,true,[.int .i64 0,.int .i64 0,.int .i64 0],[0,0,0],.st [(0,3),(1,3),(2,3)]⟩:=by kernel_rfl
theorem ty60 : tyOf Try.prog 60 = ⟨1,24,false,[.slice none 0 0],[3],.sl 68⟩:=by kernel_rfl
theorem ty62 : tyOf Try.prog 62 = ⟨1,24,false,[.slice none 0 0],[5],.sl 66⟩:=by kernel_rfl
theorem ty66 : tyOf Try.prog 66 = ⟨5,40,true,[.int .i64 0,.int .i64 0,.int .i64 0,.int .i64 0,.int .i64 0],[0,0,0,0,0],.st [(0,3),(1,3),(2,3),(3,3),(4,3)]⟩:=by kernel_rfl
theorem ty68 : tyOf Try.prog 68 = ⟨3,40,true,[.int .i64 0,.slice none 0 0,.int .i64 0],[0,3,0],.st [(0,3),(1,26),(2,3)]⟩:=by kernel_rfl
theorem ty73 : tyOf Try.prog 73 = ⟨1,24,false,[.slice none 0 0],[12],.sl 78⟩:=by kernel_rfl
theorem ty78 : tyOf Try.prog 78 = ⟨12,96,true,[.int .i64 0,.int .i64 0,.int .i64 0,.int .i64 0,.int .i64 0,.int .i64 0,.int .i64 0,.int .i64 0,.int .i64 0,.int .i64 0,.int .i64 0,.int .i64 0],[0,0,0,0,0,0,0,0,0,0,0,0],.st [(0,3),(1,3),(2,66),(7,66)]⟩:=by kernel_rfl
theorem ty81 : tyOf Try.prog 81 = ⟨2,32,true,[.slice none 0 0,.int .i64 0],[1,0],.st [(0,22),(1,3)]⟩:=by kernel_rfl
theorem ty106 : tyOf Try.prog 106 = ⟨1,8,false,[.nilFunc],[0],.other⟩:=by kernel_rfl
theorem ty110 : tyOf Try.prog 110 = ⟨1,8,false,[.int .u64 0],[0],.int .u64⟩:=by kernel_rfl
theorem ty113 : tyOf Try.prog 113 = ⟨2,16,true,[.int .u64 0,.int .u64 0],[0,0],.st [(0,110),(1,110)]⟩:=by kernel_rfl
theorem ty115 : tyOf Try.prog 115 = ⟨3,24,true,[.bool false,.int .u64 0,.int .u64 0],[0,0,0],.st [(0,4),(1,113)]⟩:=by kernel_rfl
theorem ty124 : tyOf Try.prog 124 = ⟨1,24,false,[.slice none 0 0],[2],.sl 36⟩:=by kernel_rfl
theorem ty128 : tyOf Try.prog 128 = ⟨2,16,true,[.int .u64 0,.int .u64 0],[0,0],.st [(0,110),(1,110)]⟩:=by kernel_rfl
theorem ty147 : tyOf Try.prog 147 = ⟨1,8,false,[.nilFunc],[0],.other⟩:=by kernel_rfl
theorem ty151 : tyOf Try.prog 151 = ⟨1,8,false,[.int .u64 0],[0],.int .u64⟩:=by kernel_rfl
def E00 : Env Try.prog:=⟨fun _ _ _ _ => ⟨False,[],[]⟩,fun _ _ => [],fun _ => none,fun _ _ _ _ h => h.elim,fun _ _ h => nomatch h⟩
theorem eq_36 : EqOK Try.prog 36 [.int .i64 0,.int .i64 0]:=by
  first
  | exact eqOKi [(3,.int .i64 0),(3,.int .i64 0)] (by kernel_rfl) (by kernel_rfl) (by kernel_rfl) (by kernel_rfl) (by kernel_rfl)
def E01 : Env Try.prog:=Env.addT E00 36 [.int .i64 0,.int .i64 0] eq_36
theorem eq_38 : EqOK Try.prog 38 [.int .i64 0,.int .i64 0,.int .i64 0]:=eqOKf [.plain 3 (.int .i64 0),.agg 36 [(3,.int .i64 0),(3,.int .i64 0)]] (by kernel_rfl) (by kernel_rfl) (by kernel_rfl) rfl (by kernel_rfl) ⟨(show okField Try.prog (3,.int .i64 0) = true by kernel_rfl),⟨by kernel_rfl,by kernel_rfl,by kernel_rfl,by kernel_rfl,by kernel_rfl⟩,trivial⟩
def E02 : Env Try.prog:=Env.addT E01 38 [.int .i64 0,.int .i64 0,.int .i64 0] eq_38
theorem eq_57 : EqOK Try.prog 57 [.int .i64 0,.int .i64 0,.int .i64 0]:=by
  first
  | exact eqOKi [(3,.int .i64 0),(3,.int .i64 0),(3,.int .i64 0)] (by kernel_rfl) (by kernel_rfl) (by kernel_rfl) (by kernel_rfl) (by kernel_rfl)
def E03 : Env Try.prog:=Env.addT E02 57 [.int .i64 0,.int .i64 0,.int .i64 0] eq_57
theorem eq_66 : EqOK Try.prog 66 [.int .i64 0,.int .i64 0,.int .i64 0,.int .i64 0,.int .i64 0]:=by
  first
  | exact eqOKi [(3,.int .i64 0),(3,.int .i64 0),(3,.int .i64 0),(3,.int .i64 0),(3,.int .i64 0)] (by kernel_rfl) (by kernel_rfl) (by kernel_rfl) (by kernel_rfl) (by kernel_rfl)
def E04 : Env Try.prog:=Env.addT E03 66 [.int .i64 0,.int .i64 0,.int .i64 0,.int .i64 0,.int .i64 0] eq_66
theorem eq_128 : EqOK Try.prog 128 [.int .u64 0,.int .u64 0]:=by
  first
  | exact eqOKi [(110,.int .u64 0),(110,.int .u64 0)] (by kernel_rfl) (by kernel_rfl) (by kernel_rfl) (by kernel_rfl) (by kernel_rfl)
def E05 : Env Try.prog:=Env.addT E04 128 [.int .u64 0,.int .u64 0] eq_128
def E0 : Env Try.prog:=E05
attribute [go_sem] ty3 ty4 ty5 ty9 ty22 ty23 ty25 ty26 ty29 ty36 ty38 ty43 ty57 ty60 ty62 ty66 ty68 ty73 ty78 ty81 ty106 ty110 ty113 ty115 ty124 ty128 ty147 ty151 E0 E00 E01 E02 E03 E04 E05
end Go.LS
