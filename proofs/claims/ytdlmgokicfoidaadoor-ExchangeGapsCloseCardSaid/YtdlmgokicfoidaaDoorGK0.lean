/-
  Facts about the program's types. No condition: printed by dec.py.
-/
import Derived.Test.YtdlmgokicfoidaaDoorGD0
import Derived.Test.YtdlmgokicfoidaaDoorLX
import Derived.Test.YtdlmgokicfoidaaDoorProg
import Derived.KernelRfl
namespace Go.LS
open Go.Proofs
set_option linter.all false
set_option linter.unusedSimpArgs false
set_option linter.unusedVariables false
set_option maxRecDepth 200000

theorem ty3:tyOf Tryd.prog 3=⟨1,8,false,[.int .i64 0],[0],.int .i64⟩:=by kernel_rfl
theorem ty4:tyOf Tryd.prog 4=⟨1,1,false,[.bool false],[0],.bool⟩:=by kernel_rfl
theorem ty5:tyOf Tryd.prog 5=⟨1,1,false,[.int .u8 0],[0],.int .u8⟩:=by kernel_rfl
theorem ty9:tyOf Tryd.prog 9=⟨1,16,false,[.string (bs [])],[0],.str⟩:=by kernel_rfl
theorem ty22:tyOf Tryd.prog 22=⟨1,24,false,[.slice none 0 0],[1],.sl 3⟩:=by kernel_rfl
theorem ty23:tyOf Tryd.prog 23=⟨1,24,false,[.slice none 0 0],[1],.sl 36⟩:=by kernel_rfl
theorem ty25:tyOf Tryd.prog 25=⟨4,56,true,[.string (bs []),.int .i64 0,.int .i64 0,.slice none 0 0],[0,0,0,1],.st [(0,9),(1,3),(2,3),(3,23)]⟩:=by kernel_rfl
theorem ty26:tyOf Tryd.prog 26=⟨1,8,false,[.pointer none],[0],.other⟩:=by kernel_rfl
theorem ty29:tyOf Tryd.prog 29=⟨1,8,false,[.int .i64 0],[0],.int .i64⟩:=by kernel_rfl
theorem ty36:tyOf Tryd.prog 36=⟨1,24,false,[.slice none 0 0],[1],.sl 9⟩:=by kernel_rfl
theorem ty47:tyOf Tryd.prog 47=⟨1,24,false,[.slice none 0 0],[1],.sl 5⟩:=by kernel_rfl
theorem ty50:tyOf Tryd.prog 50=⟨1,24,false,[.slice none 0 0],[4],.sl 25⟩:=by kernel_rfl
theorem ty56:tyOf Tryd.prog 56=⟨2,32,true,[.slice none 0 0,.int .i64 0],[1,0],.st [(0,22),(1,3)]⟩:=by kernel_rfl
theorem ty60:tyOf Tryd.prog 60=⟨1,8,false,[.pointer none],[0],.other⟩:=by kernel_rfl
theorem ty62:tyOf Tryd.prog 62=⟨2,32,true,[.pointer none,.slice none 0 0],[0,1],.st [(0,60),(1,47)]⟩:=by kernel_rfl
theorem ty70:tyOf Tryd.prog 70=⟨1,8,false,[.nilFunc],[0],.other⟩:=by kernel_rfl
theorem ty81:tyOf Tryd.prog 81=⟨1,24,false,[.slice none 0 0],[1],.sl 4⟩:=by kernel_rfl
def E00:Env Tryd.prog:=⟨fun _ _ _ _ => ⟨False,[],[]⟩,fun _ _ => [],fun _ => none,fun _ _ _ _ h => h.elim,fun _ _ h => nomatch h⟩
def E0:Env Tryd.prog:=E00
attribute [go_sem] ty3 ty4 ty5 ty9 ty22 ty23 ty25 ty26 ty29 ty36 ty47 ty50 ty56 ty60 ty62 ty70 ty81 E0 E00
end Go.LS
