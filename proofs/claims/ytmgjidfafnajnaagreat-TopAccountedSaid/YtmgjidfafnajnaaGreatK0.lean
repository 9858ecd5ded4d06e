/-
  Facts about the program's types. No condition: printed by dec.py.
-/
import Derived.Test.YtmgjidfafnajnaaGreatD0
import Derived.Test.YtmgjidfafnajnaaGreatLX
import Derived.Test.YtmgjidfafnajnaaGreatProg
import Derived.KernelRfl
namespace Go.LS
open Go.Proofs
set_option linter.all false
set_option linter.unusedSimpArgs false
set_option linter.unusedVariables false
set_option maxRecDepth 20000
abbrev xI (n:Int):SV:=.x (.one (.p (pi n)))
abbrev xB (b:Bool):SV:=.x (.one (.p (.val (.bool b))))
abbrev xL (l:List Int):SV:=.x (.one (.p (.sl 1 (List.map encI l))))
abbrev xV (i:Nat):SV:=.x (.one (.vw i))
abbrev xP (i j:Nat):SV:=.x (.one (.ptr i j))
abbrev xS {α:Type} (k:Nat) (f:α→List PV) (l:List α):SV:=.x (.one (.p (.sl k (List.map f l))))
abbrev oI (n:Int):LV:=.one (.p (pi n))
abbrev oB (b:Bool):LV:=.one (.p (.val (.bool b)))
abbrev oL (l:List Int):LV:=.one (.p (.sl 1 (List.map encI l)))
abbrev oS {α:Type} (k:Nat) (f:α→List PV) (l:List α):LV:=.one (.p (.sl k (List.map f l)))
abbrev pI (n:Int):CV:=.p (pi n)
abbrev pL (l:List Int):CV:=.p (.sl 1 (List.map encI l))
abbrev bA {α:Type} (k:Nat) (f:α→List PV) (l:List α):Blk:=.arr k (List.map f l)
attribute [go_sem] xI xB xL xV xP xS oI oB oL oS pI pL bA
theorem ty3:tyOf Tryz.prog 3=⟨1,8,false,[.int .i64 0],[0],.int .i64⟩:=by kernel_rfl
theorem ty4:tyOf Tryz.prog 4=⟨1,1,false,[.bool false],[0],.bool⟩:=by kernel_rfl
theorem ty22:tyOf Tryz.prog 22=⟨1,24,false,[.slice none 0 0],[1],.sl 3⟩:=by kernel_rfl
theorem ty23:tyOf Tryz.prog 23=⟨1,8,false,[.pointer none],[0],.other⟩:=by kernel_rfl
theorem ty26:tyOf Tryz.prog 26=⟨2,16,true,[.int .i64 0,.int .i64 0],[0,0],.st [(0,3),(1,3)]⟩:=by kernel_rfl
theorem ty28:tyOf Tryz.prog 28=⟨1,24,false,[.slice none 0 0],[8],.sl 40⟩:=by kernel_rfl
theorem ty30:tyOf Tryz.prog 30=⟨1,24,false,[.slice none 0 0],[6],.sl 42⟩:=by kernel_rfl
theorem ty32:tyOf Tryz.prog 32=⟨1,24,false,[.slice none 0 0],[9],.sl 44⟩:=by kernel_rfl
theorem ty36:tyOf Tryz.prog 36=⟨3,24,true,[.int .i64 0,.int .i64 0,.int .i64 0],[0,0,0],.st [(0,3),(1,3),(2,3)]⟩:=by kernel_rfl
theorem ty38:tyOf Tryz.prog 38=⟨3,24,true,[.int .i64 0,.int .i64 0,.int .i64 0],[0,0,0],.st [(0,3),(1,3),(2,3)]⟩:=by kernel_rfl
theorem ty40:tyOf Tryz.prog 40=⟨8,64,true,[.int .i64 0,.int .i64 0,.int .i64 0,.int .i64 0,.int .i64 0,.int .i64 0,.int .i64 0,.int .i64 0],[0,0,0,0,0,0,0,0],.st [(0,36),(3,3),(4,38),(7,3)]⟩:=by kernel_rfl
theorem ty42:tyOf Tryz.prog 42=⟨6,48,true,[.int .i64 0,.int .i64 0,.int .i64 0,.int .i64 0,.int .i64 0,.int .i64 0],[0,0,0,0,0,0],.st [(0,36),(3,3),(4,3),(5,3)]⟩:=by kernel_rfl
theorem ty44:tyOf Tryz.prog 44=⟨9,88,true,[.int .i64 0,.int .i64 0,.int .i64 0,.int .i64 0,.int .i64 0,.int .i64 0,.int .i64 0,.int .i64 0,.slice none 0 0],[0,0,0,0,0,0,0,0,1],.st [(0,36),(3,3),(4,3),(5,3),(6,3),(7,3),(8,22)]⟩:=by kernel_rfl
theorem ty45:tyOf Tryz.prog 45=⟨1,24,false,[.slice none 0 0],[4],.sl 91⟩:=by kernel_rfl
theorem ty46:tyOf Tryz.prog 46=⟨1,24,false,[.slice none 0 0],[3],.sl 86⟩:=by kernel_rfl
theorem ty47:tyOf Tryz.prog 47=⟨1,8,false,[.int .i64 0],[0],.int .i64⟩:=by kernel_rfl
theorem ty50:tyOf Tryz.prog 50=⟨1,24,false,[.slice none 0 0],[5],.sl 60⟩:=by kernel_rfl
theorem ty54:tyOf Tryz.prog 54=⟨1,24,false,[.slice none 0 0],[6],.sl 99⟩:=by kernel_rfl
theorem ty60:tyOf Tryz.prog 60=⟨5,56,true,[.int .i64 0,.int .i64 0,.int .i64 0,.int .i64 0,.slice none 0 0],[0,0,0,0,1],.st [(0,3),(1,3),(2,3),(3,3),(4,22)]⟩:=by kernel_rfl
theorem ty66:tyOf Tryz.prog 66=⟨4,96,true,[.slice none 0 0,.slice none 0 0,.slice none 0 0,.slice none 0 0],[1,1,1,1],.arr 4 22⟩:=by kernel_rfl
theorem ty68:tyOf Tryz.prog 68=⟨1,8,false,[.nilFunc],[0],.other⟩:=by kernel_rfl
theorem ty71:tyOf Tryz.prog 71=⟨2,32,true,[.slice none 0 0,.int .i64 0],[1,0],.st [(0,22),(1,3)]⟩:=by kernel_rfl
theorem ty84:tyOf Tryz.prog 84=⟨2,16,true,[.int .i64 0,.int .i64 0],[0,0],.st [(0,3),(1,3)]⟩:=by kernel_rfl
theorem ty86:tyOf Tryz.prog 86=⟨3,24,true,[.int .i64 0,.int .i64 0,.int .i64 0],[0,0,0],.st [(0,84),(2,47)]⟩:=by kernel_rfl
theorem ty91:tyOf Tryz.prog 91=⟨4,32,true,[.int .i64 0,.int .i64 0,.int .i64 0,.bool false],[0,0,0,0],.st [(0,38),(3,4)]⟩:=by kernel_rfl
theorem ty99:tyOf Tryz.prog 99=⟨6,96,true,[.int .i64 0,.int .i64 0,.bool false,.slice none 0 0,.slice none 0 0,.slice none 0 0],[0,0,0,1,1,1],.st [(0,3),(1,3),(2,4),(3,22),(4,22),(5,22)]⟩:=by kernel_rfl
theorem ty104:tyOf Tryz.prog 104=⟨1,8,false,[.nilFunc],[0],.other⟩:=by kernel_rfl
theorem ty105:tyOf Tryz.prog 105=⟨1,8,false,[.nilFunc],[0],.other⟩:=by kernel_rfl
theorem ty109:tyOf Tryz.prog 109=⟨1,8,false,[.nilFunc],[0],.other⟩:=by kernel_rfl
theorem ty114:tyOf Tryz.prog 114=⟨1,8,false,[.nilFunc],[0],.other⟩:=by kernel_rfl
theorem ty115:tyOf Tryz.prog 115=⟨1,8,false,[.nilFunc],[0],.other⟩:=by kernel_rfl
theorem ty117:tyOf Tryz.prog 117=⟨1,8,false,[.nilFunc],[0],.other⟩:=by kernel_rfl
theorem ty123:tyOf Tryz.prog 123=⟨1,8,false,[.nilFunc],[0],.other⟩:=by kernel_rfl
theorem ty124:tyOf Tryz.prog 124=⟨1,8,false,[.nilFunc],[0],.other⟩:=by kernel_rfl
theorem ty127:tyOf Tryz.prog 127=⟨1,8,false,[.nilFunc],[0],.other⟩:=by kernel_rfl
theorem ty130:tyOf Tryz.prog 130=⟨2,16,true,[.int .i64 0,.nilFunc],[0,0],.st [(0,47),(1,68)]⟩:=by kernel_rfl
theorem ty131:tyOf Tryz.prog 131=⟨1,24,false,[.slice none 0 0],[2],.sl 130⟩:=by kernel_rfl
theorem ty137:tyOf Tryz.prog 137=⟨1,24,false,[.slice none 0 0],[3],.sl 36⟩:=by kernel_rfl
theorem ty142:tyOf Tryz.prog 142=⟨1,8,false,[.int .u64 0],[0],.int .u64⟩:=by kernel_rfl
def E00:Env Tryz.prog:=⟨fun _ _ _ _=>⟨False,[],[]⟩,fun _ _=>[],fun _=>none,fun _ _ _ _ h=>h.elim,fun _ _ h=>nomatch h⟩
theorem eq_36:EqOK Tryz.prog 36 [.int .i64 0,.int .i64 0,.int .i64 0]:=by
 first
 | exact eqOKi [(3,.int .i64 0),(3,.int .i64 0),(3,.int .i64 0)] (by kernel_rfl) (by kernel_rfl) (by kernel_rfl) (by kernel_rfl) (by kernel_rfl)
def E01:Env Tryz.prog:=Env.addT E00 36 [.int .i64 0,.int .i64 0,.int .i64 0] eq_36
theorem eq_40:EqOK Tryz.prog 40 [.int .i64 0,.int .i64 0,.int .i64 0,.int .i64 0,.int .i64 0,.int .i64 0,.int .i64 0,.int .i64 0]:=eqOKf [.agg 36 [(3,.int .i64 0),(3,.int .i64 0),(3,.int .i64 0)],.plain 3 (.int .i64 0),.agg 38 [(3,.int .i64 0),(3,.int .i64 0),(3,.int .i64 0)],.plain 3 (.int .i64 0)] (by kernel_rfl) (by kernel_rfl) (by kernel_rfl) rfl (by kernel_rfl) ⟨⟨by kernel_rfl,by kernel_rfl,by kernel_rfl,by kernel_rfl,by kernel_rfl⟩,(show okField Tryz.prog (3,.int .i64 0)=true by kernel_rfl),⟨by kernel_rfl,by kernel_rfl,by kernel_rfl,by kernel_rfl,by kernel_rfl⟩,(show okField Tryz.prog (3,.int .i64 0)=true by kernel_rfl),trivial⟩
def E02:Env Tryz.prog:=Env.addT E01 40 [.int .i64 0,.int .i64 0,.int .i64 0,.int .i64 0,.int .i64 0,.int .i64 0,.int .i64 0,.int .i64 0] eq_40
theorem eq_42:EqOK Tryz.prog 42 [.int .i64 0,.int .i64 0,.int .i64 0,.int .i64 0,.int .i64 0,.int .i64 0]:=eqOKf [.agg 36 [(3,.int .i64 0),(3,.int .i64 0),(3,.int .i64 0)],.plain 3 (.int .i64 0),.plain 3 (.int .i64 0),.plain 3 (.int .i64 0)] (by kernel_rfl) (by kernel_rfl) (by kernel_rfl) rfl (by kernel_rfl) ⟨⟨by kernel_rfl,by kernel_rfl,by kernel_rfl,by kernel_rfl,by kernel_rfl⟩,(show okField Tryz.prog (3,.int .i64 0)=true by kernel_rfl),(show okField Tryz.prog (3,.int .i64 0)=true by kernel_rfl),(show okField Tryz.prog (3,.int .i64 0)=true by kernel_rfl),trivial⟩
def E03:Env Tryz.prog:=Env.addT E02 42 [.int .i64 0,.int .i64 0,.int .i64 0,.int .i64 0,.int .i64 0,.int .i64 0] eq_42
def E0:Env Tryz.prog:=E03
attribute [go_sem] ty3 ty4 ty22 ty23 ty26 ty28 ty30 ty32 ty36 ty38 ty40 ty42 ty44 ty45 ty46 ty47 ty50 ty54 ty60 ty66 ty68 ty71 ty84 ty86 ty91 ty99 ty104 ty105 ty109 ty114 ty115 ty117 ty123 ty124 ty127 ty130 ty131 ty137 ty142 E0 E00 E01 E02 E03
end Go.LS
