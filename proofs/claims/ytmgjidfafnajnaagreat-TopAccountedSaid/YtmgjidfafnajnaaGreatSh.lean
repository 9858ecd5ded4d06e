/-
  DERIVED: THE SHELF's CONTRACTS AT THIS DUMP, IN PLAIN WORDS (tools/lay-plain.mjs out of 'TryzShelf.lean', which tools/lay-shelf.mjs wrote): THE SAME DECLARATIONS UNDER THE SAME NAMES: 'import', 'namespace', 'open', 'def', 'theorem' AND NOTHING ELSE: no command of the shelf's: FOR A HAND-IN. Each laying: the table of numbers ('.._ren') and one theorem, a field a fact of the dump's own or the kernel's comparison; each contract: ONE APPLICATION.
-/
import Derived.Shelf.Small.Wraps
import Derived.Ground.SlgnProg
import Derived.Shelf.SlicesE.Clone
import Derived.Ground.SlsfProg
import Derived.Shelf.SlSortCmp.Whole1
import Derived.Shelf.SlSortCmp.NoneTotal
import Derived.Test.YtmgjidfafnajnaaGreatProg
namespace Go.Proofs
open Go.Shelf
def Tryz.lays122_ren:Go.Shelf.Ren:=⟨fun | 122=>55 | 215=>79 | n=>n,fun | 3=>3 | 4=>4 | n=>n,fun | n=>n⟩
theorem Tryz.lays122:Go.Proofs.Lays.n122 Tryz.prog Tryz.lays122_ren:={
 mixed:=by kernel_rfl
 f122:=Tryz.func55.trans (congrArg some (by kernel_rfl))
 f215:=Tryz.func79.trans (congrArg some (by kernel_rfl))
 t3:=Tryz.underlying3
 a3:=Tryz.isAgg3
 z3:=Tryz.sizeOf3
 v3:=Tryz.zeroValue3
 t4:=Tryz.underlying4
 a4:=Tryz.isAgg4
 z4:=Tryz.sizeOf4
 v4:=Tryz.zeroValue4 }
open Go.RowKit in
theorem Tryz.cmp_Compare_int (x y:Int) (w:World) :
  Calls Tryz.prog 55 #[.int .i64 x,.int .i64 y] w fun e w'=>e = .returned (.int .i64 (Lib.compareInt x y))∧w'=w:=Any.cmp_Compare_int Tryz.lays122 x y w
def Tryz.laysSlE041_f60_ren:Go.Shelf.Ren:=⟨fun | 41=>60 | n=>n,fun | 22=>22 | 23=>3 | 4=>4 | n=>n,fun | n=>n⟩
theorem Tryz.laysSlE041_f60:Go.Proofs.SlLaysE0.n41 Tryz.prog Tryz.laysSlE041_f60_ren:={
 mixed:=by kernel_rfl
 f41:=⟨Tryz.f60.name,by decide,Tryz.func60.trans (congrArg some (by kernel_rfl))⟩
 t4:=Tryz.underlying4
 a4:=Tryz.isAgg4
 z4:=Tryz.sizeOf4
 v4:=Tryz.zeroValue4
 t22:=Tryz.underlying22
 a22:=Tryz.isAgg22
 z22:=Tryz.sizeOf22
 v22:=Tryz.zeroValue22 }
open Go.RowKit Go.Lib in
theorem Tryz.slices_Clone (i0:TypeInfo) (z:Value) (size bytes:Nat) (hi:Tryz.prog.info? 3=some i0) (hz0:i0.zero=some z) (hz1:i0.size=size) (hz2:i0.bytes=bytes) (hzs:z.cells.size=size) (hsz:0<size) (z23:∀w,(Go.sizeOf 3).run Tryz.prog w = .ok size w) (b off n c:Nat) (news:List Value) (w:World) (hl:news.length=n*size) (hn:n≤maxLen) (hbig:n*bytes≤140737488355328) (hc:∀j u,news[j]?=some u→w.cell? ⟨b,off+j,none⟩=some u) (h1:∀u∈news,u.oneCell'=true) :
  Calls Tryz.prog 60 #[.slice (some ⟨b,off,none⟩) n c] w fun e w'=>∃v',e = .returned v'∧w'.ownsRow w.heap.size 3 size v' n news∧v' ≠ .slice none 0 0∧Below w.heap.size w w':=AnyE.slices_Clone Tryz.laysSlE041_f60 i0 z size bytes hi hz0 hz1 hz2 hzs hsz z23 b off n c news w hl hn hbig hc h1
open Go.RowKit Go.Lib in
theorem Tryz.slices_Clone_nil (n c:Nat) (w:World) :
  Calls Tryz.prog 60 #[.slice none n c] w fun e w'=>e = .returned (.slice none 0 0)∧w'=w:=AnyE.slices_Clone_nil Tryz.laysSlE041_f60 n c w
def Tryz.laysSlF6_f108_ren:Go.Shelf.Ren:=⟨fun | 6=>108 | 15=>121 | 14=>120 | 28=>134 | 29=>135 | 20=>126 | 21=>127 | 22=>128 | 23=>129 | 24=>130 | 25=>131 | 26=>132 | 27=>133 | 46=>136 | 47=>137 | 48=>138 | 49=>139 | 50=>140 | 57=>141 | n=>n,fun | 22=>22 | 24=>3 | 25=>72 | 3=>3 | 39=>142 | 0=>0 | 53=>180 | 55=>182 | 4=>4 | 46=>174 | 45=>173 | 50=>107 | 5=>5 | 9=>9 | 66=>183 | 70=>187 | 76=>189 | 77=>190 | n=>n,fun | n=>n⟩
theorem Tryz.laysSlF6_f108:Go.Proofs.SlLaysF.n6 Tryz.prog Tryz.laysSlF6_f108_ren:={
 mixed:=by kernel_rfl
 f6:=⟨Tryz.f108.name,by decide,Tryz.func108.trans (congrArg some (by kernel_rfl))⟩
 f14:=⟨Tryz.f120.name,by decide,Tryz.func120.trans (congrArg some (by kernel_rfl))⟩
 f15:=Tryz.func121.trans (congrArg some (by kernel_rfl))
 f20:=⟨Tryz.f126.name,by decide,Tryz.func126.trans (congrArg some (by kernel_rfl))⟩
 f21:=⟨Tryz.f127.name,by decide,Tryz.func127.trans (congrArg some (by kernel_rfl))⟩
 f22:=⟨Tryz.f128.name,by decide,Tryz.func128.trans (congrArg some (by kernel_rfl))⟩
 f23:=⟨Tryz.f129.name,by decide,Tryz.func129.trans (congrArg some (by kernel_rfl))⟩
 f24:=⟨Tryz.f130.name,by decide,Tryz.func130.trans (congrArg some (by kernel_rfl))⟩
 f25:=⟨Tryz.f131.name,by decide,Tryz.func131.trans (congrArg some (by kernel_rfl))⟩
 f26:=⟨Tryz.f132.name,by decide,Tryz.func132.trans (congrArg some (by kernel_rfl))⟩
 f27:=⟨Tryz.f133.name,by decide,Tryz.func133.trans (congrArg some (by kernel_rfl))⟩
 f28:=Tryz.func134.trans (congrArg some (by kernel_rfl))
 f29:=Tryz.func135.trans (congrArg some (by kernel_rfl))
 f46:=⟨Tryz.f136.name,by decide,Tryz.func136.trans (congrArg some (by kernel_rfl))⟩
 f47:=Tryz.func137.trans (congrArg some (by kernel_rfl))
 f48:=Tryz.func138.trans (congrArg some (by kernel_rfl))
 f49:=⟨Tryz.f139.name,by decide,Tryz.func139.trans (congrArg some (by kernel_rfl))⟩
 f50:=⟨Tryz.f140.name,by decide,Tryz.func140.trans (congrArg some (by kernel_rfl))⟩
 f57:=⟨Tryz.f141.name,by decide,Tryz.func141.trans (congrArg some (by kernel_rfl))⟩
 t0:=Tryz.underlying0
 a0:=Tryz.isAgg0
 z0:=Tryz.sizeOf0
 v0:=Tryz.zeroValue0
 t3:=Tryz.underlying3
 a3:=Tryz.isAgg3
 z3:=Tryz.sizeOf3
 v3:=Tryz.zeroValue3
 t4:=Tryz.underlying4
 a4:=Tryz.isAgg4
 z4:=Tryz.sizeOf4
 v4:=Tryz.zeroValue4
 t5:=Tryz.underlying5
 a5:=Tryz.isAgg5
 z5:=Tryz.sizeOf5
 v5:=Tryz.zeroValue5
 t9:=Tryz.underlying9
 a9:=Tryz.isAgg9
 z9:=Tryz.sizeOf9
 v9:=Tryz.zeroValue9
 t22:=Tryz.underlying22
 a22:=Tryz.isAgg22
 z22:=Tryz.sizeOf22
 v22:=Tryz.zeroValue22
 a24:=Tryz.isAgg3
 z24:=Tryz.sizeOf3
 t25:=Tryz.underlying72
 a25:=Tryz.isAgg72
 z25:=Tryz.sizeOf72
 v25:=Tryz.zeroValue72
 t39:=Tryz.underlying142
 a39:=Tryz.isAgg142
 z39:=Tryz.sizeOf142
 v39:=Tryz.zeroValue142
 t45:=Tryz.underlying173
 a45:=Tryz.isAgg173
 z45:=Tryz.sizeOf173
 v45:=Tryz.zeroValue173
 t46:=Tryz.underlying174
 a46:=Tryz.isAgg174
 z46:=Tryz.sizeOf174
 v46:=Tryz.zeroValue174
 t50:=Tryz.underlying107
 a50:=Tryz.isAgg107
 z50:=Tryz.sizeOf107
 v50:=Tryz.zeroValue107
 t53:=Tryz.underlying180
 a53:=Tryz.isAgg180
 z53:=Tryz.sizeOf180
 v53:=Tryz.zeroValue180
 t55:=Tryz.underlying182
 a55:=Tryz.isAgg182
 z55:=Tryz.sizeOf182
 v55:=Tryz.zeroValue182
 t66:=Tryz.underlying183
 a66:=Tryz.isAgg183
 z66:=Tryz.sizeOf183
 v66:=Tryz.zeroValue183
 t70:=Tryz.underlying187
 a70:=Tryz.isAgg187
 z70:=Tryz.sizeOf187
 v70:=Tryz.zeroValue187
 t76:=Tryz.underlying189
 a76:=Tryz.isAgg189
 z76:=Tryz.sizeOf189
 v76:=Tryz.zeroValue189
 t77:=Tryz.underlying190
 a77:=Tryz.isAgg190
 z77:=Tryz.sizeOf190
 v77:=Tryz.zeroValue190 }
open Go.RowKit Go.Lib Go.Sort in
theorem Tryz.slices_SortFunc {α:Type} [Inhabited α] (enc:α→Value) (h1:OneCell enc) (cf:α→α→Int) (hO:SWO (ltOf cf)) (g:Nat) (cb:Array Value) (blk off cap:Nat) (d:Array α) (w:World) (eg:∀args w,(callFunc g args).run Tryz.prog w = .ok (.enter g args) w) (hcmp:CmpLays1 Tryz.prog g cb enc cf blk off d.size w) (hH:Holds enc w blk off d) (hblk:blk<w.heap.size) (hsz:d.size<4611686018427387904) :
  Calls Tryz.prog 108 #[.slice (some ⟨blk,off,none⟩) d.size cap,.func (.func g) #[] cb] w fun e w'=>
   e = .returned (.tuple #[])∧∃d' n os,PermIn 0 d.size d d'∧SortedIn (ltOf cf) 0 d.size d'∧w'=sortWorld enc w blk off n d' os:=Any.slices_SortFunc Tryz.laysSlF6_f108 enc h1 cf hO g cb blk off cap d w eg hcmp hH hblk hsz
def Tryz.laysSlF06_f108_ren:Go.Shelf.Ren:=⟨fun | 6=>108 | 15=>121 | 14=>120 | 28=>134 | 29=>135 | 20=>126 | 21=>127 | 22=>128 | 23=>129 | 24=>130 | 25=>131 | 26=>132 | 27=>133 | 46=>136 | 47=>137 | 48=>138 | 49=>139 | 50=>140 | 57=>141 | n=>n,fun | 22=>22 | 24=>3 | 25=>72 | 3=>3 | 39=>142 | 0=>0 | 53=>180 | 55=>182 | 4=>4 | 46=>174 | 45=>173 | 50=>107 | 5=>5 | 9=>9 | 66=>183 | 70=>187 | 76=>189 | 77=>190 | n=>n,fun | n=>n⟩
theorem Tryz.laysSlF06_f108:Go.Proofs.SlLaysF0.n6 Tryz.prog Tryz.laysSlF06_f108_ren:={
 mixed:=by kernel_rfl
 f6:=⟨Tryz.f108.name,by decide,Tryz.func108.trans (congrArg some (by kernel_rfl))⟩
 f14:=⟨Tryz.f120.name,by decide,Tryz.func120.trans (congrArg some (by kernel_rfl))⟩
 f15:=Tryz.func121.trans (congrArg some (by kernel_rfl))
 f20:=⟨Tryz.f126.name,by decide,Tryz.func126.trans (congrArg some (by kernel_rfl))⟩
 f21:=⟨Tryz.f127.name,by decide,Tryz.func127.trans (congrArg some (by kernel_rfl))⟩
 f22:=⟨Tryz.f128.name,by decide,Tryz.func128.trans (congrArg some (by kernel_rfl))⟩
 f23:=⟨Tryz.f129.name,by decide,Tryz.func129.trans (congrArg some (by kernel_rfl))⟩
 f24:=⟨Tryz.f130.name,by decide,Tryz.func130.trans (congrArg some (by kernel_rfl))⟩
 f25:=⟨Tryz.f131.name,by decide,Tryz.func131.trans (congrArg some (by kernel_rfl))⟩
 f26:=⟨Tryz.f132.name,by decide,Tryz.func132.trans (congrArg some (by kernel_rfl))⟩
 f27:=⟨Tryz.f133.name,by decide,Tryz.func133.trans (congrArg some (by kernel_rfl))⟩
 f28:=Tryz.func134.trans (congrArg some (by kernel_rfl))
 f29:=Tryz.func135.trans (congrArg some (by kernel_rfl))
 f46:=⟨Tryz.f136.name,by decide,Tryz.func136.trans (congrArg some (by kernel_rfl))⟩
 f47:=Tryz.func137.trans (congrArg some (by kernel_rfl))
 f48:=Tryz.func138.trans (congrArg some (by kernel_rfl))
 f49:=⟨Tryz.f139.name,by decide,Tryz.func139.trans (congrArg some (by kernel_rfl))⟩
 f50:=⟨Tryz.f140.name,by decide,Tryz.func140.trans (congrArg some (by kernel_rfl))⟩
 f57:=⟨Tryz.f141.name,by decide,Tryz.func141.trans (congrArg some (by kernel_rfl))⟩
 t0:=Tryz.underlying0
 a0:=Tryz.isAgg0
 z0:=Tryz.sizeOf0
 v0:=Tryz.zeroValue0
 t3:=Tryz.underlying3
 a3:=Tryz.isAgg3
 z3:=Tryz.sizeOf3
 v3:=Tryz.zeroValue3
 t4:=Tryz.underlying4
 a4:=Tryz.isAgg4
 z4:=Tryz.sizeOf4
 v4:=Tryz.zeroValue4
 t5:=Tryz.underlying5
 a5:=Tryz.isAgg5
 z5:=Tryz.sizeOf5
 v5:=Tryz.zeroValue5
 t9:=Tryz.underlying9
 a9:=Tryz.isAgg9
 z9:=Tryz.sizeOf9
 v9:=Tryz.zeroValue9
 t22:=Tryz.underlying22
 a22:=Tryz.isAgg22
 z22:=Tryz.sizeOf22
 v22:=Tryz.zeroValue22
 t25:=Tryz.underlying72
 a25:=Tryz.isAgg72
 z25:=Tryz.sizeOf72
 v25:=Tryz.zeroValue72
 t39:=Tryz.underlying142
 a39:=Tryz.isAgg142
 z39:=Tryz.sizeOf142
 v39:=Tryz.zeroValue142
 t45:=Tryz.underlying173
 a45:=Tryz.isAgg173
 z45:=Tryz.sizeOf173
 v45:=Tryz.zeroValue173
 t46:=Tryz.underlying174
 a46:=Tryz.isAgg174
 z46:=Tryz.sizeOf174
 v46:=Tryz.zeroValue174
 t50:=Tryz.underlying107
 a50:=Tryz.isAgg107
 z50:=Tryz.sizeOf107
 v50:=Tryz.zeroValue107
 t53:=Tryz.underlying180
 a53:=Tryz.isAgg180
 z53:=Tryz.sizeOf180
 v53:=Tryz.zeroValue180
 t55:=Tryz.underlying182
 a55:=Tryz.isAgg182
 z55:=Tryz.sizeOf182
 v55:=Tryz.zeroValue182
 t66:=Tryz.underlying183
 a66:=Tryz.isAgg183
 z66:=Tryz.sizeOf183
 v66:=Tryz.zeroValue183
 t70:=Tryz.underlying187
 a70:=Tryz.isAgg187
 z70:=Tryz.sizeOf187
 v70:=Tryz.zeroValue187
 t76:=Tryz.underlying189
 a76:=Tryz.isAgg189
 z76:=Tryz.sizeOf189
 v76:=Tryz.zeroValue189
 t77:=Tryz.underlying190
 a77:=Tryz.isAgg190
 z77:=Tryz.sizeOf190
 v77:=Tryz.zeroValue190 }
open Go.RowKit Go.Lib Go.Sort in
theorem Tryz.slices_SortFunc_none {α:Type} [Inhabited α] (p:Option Addr) (cap:Nat) (fv:Value) (w:World) :
  Calls Tryz.prog 108 #[.slice p 0 cap,fv] w fun e w'=>e = .returned (.tuple #[])∧w'=w:=AnyF.slices_SortFunc_none Tryz.laysSlF06_f108 p cap fv w
def Tryz.laysSlE041_f47_ren:Go.Shelf.Ren:=⟨fun | 41=>47 | n=>n,fun | 22=>45 | 23=>91 | 4=>4 | n=>n,fun | n=>n⟩
theorem Tryz.laysSlE041_f47:Go.Proofs.SlLaysE0.n41 Tryz.prog Tryz.laysSlE041_f47_ren:={
 mixed:=by kernel_rfl
 f41:=⟨Tryz.f47.name,by decide,Tryz.func47.trans (congrArg some (by kernel_rfl))⟩
 t4:=Tryz.underlying4
 a4:=Tryz.isAgg4
 z4:=Tryz.sizeOf4
 v4:=Tryz.zeroValue4
 t22:=Tryz.underlying45
 a22:=Tryz.isAgg45
 z22:=Tryz.sizeOf45
 v22:=Tryz.zeroValue45 }
open Go.RowKit Go.Lib in
theorem Tryz.slices_CloneE (i0:TypeInfo) (z:Value) (size bytes:Nat) (hi:Tryz.prog.info? 91=some i0) (hz0:i0.zero=some z) (hz1:i0.size=size) (hz2:i0.bytes=bytes) (hzs:z.cells.size=size) (hsz:0<size) (z23:∀w,(Go.sizeOf 91).run Tryz.prog w = .ok size w) (b off n c:Nat) (news:List Value) (w:World) (hl:news.length=n*size) (hn:n≤maxLen) (hbig:n*bytes≤140737488355328) (hc:∀j u,news[j]?=some u→w.cell? ⟨b,off+j,none⟩=some u) (h1:∀u∈news,u.oneCell'=true) :
  Calls Tryz.prog 47 #[.slice (some ⟨b,off,none⟩) n c] w fun e w'=>∃v',e = .returned v'∧w'.ownsRow w.heap.size 91 size v' n news∧v' ≠ .slice none 0 0∧Below w.heap.size w w':=AnyE.slices_Clone Tryz.laysSlE041_f47 i0 z size bytes hi hz0 hz1 hz2 hzs hsz z23 b off n c news w hl hn hbig hc h1
open Go.RowKit Go.Lib in
theorem Tryz.slices_CloneE_nil (n c:Nat) (w:World) :
  Calls Tryz.prog 47 #[.slice none n c] w fun e w'=>e = .returned (.slice none 0 0)∧w'=w:=AnyE.slices_Clone_nil Tryz.laysSlE041_f47 n c w
end Go.Proofs
