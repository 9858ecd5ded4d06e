/-
  The framework LS, part 1: logical values, logical states, how they stand to memory, what a contract of a function says.
  No condition: these are definitions and small lemmas.
-/
import Derived.Test.YtmgjidfafnajnaaGreatLs0
import Derived.Calls
import Derived.Tactics
import Derived.Laws.World
import Derived.Orders
namespace Go.LS
set_option linter.all false
set_option linter.unusedSimpArgs false
set_option linter.unusedVariables false
inductive PV where
 | val (v:Value)
 | nil
 | sl (e:Nat) (xs:List (List PV))
inductive CV where
 | p (x:PV)
 | fl (e:Nat) (xs:List (List PV))
 | vw (id:Nat)
 | ptr (id off:Nat)
 | ap (id i j:Nat)
 | ep (cs:List PV)
 | fn (f:FuncId) (caps:List Nat)
 | dead
inductive LV where
 | one (c:CV)
 | agg (cs:List CV)
inductive SV where
 | dead
 | x (v:LV)
 | tup (vs:List LV)
 | wh (g:Bool) (v:LV)
inductive Blk where
 | var (cs:List CV)
 | arr (e:Nat) (xs:List (List PV))
abbrev Heap:=Nat→Option Blk
structure LState where
 n:Nat
 s:Nat→SV
 h:Heap
abbrev LV.int (k:IntKind) (n:Int):LV:=.one (.p (.val (.int k n)))
abbrev LV.bool (b:Bool):LV:=.one (.p (.val (.bool b)))
abbrev LV.str (s:ByteArray):LV:=.one (.p (.val (.string s)))
abbrev LV.bad:LV:=.one (.p (.val undef))
abbrev Place:=Nat→Option (Nat×Nat)
abbrev Home:=Nat→Option (Option (Nat×Nat))
abbrev Seen:=Nat→Nat→Prop
def roomy:Nat:=140737488355328
def huge:Nat:=9223372036854775807
def plain:Value→Bool
 | .agg _ | .tuple _=>false
 | _=>true
inductive RepP (w:World) (S:Seen):Value→PV→Prop
 | val (v:Value) (hv:plain v=true):RepP w S v (.val v)
 | nil:RepP w S (.slice none 0 0) .nil
 | slnil (e:Nat):RepP w S (.slice none 0 0) (.sl e [])
 | sl (b o n cap e:Nat) (f:Nat→Nat→Value) (xs:List (List PV)) (hn:xs.length=n) (hcap:n≤cap) (he:1≤e) (hm:n≤huge)
   (hl:∀x∈xs,x.length=e)
   (hc:∀i j,i<n→j<e→S b (o+(i*e+j))∧w.cell? ⟨b,o+(i*e+j),none⟩=some (f i j))
   (hr:∀i j (hi:i<xs.length) (hj:j<xs[i].length),RepP w S (f i j) (xs[i][j])) :
   RepP w S (.slice (some ⟨b,o,none⟩) n cap) (.sl e xs)
def Shows (w:World) (S:Seen) (b o:Nat) (cs:List PV):Prop:=
 ∀j (hj:j<cs.length),∃v,S b (o+j)∧w.cell? ⟨b,o+j,none⟩=some v∧RepP w S v cs[j]
def Row (w:World) (b:Nat) (c:Array Value) (el:TypeId):Prop:=w.heap[b]?=some (.cells c el (0,0))
inductive RepC (w:World) (S:Seen) (ρ:Place) (h:Heap):Value→CV→Prop
 | p {v:Value} {x:PV} (r:RepP w S v x):RepC w S ρ h v (.p x)
 | fl {a:Option Addr} {n e:Nat} {xs:List (List PV)} (r:RepP w S (.slice a n n) (.sl e xs)):RepC w S ρ h (.slice a n n) (.fl e xs)
 | vw {id e b o cap:Nat} {xs:List (List PV)} {c:Array Value} {el:TypeId} (hb:h id=some (.arr e xs)) (hp:ρ id=some (b,o)) (hrow:Row w b c el)
   (hcap:xs.length≤cap) (hroom:o+cap*e≤c.size) (hm:xs.length≤roomy):RepC w S ρ h (.slice (some ⟨b,o,none⟩) xs.length cap) (.vw id)
 | vwnil {id e:Nat} (hb:h id=some (.arr e [])):RepC w S ρ h (.slice none 0 0) (.vw id)
 | ptr {id off b o:Nat} (hp:ρ id=some (b,o)):RepC w S ρ h (.pointer (some ⟨b,o+off,none⟩)) (.ptr id off)
 | ap {id e i j b o:Nat} {xs:List (List PV)} (hb:h id=some (.arr e xs)) (hp:ρ id=some (b,o)):RepC w S ρ h (.pointer (some ⟨b,o+(i*e+j),none⟩)) (.ap id i j)
 | ep {b o:Nat} {cs:List PV} (r:Shows w S b o cs):RepC w S ρ h (.pointer (some ⟨b,o,none⟩)) (.ep cs)
 | fn {f:FuncId} {ids:List Nat} {vs:Array Value} (hn:vs.size=ids.length)
   (hv:∀i (hi:i<ids.length),∃b o,ρ ids[i]=some (b,o)∧vs[i]?=some (.pointer (some ⟨b,o,none⟩))):RepC w S ρ h (.func (.func f) #[] vs) (.fn f ids)
 | dead {v:Value} (hv:plain v=true):RepC w S ρ h v .dead
def RepCs (w:World) (S:Seen) (ρ:Place) (h:Heap) (vs:List Value) (cs:List CV):Prop:=
 vs.length=cs.length∧∀i (hv:i<vs.length) (hc:i<cs.length),RepC w S ρ h vs[i] cs[i]
def RepL (w:World) (S:Seen) (ρ:Place) (h:Heap) (v:Value):LV→Prop
 | .one c=>RepC w S ρ h v c
 | .agg cs=>∃vs:Array Value,v = .agg vs∧RepCs w S ρ h vs.toList cs
def RepLs (w:World) (S:Seen) (ρ:Place) (h:Heap) (vs:List Value) (ls:List LV):Prop:=
 vs.length=ls.length∧∀i (hv:i<vs.length) (hc:i<ls.length),RepL w S ρ h vs[i] ls[i]
def RepS (w:World) (S:Seen) (ρ:Place) (h:Heap) (v:Value):SV→Prop
 | .dead=>True
 | .x l=>RepL w S ρ h v l
 | .tup ls=>∃vs:Array Value,v = .tuple vs∧RepLs w S ρ h vs.toList ls
 | .wh g l=>(g=true→RepL w S ρ h v l)∧(g=false→v=undef)
def RepB (w:World) (S:Seen) (ρ:Place) (h:Heap) (id:Nat):Blk→Prop
 | .var cs=>∃b c el,ρ id=some (b,0)∧Row w b c el∧RepCs w S ρ h c.toList cs
 | .arr e xs=>1≤e∧(∀x∈xs,x.length=e)∧xs.length≤roomy ∧
   ((ρ id=none∧xs=[])∨∃b o c el,ρ id=some (b,o)∧Row w b c el∧(o=0∧xs.length*e≤c.size) ∧
    ∀i j (hi:i<xs.length) (hj:j<xs[i].length),∃v,c[o+(i*e+j)]?=some v∧RepP w S v (xs[i][j]))
def Calm (w w':World):Prop:=w'.os=w.os∧w'.tape=w.tape∧w'.output=w.output
theorem Calm.refl (w:World):Calm w w:=⟨rfl,rfl,rfl⟩
theorem Calm.trans {a b c:World}(h:Calm a b) (k:Calm b c):Calm a c:=⟨k.1.trans h.1,k.2.1.trans h.2.1,k.2.2.trans h.2.2⟩
def RowsKept (w w':World):Prop:=∀b c el,Row w b c el→∃c',Row w' b c' el∧c'.size=c.size
theorem RowsKept.refl (w:World):RowsKept w w:=fun b c el h=>⟨c,h,rfl⟩
theorem RowsKept.trans {a b c:World}(h:RowsKept a b) (k:RowsKept b c):RowsKept a c:=fun x y el hr=>by
 obtain⟨y1,h1,h2⟩:=h x y el hr
 obtain⟨y2,h3,h4⟩:=k x y1 el h1
 exact⟨y2,h3,h4.trans h2⟩
def TabOK (w0:World) (B:List Nat):Prop:=∀x∈knownTabs,x.1∉B∧∃o,w0.heap[x.1]?=some o∧x.2 o
structure Mem (w0:World) (B:List Nat) (w:World) (S:Seen) (ρ:Place) (h:Heap):Prop where
 blocks:∀id blk,h id=some blk→RepB w S ρ h id blk
 dom:∀id,h id=none→ρ id=none
 place:∀id b o,ρ id=some (b,o)→b<w.heap.size∧(w0.heap.size≤b∨b∈B)
 inj:∀i j b o o',ρ i=some (b,o)→ρ j=some (b,o')→i=j
 sep:∀b o,S b o→b<w.heap.size∧∀id o',ρ id≠some (b,o')
 size:w0.heap.size≤w.heap.size
 frame:∀b,b<w0.heap.size→b∉B→w.heap[b]?=w0.heap[b]?
 calm:Calm w0 w
 rows:RowsKept w0 w
 tab:TabOK w0 B
theorem Mem.tabAt {w0:World}{B:List Nat}{w:World}{S:Seen}{ρ:Place}{h:Heap}(m:Mem w0 B w S ρ h){B':List Nat}(hB:∀b∈B',∃id o,ρ id=some (b,o)):TabOK w B':=fun x hx=>by
 obtain⟨h1,o,h2,h3⟩:=m.tab x hx
 have hlt:x.1<w0.heap.size:=(Array.getElem?_eq_some_iff.1 h2).1
 refine⟨fun hb=>?_,o,(m.frame _ hlt h1).trans h2,h3⟩
 obtain⟨id,o',hp⟩:=hB _ hb
 rcases (m.place id _ _ hp).2 with h | h
 ·omega
 ·exact h1 h
def Marks (w0:World) (ρ:Place) (w:World) (ds:List Deferred):Prop:=
 ds.Nodup∧∀d∈ds,∃D,d={ target:=.collected D,args := #[] }∧w0.heap.size≤D∧w.heap[D]?=some (.deferred (some []))∧∀id o,ρ id≠some (D,o)
theorem Marks.nil {w0:World}{ρ:Place}{w:World}:Marks w0 ρ w []:=⟨List.nodup_nil,fun d hd=>by cases hd⟩
theorem Marks.mono {w0:World}{ρ ρ':Place}{w w':World}{ds:List Deferred}(h:Marks w0 ρ w ds) (hk:∀b,b<w.heap.size→(∀id o,ρ id≠some (b,o))→w'.heap[b]?=w.heap[b]?)
  (hρ:∀id b o,ρ' id=some (b,o)→(∃id' o',ρ id'=some (b,o'))∨w.heap.size≤b):Marks w0 ρ' w' ds:=⟨h.1,fun d hd=>by
 obtain⟨D,e,h0,h1,h2⟩:=h.2 d hd
 have hlt:D<w.heap.size:=(Array.getElem?_eq_some_iff.1 h1).1
 refine⟨D,e,h0,(hk D hlt h2).trans h1,fun id o hp=>?_⟩
 rcases hρ id D o hp with⟨id',o',h⟩ | h
 ·exact h2 id' o' h
 ·omega⟩
structure InvAt (w0:World) (B:List Nat) (S:Seen) (ρ:Place) (st:LState) (a:Act) (w:World):Prop where
 mem:Mem w0 B w S ρ st.h
 tmps:a.tmps.size=st.n
 defers:Marks w0 ρ w a.defers
 slots:∀t,RepS w S ρ st.h (a.tmps.getD t undef) (st.s t)
def isVar:Option Blk→Bool
 | some (.var _)=>true
 | _=>false
def Vars (w0:World) (R0:Home) (ρ:Place) (h:Heap):Prop:=
 (∀id p,R0 id=some p→id<100∧ρ id=p∧(h id).isSome=true)∧∀id b o,100≤id→ρ id=some (b,o)→w0.heap.size≤b
def Inv (w0:World) (B:List Nat) (S0:Seen) (R0:Home) (st:LState) (a:Act) (w:World):Prop:=
 ∃S ρ,InvAt w0 B S ρ st a w∧(∀b o,S0 b o→S b o)∧(∀b o,S b o→S0 b o∨w0.heap.size≤b)∧Vars w0 R0 ρ st.h
def RepR (w:World) (S:Seen) (ρ:Place) (h:Heap) (v:Value):List LV→Prop
 | [l]=>RepL w S ρ h v l
 | ls=>∃vs:Array Value,v = .tuple vs∧RepLs w S ρ h vs.toList ls
def heapOf (blks:List Blk):Heap:=fun k=>blks[k]?
def heapOf' (blks:List (Option Blk)):Heap:=fun k=>(blks[k]?).join
def CallF (P:Program) (f:FuncId) (vs:Array Value) (w:World) (R:Ending→World→Prop):Prop:=
 match (callFunc f vs).run P w with
 | .ok (.enter f' args) w'=>Calls P f' args w' R
 | .ok (.value v) w'=>R (.returned v) w'
 | _=>False
def CallOK (P:Program) (f:FuncId) (args:List LV) (blks:List Blk) (rets:List LV) (blks':List (Option Blk)):Prop:=
 ∀ (w:World) (vs:Array Value) (S:Seen) (ρ:Place) (B:List Nat),
  Mem w B w S ρ (heapOf blks)→RepLs w S ρ (heapOf blks) vs.toList args →
  CallF P f vs w fun e w'=>∃v S' ρ',e = .returned v∧Mem w B w' S' ρ' (heapOf' blks') ∧
   (∀b o,S b o→S' b o)∧(∀b o,S' b o→S b o∨w.heap.size≤b)∧(∀k,k<blks.length→ρ' k=ρ k)∧(∀k b o,ρ' k=some (b,o)→w.heap.size≤b∨∃o',ρ k=some (b,o'))∧RepR w' S' ρ' (heapOf' blks') v rets
structure CRes where
 pre:Prop
 rets:List LV
 blks:List (Option Blk)
def cellEq:List Value→List Value→Bool
 | .int _ a :: l,.int _ b :: r=>(a==b)&&cellEq l r
 | .bool a :: l,.bool b :: r=>(a==b)&&cellEq l r
 | .string a :: l,.string b :: r=>(a==b)&&cellEq l r
 | _,_=>true
def kindsOK:List Value→List Value→Bool
 | [],[]=>true
 | .int k _ :: l,.int k' _ :: r=>k==k'&&kindsOK l r
 | .bool _ :: l,.bool _ :: r=>kindsOK l r
 | .string _ :: l,.string _ :: r=>kindsOK l r
 | _,_=>false
def EqOK (P:Program) (t:TypeId) (zero:List Value):Prop:=
 ∀ (w:World) (xs ys:List Value),kindsOK xs zero=true→kindsOK ys zero=true →
  ∀ (op:BinOp) (x y:Operand),(op = .eql∨op = .neq) →
  (do eqGuard op t x y (.agg xs.toArray) (.agg ys.toArray); binOp op t (.agg xs.toArray) (.agg ys.toArray):Sem Value).run P w = .ok (.bool (if op = .eql then cellEq xs ys else !cellEq xs ys)) w
structure Env (P:Program) where
 Γ:Option Nat→FuncId→List LV→List Blk→CRes
 M:Option Nat→FuncId→List Bool
 Θ:TypeId→Option (List Value)
 okΓ:∀d f args blks,(Γ d f args blks).pre→CallOK P f args blks (Γ d f args blks).rets (Γ d f args blks).blks
 okΘ:∀t z,Θ t=some z→EqOK P t z
end Go.LS
