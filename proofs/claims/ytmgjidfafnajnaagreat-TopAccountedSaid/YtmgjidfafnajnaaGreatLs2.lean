/-
  The framework LS, part 2: the evaluator: what an operation does to a logical state, and what must be shown for it.
  No condition: these are definitions.
-/
import Derived.Test.YtmgjidfafnajnaaGreatLs1
namespace Go.LS
set_option linter.all false
set_option linter.unusedSimpArgs false
set_option linter.unusedVariables false
def upd {α:Type}(s:Nat→α) (d:Nat) (v:α):Nat→α:=fun t=>if t=d then v else s t
theorem upd_at {α:Type}(s:Nat→α) (d:Nat) (v:α) (t:Nat):upd s d v t=if t=d then v else s t:=rfl
def mkS:List (Nat×SV)→Nat→SV
 | [],_=>.dead
 | (d,v) :: r,t=>if t=d then v else mkS r t
def mkH:List (Nat×Blk)→Heap
 | [],_=>none
 | (d,v) :: r,t=>if t=d then some v else mkH r t
inductive TK where
 | other
 | int (k:IntKind)
 | bool
 | str
 | sl (elem:TypeId)
 | arr (n:Nat) (elem:TypeId)
 | st (fields:List (Nat×TypeId))
structure TI where
 size:Nat
 bytes:Nat
 agg:Bool
 zero:List Value
 ce:List Nat
 k:TK
def kindOf:TypeDesc→TK
 | .int k=>.int k
 | .bool=>.bool
 | .string=>.str
 | .slice e=>.sl e
 | .array n e=>.arr n e
 | .struct fs=>.st (fs.toList.map fun f=>(f.offset,f.type))
 | _=>.other
def isAggT:TypeDesc→Bool
 | .struct _ | .array _ _=>true
 | _=>false
def cellEs (P:Program):Nat→TypeId→List Nat
 | 0,_=>[]
 | d+1,t=>match P.underlying t with
  | some (.slice el)=>[P.cellsOf el]
  | some (.struct fs)=>fs.toList.flatMap fun f=>cellEs P d f.type
  | some (.array n el)=>(List.replicate n (cellEs P d el)).flatten
  | _=>[0]
def tyOf (P:Program) (t:TypeId):TI:=
 match P.info? t,P.underlying t with
 | some i,some d=>{ size:=i.size,bytes:=i.bytes,agg:=isAggT d,zero:=(match i.zero with | some z=>z.cells.toList | none=>[]),ce:=cellEs P 8 t,k:=kindOf d }
 | _,_=>⟨0,0,false,[],[],.other⟩
def zeroOk (P:Program) (t:TypeId):Bool:=decide ((tyOf P t).zero.length=(tyOf P t).size)&&decide ((tyOf P t).size≠0)&&(tyOf P t).zero.all plain
def toP (v:Value):PV:=match v with
 | .slice none 0 0=>.nil
 | v=>.val v
def constV:Value→LV
 | .agg cs=>.agg (cs.toList.map fun v=>.p (toP v))
 | v=>.one (.p (toP v))
def constOk:Value→Bool
 | .agg cs=>cs.toList.all plain
 | v=>plain v
def ev (st:LState):Operand→LV×Prop
 | .tmp t=>match st.s t with
  | .x v=>(v,True)
  | .wh g v=>(v,g=true)
  | _=>(.bad,False)
 | .const v=>(constV v,constOk v=true)
 | .func f=>(.one (.fn f []),True)
 | .global _=>(.bad,False)
def evS (st:LState):Operand→SV×Prop
 | .tmp t=>match st.s t with
  | .tup vs=>(.tup vs,True)
  | .x v=>(.x v,True)
  | .wh g v=>(.x v,g=true)
  | .dead=>(.dead,True)
 | x=>(.x (ev st x).1,(ev st x).2)
def bAnd (k:IntKind) (a b:Int):Int:=k.wrap ((BitVec.ofInt k.bits a &&& BitVec.ofInt k.bits b).toNat)
def bOr (k:IntKind) (a b:Int):Int:=k.wrap ((BitVec.ofInt k.bits a ||| BitVec.ofInt k.bits b).toNat)
def bXor (k:IntKind) (a b:Int):Int:=k.wrap ((BitVec.ofInt k.bits a ^^^ BitVec.ofInt k.bits b).toNat)
def bAndNot (k:IntKind) (a b:Int):Int:=k.wrap ((BitVec.ofInt k.bits a &&& ~~~ BitVec.ofInt k.bits b).toNat)
def bShl (k:IntKind) (a b:Int):Int:=k.wrap (a*2 ^ (min b.toNat k.bits))
def bShr (k:IntKind) (a b:Int):Int:=a.fdiv (2 ^ (min b.toNat k.bits))
def imax (a b:Int):Int:=if b > a then b else a
def imin (a b:Int):Int:=if b<a then b else a
def evInt (op:BinOp) (k:IntKind) (a b:Int):LV×Prop:=
 match op with
 | .add=>(.int k (k.wrap (a+b)),True)
 | .sub=>(.int k (k.wrap (a - b)),True)
 | .mul=>(.int k (k.wrap (a*b)),True)
 | .quo=>(.int k (k.wrap (a.tdiv b)),b≠0)
 | .rem=>(.int k (a.tmod b),b≠0)
 | .and=>(.int k (bAnd k a b),True)
 | .or=>(.int k (bOr k a b),True)
 | .xor=>(.int k (bXor k a b),True)
 | .andNot=>(.int k (bAndNot k a b),True)
 | .eql=>(.bool (a==b),True)
 | .neq=>(.bool (a != b),True)
 | .lss=>(.bool (decide (a<b)),True)
 | .leq=>(.bool (decide (a≤b)),True)
 | .gtr=>(.bool (decide (b<a)),True)
 | .geq=>(.bool (decide (b≤a)),True)
 | _=>(.bad,False)
def evShift (op:BinOp) (k:IntKind) (a b:Int):LV×Prop:=
 match op with
 | .shl=>(.int k (bShl k a b),0≤b)
 | .shr=>(.int k (bShr k a b),0≤b)
 | _=>(.bad,False)
def isShift:BinOp→Bool
 | .shl | .shr=>true
 | _=>false
def evStr (op:BinOp) (a b:ByteArray):LV×Prop:=
 match op with
 | .add=>(.str (a++b),a.size+b.size≤roomy)
 | .eql=>(.bool (a.toList==b.toList),True)
 | .neq=>(.bool (!(a.toList==b.toList)),True)
 | _=>(.bad,False)
def vals:List CV→List Value×Prop
 | []=>([],True)
 | .p (.val v) :: l=>(v :: (vals l).1,(vals l).2)
 | _=>([],False)
def evBin (P:Program) (Θ:TypeId→Option (List Value)) (op:BinOp) (t:TypeId) (x y:LV):LV×Prop:=
 match x,y with
 | .one (.p (.val (.int k a))),.one (.p (.val (.int k' b)))=>if isShift op then evShift op k a b else ((evInt op k a b).1,k=k'∧(evInt op k a b).2)
 | .one (.p (.val (.string a))),.one (.p (.val (.string b)))=>evStr op a b
 | .one (.p (.val (.bool a))),.one (.p (.val (.bool b)))=>
  match op,(tyOf P t).k with
  | .eql,.bool=>(.bool (a==b),True)
  | .neq,.bool=>(.bool (!(a==b)),True)
  | _,_=>(.bad,False)
 | .agg xs,.agg ys=>
  match op,Θ t with
  | .eql,some z=>(.bool (cellEq (vals xs).1 (vals ys).1),(vals xs).2∧(vals ys).2∧kindsOK (vals xs).1 z=true∧kindsOK (vals ys).1 z=true)
  | .neq,some z=>(.bool (!cellEq (vals xs).1 (vals ys).1),(vals xs).2∧(vals ys).2∧kindsOK (vals xs).1 z=true∧kindsOK (vals ys).1 z=true)
  | _,_=>(.bad,False)
 | _,_=>(.bad,False)
def evUn (op:UnOp) (x:LV):LV×Prop:=
 match op,x with
 | .not,.one (.p (.val (.bool b)))=>(.bool (!b),True)
 | .neg,.one (.p (.val (.int k n)))=>(.int k (k.wrap (0 - n)),True)
 | _,_=>(.bad,False)
def byteOf1:List PV→UInt8
 | [.val (.int .u8 n)]=>UInt8.ofNat n.toNat
 | _=>0
def isByte:List PV→Prop
 | [.val (.int .u8 _)]=>True
 | _=>False
def slOf (h:Heap):CV→Option (Nat×List (List PV))
 | .p (.sl e xs)=>some (e,xs)
 | .fl e xs=>some (e,xs)
 | .vw id=>match h id with
  | some (.arr e xs)=>some (e,xs)
  | _=>none
 | _=>none
def evConv (P:Program) (h:Heap) (src dst:TypeId) (x:LV):LV×Prop:=
 match (tyOf P src).k,(tyOf P dst).k,x with
 | .int _,.int k,.one (.p (.val (.int _ n)))=>(.int k (k.wrap n),True)
 | .str,.str,.one (.p (.val (.string s)))=>(.str s,True)
 | .sl el,.str,.one c=>
  match (tyOf P el).k,slOf h c with
  | .int .u8,some (e,xs)=>(.str ⟨(xs.map byteOf1).toArray⟩,e=1∧∀x∈xs,isByte x)
  | _,_=>(.bad,False)
 | _,_,_=>(.bad,False)
def PV.bad:PV:=.val undef
def splice {α:Type}(cs:List α) (off:Nat) (ds:List α):List α:=cs.take off++ds++cs.drop (off+ds.length)
def zP (z:List Value) (ce:List Nat):List PV:=z.zipIdx.map fun (v,i)=>match v with
 | .slice none 0 0=>if ce.getD i 0=0 then .nil else .sl (ce.getD i 0) []
 | v=>.val v
def epAt (z:List PV) (xs:List (List PV)) (i:Nat):List PV:=xs.getD i z
def apAt (z:List PV) (xs:List (List PV)) (i j sz:Nat):List PV:=if i<xs.length then ((xs.getD i []).drop j).take sz else z
def setC (xs:List (List PV)) (i j:Nat) (vs:List PV):List (List PV):=xs.set i (splice (xs.getD i []) j vs)
def aAt (z:List PV) (cs:List CV) (i sz:Nat):List CV:=if (i+1)*sz≤cs.length then (cs.drop (i*sz)).take sz else z.map .p
def evLoad (ti:TI) (h:Heap):LV→LV×Prop
 | .one (.ptr id off)=>
  match h id with
  | some (.var cs)=>if ti.agg then (.agg ((cs.drop off).take ti.size),off+ti.size≤cs.length) else (.one (cs.getD off .dead),off<cs.length)
  | _=>(.bad,False)
 | .one (.ap id i j)=>
  match h id with
  | some (.arr e xs)=>if ti.agg then (.agg ((apAt (zP ti.zero ti.ce) xs i j ti.size).map .p),i<xs.length∧j+ti.size≤e) else (.one (.p ((apAt (zP ti.zero ti.ce) xs i j 1).getD 0 .bad)),i<xs.length∧j<e)
  | _=>(.bad,False)
 | .one (.ep cs)=>if ti.agg then (.agg ((cs.take ti.size).map .p),ti.size≤cs.length) else (.one (.p (cs.getD 0 .bad)),0<cs.length)
 | _=>(.bad,False)
def cellsOfL:LV→List CV
 | .one c=>[c]
 | .agg cs=>cs
def purify:List CV→List PV×Prop
 | []=>([],True)
 | .p x :: l=>(x :: (purify l).1,(purify l).2)
 | .fl e xs :: l=>(.sl e xs :: (purify l).1,(purify l).2)
 | _=>([],False)
def evBuild (off:Nat→Nat) (size:Nat→Nat):List (Nat×LV×Prop)→List CV→List CV×Prop
 | [],cs=>(cs,True)
 | (i,v,q) :: r,cs=>
  let rest:=evBuild off size r (splice cs (off i) (cellsOfL v))
  (rest.1,q∧(cellsOfL v).length=size i∧off i+size i≤cs.length∧rest.2)
def fixP (e:Nat):PV→PV
 | .nil=>if e=0 then .nil else .sl e []
 | .val v=>.val v
 | .sl e' xs=>.sl e' xs
def fixN:List Nat→List PV→List PV
 | _,[]=>[]
 | [],x :: l=>x :: l
 | e :: ce,x :: l=>fixP e x :: fixN ce l
def evBuildS (e:Nat) (ce:List Nat):List (Nat×LV×Prop)→List (List PV)→List (List PV)×Prop
 | [],xs=>(xs,True)
 | (i,v,q) :: r,xs=>
  let rest:=evBuildS e ce r (xs.set i (fixN ce (purify (cellsOfL v)).1))
  (rest.1,q∧(purify (cellsOfL v)).2∧(cellsOfL v).length=e∧i<xs.length∧rest.2)
def evParts (st:LState) (parts:Array (Nat×Operand)):List (Nat×LV×Prop):=parts.toList.map fun (i,x)=>(i,(ev st x).1,(ev st x).2)
def boundOf (x:Option (LV×Prop)) (d:Nat):Nat×Prop:=
 match x with
 | none=>(d,True)
 | some (.one (.p (.val (.int _ n))),q)=>(n.toNat,q∧0≤n)
 | some _=>(0,False)
def evSlice (P:Program) (t:TypeId) (x:LV) (lo hi mx:Option (LV×Prop)):LV×Prop:=
 match (tyOf P t).k,x with
 | .str,.one (.p (.val (.string s)))=>
  let l:=boundOf lo 0
  let h:=boundOf hi s.size
  (.str (s.extract l.1 h.1),l.2∧h.2∧l.1≤h.1∧h.1≤s.size∧mx.isNone=true)
 | .sl el,.one c=>
  match c with
  | .p (.sl e xs)=>
   let l:=boundOf lo 0
   let h:=boundOf hi xs.length
   match mx with
   | none=>(.one (.p (.sl e ((xs.take h.1).drop l.1))),l.2∧h.2∧l.1≤h.1∧h.1≤xs.length∧e=(tyOf P el).size∧(tyOf P el).size≠0)
   | some m=>(.one (.fl e ((xs.take h.1).drop l.1)),l.2∧h.2∧l.1≤h.1∧h.1≤xs.length∧e=(tyOf P el).size∧(tyOf P el).size≠0∧(boundOf (some m) 0).2∧(boundOf (some m) 0).1=h.1∧hi.isSome=true)
  | .fl e xs=>
   let l:=boundOf lo 0
   let h:=boundOf hi xs.length
   match mx with
   | none=>(.one (.p (.sl e ((xs.take h.1).drop l.1))),l.2∧h.2∧l.1≤h.1∧h.1≤xs.length∧e=(tyOf P el).size∧(tyOf P el).size≠0)
   | some m=>(.one (.fl e ((xs.take h.1).drop l.1)),l.2∧h.2∧l.1≤h.1∧h.1≤xs.length∧e=(tyOf P el).size∧(tyOf P el).size≠0∧(boundOf (some m) 0).2∧(boundOf (some m) 0).1=h.1∧hi.isSome=true)
  | .p .nil=>
   let l:=boundOf lo 0
   let h:=boundOf hi 0
   (.one (.p .nil),l.2∧h.2∧l.1=0∧h.1=0∧(tyOf P el).size≠0∧(match mx with | none=>True | some m=>(boundOf (some m) 0).2∧(boundOf (some m) 0).1=0∧hi.isSome=true))
  | _=>(.bad,False)
 | _,_=>(.bad,False)
def capIds:List (LV×Prop)→List Nat×Prop
 | []=>([],True)
 | (.one (.ptr id 0),q) :: l=>(id :: (capIds l).1,q∧(capIds l).2)
 | _=>([],False)
def evMax (max:Bool):List (LV×Prop)→LV×Prop
 | [(.one (.p (.val (.int k a))),q),(.one (.p (.val (.int _ b))),q')]=>(.int k (if max then imax a b else imin a b),q∧q')
 | _=>(.bad,False)
def evVal (P:Program) (Θ:TypeId→Option (List Value)) (st:LState) (o:Oper):SV×Prop:=
 let x1 (r:LV×Prop):SV×Prop:=(.x r.1,r.2)
 match o.op with
 | .move x | .assign x=>evS st x
 | .extract x i=>
  match evS st x with
  | (.tup vs,q)=>(.x (vs.getD i .bad),q∧i<vs.length)
  | _=>(.dead,False)
 | .pick c a b=>
  match ev st c with
  | (.one (.p (.val (.bool c))),g)=>
   match ev st a,ev st b with
   | (.one (.p (.val (.bool a))),ga),(.one (.p (.val (.bool b))),gb)=>(.x (.bool (if c then a else b)),g∧(c=true→ga)∧(c=false→gb))
   | _,_=>(.dead,False)
  | _=>(.dead,False)
 | .nilCheck x=>
  match ev st x with
  | (.one (.ptr id off),g)=>(.x (.one (.ptr id off)),g)
  | (.one (.ap id i j),g)=>(.x (.one (.ap id i j)),g)
  | (.one (.ep cs),g)=>(.x (.one (.ep cs)),g)
  | (.one (.fn f ids),g)=>(.x (.one (.fn f ids)),g)
  | _=>(.dead,False)
 | .binOp op t x y _=>(.x (evBin P Θ op t (ev st x).1 (ev st y).1).1,(ev st x).2∧(ev st y).2∧(evBin P Θ op t (ev st x).1 (ev st y).1).2)
 | .unOp op _ x=>(.x (evUn op (ev st x).1).1,(ev st x).2∧(evUn op (ev st x).1).2)
 | .convert src dst x=>(.x (evConv P st.h src dst (ev st x).1).1,(ev st x).2∧(evConv P st.h src dst (ev st x).1).2)
 | .index t x i=>
  match (tyOf P t).k,ev st x,ev st i with
  | .str,(.one (.p (.val (.string s))),g),(.one (.p (.val (.int _ n))),g')=>(.x (.int .u8 ((s.data.getD n.toNat 0).toNat:Nat)),g∧g'∧0≤n∧n<s.size)
  | .arr len el,(.agg cs,g),(.one (.p (.val (.int _ n))),g')=>
   (.x (if (tyOf P el).agg then .agg (aAt (zP (tyOf P el).zero (tyOf P el).ce) cs n.toNat (tyOf P el).size) else .one ((aAt (zP (tyOf P el).zero (tyOf P el).ce) cs n.toNat (tyOf P el).size).getD 0 .dead)),
    g∧g'∧0≤n∧n<len∧cs.length=len*(tyOf P el).size∧(tyOf P el).size≠0∧((tyOf P el).agg=true∨(tyOf P el).size=1))
  | _,_,_=>(.dead,False)
 | .indexAddr t x i=>
  match (tyOf P t).k,ev st x,ev st i with
  | .sl el,(.one c,g),(.one (.p (.val (.int _ n))),g')=>
   match c with
   | .p (.sl e xs)=>(.x (.one (.ep (epAt (zP (tyOf P el).zero (tyOf P el).ce) xs n.toNat))),g∧g'∧0≤n∧n<xs.length∧e=(tyOf P el).size)
   | .fl e xs=>(.x (.one (.ep (epAt (zP (tyOf P el).zero (tyOf P el).ce) xs n.toNat))),g∧g'∧0≤n∧n<xs.length∧e=(tyOf P el).size)
   | .vw id=>
    match st.h id with
    | some (.arr e xs)=>(.x (.one (.ap id n.toNat 0)),g∧g'∧0≤n∧n<xs.length∧e=(tyOf P el).size)
    | _=>(.dead,False)
   | _=>(.dead,False)
  | .arr len el,(.one (.ptr id off),g),(.one (.p (.val (.int _ n))),g')=>(.x (.one (.ptr id (off+n.toNat*(tyOf P el).size))),g∧g'∧0≤n∧n<len∧(tyOf P el).size≠0)
  | _,_,_=>(.dead,False)
 | .fieldAddr t x f=>
  match (tyOf P t).k,ev st x with
  | .st fs,(.one (.ptr id off),g)=>(.x (.one (.ptr id (off+(fs.getD f (0,0)).1))),g∧f<fs.length∧(tyOf P (fs.getD f (0,0)).2).size≠0)
  | .st fs,(.one (.ap id i j),g)=>(.x (.one (.ap id i (j+(fs.getD f (0,0)).1))),g∧f<fs.length∧(tyOf P (fs.getD f (0,0)).2).size≠0)
  | .st fs,(.one (.ep cs),g)=>(.x (.one (.ep (cs.drop (fs.getD f (0,0)).1))),g∧f<fs.length∧(tyOf P (fs.getD f (0,0)).2).size≠0)
  | _,_=>(.dead,False)
 | .field t x f=>
  match (tyOf P t).k,ev st x with
  | .st fs,(.agg cs,g)=>
   (.x (if (tyOf P (fs.getD f (0,0)).2).agg then .agg ((cs.drop (fs.getD f (0,0)).1).take (tyOf P (fs.getD f (0,0)).2).size) else .one (cs.getD (fs.getD f (0,0)).1 .dead)),
    g∧f<fs.length∧(tyOf P (fs.getD f (0,0)).2).size≠0∧((tyOf P (fs.getD f (0,0)).2).agg=true∨(tyOf P (fs.getD f (0,0)).2).size=1)∧(fs.getD f (0,0)).1+(tyOf P (fs.getD f (0,0)).2).size≤cs.length)
  | _,_=>(.dead,False)
 | .load t x=>x1 ((evLoad (tyOf P t) st.h (ev st x).1).1,(ev st x).2∧(tyOf P t).size≠0∧((tyOf P t).agg=true∨(tyOf P t).size=1)∧(evLoad (tyOf P t) st.h (ev st x).1).2)
 | .build t parts=>
  match (tyOf P t).k with
  | .st fs=>x1 (.agg (evBuild (fun i=>(fs.getD i (0,0)).1) (fun i=>(tyOf P (fs.getD i (0,0)).2).size) (evParts st parts) ((tyOf P t).zero.map fun v=>.p (toP v))).1,
    (evBuild (fun i=>(fs.getD i (0,0)).1) (fun i=>(tyOf P (fs.getD i (0,0)).2).size) (evParts st parts) ((tyOf P t).zero.map fun v=>.p (toP v))).2∧(∀q∈parts.toList,q.1<fs.length)∧zeroOk P t=true∧(fs.all fun f=>decide ((tyOf P f.2).size≠0))=true)
  | .arr _ el=>x1 (.agg (evBuild (fun i=>i*(tyOf P el).size) (fun _=>(tyOf P el).size) (evParts st parts) ((tyOf P t).zero.map fun v=>.p (toP v))).1,
    (evBuild (fun i=>i*(tyOf P el).size) (fun _=>(tyOf P el).size) (evParts st parts) ((tyOf P t).zero.map fun v=>.p (toP v))).2∧zeroOk P t=true∧(tyOf P el).size≠0)
  | _=>(.dead,False)
 | .buildSlice t len parts=>
  match (tyOf P t).k with
  | .sl el=>x1 (.one (.fl (tyOf P el).size (evBuildS (tyOf P el).size (tyOf P el).ce (evParts st parts) (List.replicate len (fixN (tyOf P el).ce ((tyOf P el).zero.map toP)))).1),
    (evBuildS (tyOf P el).size (tyOf P el).ce (evParts st parts) (List.replicate len (fixN (tyOf P el).ce ((tyOf P el).zero.map toP)))).2∧zeroOk P el=true∧len*(tyOf P el).size≤16777216)
  | _=>(.dead,False)
 | .slice t x lo hi mx=>(.x (evSlice P t (ev st x).1 (lo.map (ev st)) (hi.map (ev st)) (mx.map (ev st))).1,(ev st x).2∧(evSlice P t (ev st x).1 (lo.map (ev st)) (hi.map (ev st)) (mx.map (ev st))).2)
 | .makeFunc fn first captured=>
  match fn with
  | .func f=>(.x (.one (.fn f (capIds (captured.toList.map (ev st))).1)),(capIds (captured.toList.map (ev st))).2∧first.size=0)
  | _=>(.dead,False)
 | .call c=>
  match c.callee with
  | .builtin .len=>
   match c.args.toList,c.argTypes.toList with
   | [x],[t]=>
    match (tyOf P t).k,ev st x with
    | .str,(.one (.p (.val (.string s))),g)=>(.x (.int .i64 s.size),g)
    | .sl _,(.one (.p .nil),g)=>(.x (.int .i64 0),g)
    | .sl _,(.one (.p (.sl _ xs)),g)=>(.x (.int .i64 xs.length),g)
    | .sl _,(.one (.fl _ xs),g)=>(.x (.int .i64 xs.length),g)
    | .sl _,(.one (.vw id),g)=>
     match st.h id with
     | some (.arr _ xs)=>(.x (.int .i64 xs.length),g)
     | _=>(.dead,False)
    | .arr n _,(_,g)=>(.x (.int .i64 n),g)
    | _,_=>(.dead,False)
   | _,_=>(.dead,False)
  | .builtin .max=>x1 (evMax true (c.args.toList.map (ev st)))
  | .builtin .min=>x1 (evMax false (c.args.toList.map (ev st)))
  | _=>(.dead,False)
 | _=>(.dead,False)
def killC (id:Nat):CV→CV
 | .vw i=>if i=id then .dead else .vw i
 | .ptr i o=>if i=id then .dead else .ptr i o
 | .ap i a b=>if i=id then .dead else .ap i a b
 | .fn f ids=>if id∈ids then .dead else .fn f ids
 | c=>c
def LV.map (f:CV→CV):LV→LV
 | .one c=>.one (f c)
 | .agg cs=>.agg (cs.map f)
def SV.map (f:CV→CV):SV→SV
 | .dead=>.dead
 | .x v=>.x (v.map f)
 | .tup vs=>.tup (vs.map (LV.map f))
 | .wh g v=>.wh g (v.map f)
def Blk.map (f:CV→CV):Blk→Blk
 | .var cs=>.var (cs.map f)
 | .arr e xs=>.arr e xs
def killH (id:Nat) (h:Heap):Heap:=fun i=>if i=id then none else (h i).map (Blk.map (killC id))
def killS (id:Nat) (s:Nat→SV):Nat→SV:=fun t=>(s t).map (killC id)
def bindB (st:LState) (id:Nat) (b:Blk) (d:Nat) (v:LV):LState:=
 { st with s:=upd (killS id st.s) d (.x v),h:=upd (killH id st.h) id (some b) }
def refsC:CV→List Nat
 | .vw i=>[i]
 | .ptr i _=>[i]
 | .ap i _ _=>[i]
 | .fn _ ids=>ids
 | _=>[]
def refsL:LV→List Nat
 | .one c=>refsC c
 | .agg cs=>cs.flatMap refsC
def refsS:SV→List Nat
 | .x v=>refsL v
 | .tup vs=>vs.flatMap refsL
 | .wh _ v=>refsL v
 | .dead=>[]
def refsB:Blk→List Nat
 | .var cs=>cs.flatMap refsC
 | .arr _ _=>[]
def argC (h:Heap) (e:Nat):CV→CV
 | .p .nil=>if e=0 then .p .nil else .p (.sl e [])
 | .fl e xs=>.p (.sl e xs)
 | .vw id=>match h id with
  | some (.arr e xs)=>.p (.sl e xs)
  | _=>.dead
 | c=>c
def argL (h:Heap) (ce:List Nat):LV→LV
 | .one c=>.one (argC h (ce.getD 0 0) c)
 | .agg cs=>.agg (cs.zipIdx.map fun (c,i)=>argC h (ce.getD i 0) c)
def hdM:List Bool→Bool
 | []=>false
 | b :: _=>b
def tlM:List Bool→List Bool
 | []=>[]
 | _ :: m=>m
def argM (b:Bool) (h:Heap) (ce:List Nat) (v:LV):LV:=match b with
 | true=>v
 | false=>argL h ce v
def argsOf (P:Program) (st:LState) (m:List Bool):List Operand→List TypeId→List LV
 | x :: xs,t :: ts=>argM (hdM m) st.h (tyOf P t).ce (ev st x).1 :: argsOf P st (tlM m) xs ts
 | _,_=>[]
def argsVc (st:LState):List Operand→Prop
 | []=>True
 | x :: xs=>(ev st x).2∧argsVc st xs
def dedup:List Nat→List Nat
 | []=>[]
 | a :: l=>if a∈l then dedup l else a :: dedup l
def addRefs (acc:List Nat):List Nat→List Nat
 | []=>acc
 | a :: l=>if a∈acc then addRefs acc l else addRefs (acc++[a]) l
def idsOf (h:Heap) (args:List LV):List Nat:=
 let l:=addRefs [] (args.flatMap refsL)
 addRefs l (l.flatMap fun id=>match h id with | some b=>refsB b | none=>[])
def renC (f:Nat→Nat):CV→CV
 | .vw i=>.vw (f i)
 | .ptr i o=>.ptr (f i) o
 | .ap i a b=>.ap (f i) a b
 | .fn g ids=>.fn g (ids.map f)
 | c=>c
def noSl:LV→Bool
 | .one (.p (.val _))=>true
 | .agg cs=>cs.all fun c=>match c with | .p (.val _)=>true | _=>false
 | _=>false
def isVw:LV→Bool
 | .one (.vw _)=>true
 | .agg cs=>cs.any fun c=>match c with | .vw _=>true | _=>false
 | _=>false
def vwOk (st:LState) (m:List Bool):List Operand→Bool
 | []=>true
 | x :: xs=>(hdM m || !isVw (ev st x).1)&&vwOk st (tlM m) xs
def retS:List LV→SV
 | [v]=>.x v
 | vs=>.tup vs
def setRets (d:Option Nat) (st:LState) (rets:List LV):LState:=
 match d with
 | none=>st
 | some d=>{ st with s:=upd st.s d (retS rets) }
def quietArgs (st:LState) (xs:List Operand) (rets:List LV) (blks:List (Option Blk)):Prop:=
 (rets.all noSl=true∧blks=[])∨(xs.all fun x => !isVw (ev st x).1)=true
def newId (d:Option Nat) (j:Nat):Nat:=1000*(j+1)+d.getD 0
def backId (L:List Nat) (d:Option Nat) (k:Nat):Nat:=if k<L.length then L.getD k 0 else newId d (k - L.length)
def evCallQ (P:Program) (Γ:FuncId→List LV→List Blk→CRes) (m:List Bool) (st:LState) (f:FuncId) (xs:List Operand) (ts:List TypeId) (caps:List LV):List LV×Prop:=
 let args:=argsOf P st m xs ts++caps
 let r:=Γ f args []
 (r.rets,argsVc st xs∧xs.length=ts.length∧idsOf st.h args=[]∧r.pre∧r.blks=[]∧quietArgs st xs r.rets []∧r.rets.all (fun v=>(refsL v).isEmpty)=true)
def dstOk (st:LState):Option Nat→Prop
 | some d=>d<st.n
 | none=>False
def putBlks (h:Heap):List (Nat×Option Blk)→Heap
 | []=>h
 | (i,b) :: l=>upd (putBlks h l) i b
def killL (K:List Nat):CV→CV
 | .vw i=>if i∈K then .dead else .vw i
 | .ptr i o=>if i∈K then .dead else .ptr i o
 | .ap i a b=>if i∈K then .dead else .ap i a b
 | .fn f ids=>if ids.any (fun i=>decide (i∈K)) then .dead else .fn f ids
 | c=>c
def killHL (K:List Nat) (h:Heap):Heap:=fun i=>if i∈K then none else (h i).map (Blk.map (killL K))
def killSL (K:List Nat) (s:Nat→SV):Nat→SV:=fun t=>(s t).map (killL K)
def callL (P:Program) (m:List Bool) (st:LState) (xs:List Operand) (ts:List TypeId) (caps:List LV):List Nat:=idsOf st.h (argsOf P st m xs ts++caps)
def callR (P:Program) (Γ:FuncId→List LV→List Blk→CRes) (m:List Bool) (st:LState) (f:FuncId) (xs:List Operand) (ts:List TypeId) (caps:List LV):CRes:=
 Γ f ((argsOf P st m xs ts++caps).map (LV.map (renC fun id=>(callL P m st xs ts caps).idxOf id)))
  ((callL P m st xs ts caps).map fun id=>((st.h id).getD (.var [])).map (renC fun id=>(callL P m st xs ts caps).idxOf id))
def newsOf (L:List Nat) (d:Option Nat) (blks:List (Option Blk)):List (Nat×Option Blk):=
 (List.range blks.length).map fun k=>(backId L d k,(blks.getD k none).map (Blk.map (renC (backId L d))))
def killsOf (L:List Nat) (d:Option Nat) (blks:List (Option Blk)):List Nat:=
 ((List.range blks.length).filter fun k => !decide (k<L.length)).map (backId L d)
def keepB:Option Blk→Option Blk→Prop
 | some (.var _),b=>match b with | some (.var _)=>True | _=>False
 | some (.arr e xs),b=>match b with | some (.arr e' ys)=>e'=e∧ys.length=xs.length | _=>False
 | none,_=>False
def keepAll (h:Heap) (blks:List (Option Blk)):Nat→List Nat→Prop
 | _,[]=>True
 | k,id :: L=>keepB (h id) (blks.getD k none)∧keepAll h blks (k+1) L
def dstOkB (st:LState):Option Nat→Prop
 | some d=>d<st.n
 | none=>True
def closedL (h:Heap) (L:List Nat):Bool:=L.all fun id=>match h id with | some b=>(refsB b).all fun i=>L.contains i | none=>false
def evCallB (P:Program) (Γ:FuncId→List LV→List Blk→CRes) (m:List Bool) (st:LState) (d:Option Nat) (f:FuncId) (xs:List Operand) (ts:List TypeId) (caps:List LV):LState×Prop:=
 let L:=callL P m st xs ts caps
 let r:=callR P Γ m st f xs ts caps
 let K:=killsOf L d r.blks
 (setRets d { st with s:=killSL K st.s,h:=putBlks (killHL K st.h) (newsOf L d r.blks) } (r.rets.map (LV.map (renC (backId L d)))),
  argsVc st xs∧xs.length=ts.length∧closedL st.h L=true∧r.pre∧L.length≤r.blks.length∧vwOk st m xs=true ∧
   ((List.range (r.blks.length - L.length)).all fun j => !L.contains (newId d j))=true∧dstOkB st d ∧
   keepAll st.h r.blks 0 L∧((List.range (r.blks.length - L.length)).all fun j=>decide (100≤newId d j))=true)
def isNilConst:Operand→Bool
 | .const (.slice none 0 0)=>true
 | _=>false
def srcOf (h:Heap):LV→List (List PV)×Prop
 | .one (.p .nil)=>([],True)
 | .one (.p (.sl _ xs))=>(xs,True)
 | .one (.fl _ xs)=>(xs,True)
 | .one (.vw id)=>match h id with
  | some (.arr _ xs)=>(xs,True)
  | _=>([],False)
 | _=>([],False)
def srcE (h:Heap) (e:Nat):LV→Prop
 | .one (.p .nil)=>True
 | .one (.p (.sl e' _))=>e'=e
 | .one (.fl e' _)=>e'=e
 | .one (.vw id)=>match h id with
  | some (.arr e' _)=>e'=e
  | _=>False
 | _=>False
def evLoud (P:Program) (E:Env P) (st:LState) (o:Oper):LState×Prop:=
 match o.op with
 | .assign x=>
  match o.dst,(tyOf P o.type).k with
  | some d,.sl el=>if isNilConst x then (bindB st (d+100) (.arr (tyOf P el).size []) d (.one (.vw (d+100))),1≤(tyOf P el).size∧d<st.n) else (st,False)
  | _,_=>(st,False)
 | .alloc t=>
  match o.dst with
  | some d=>(bindB st (d+100) (.var ((tyOf P t).zero.map fun v=>.p (toP v))) d (.one (.ptr (d+100) 0)),d<st.n∧zeroOk P t=true)
  | none=>(st,False)
 | .box t x=>
  match o.dst with
  | some d=>(bindB st (d+100) (.var ((cellsOfL (ev st x).1).map (killC (d+100)))) d (.one (.ptr (d+100) 0)),(ev st x).2∧d<st.n)
  | none=>(st,False)
 | .store t x y=>
  let vs:=cellsOfL (ev st y).1
  match (ev st x).1 with
  | .one (.ptr id off)=>
   match st.h id with
   | some (.var cs)=>({ st with h:=upd st.h id (some (.var (splice cs off vs))) },(ev st x).2∧(ev st y).2∧vs.length=(tyOf P t).size∧(tyOf P t).size≠0∧off+vs.length≤cs.length∧o.dst=none)
   | _=>(st,False)
  | .one (.ap id i j)=>
   match st.h id with
   | some (.arr e xs)=>({ st with h:=upd st.h id (some (.arr e (setC xs i j (purify vs).1))) },
     (ev st x).2∧(ev st y).2∧(purify vs).2∧vs.length=(tyOf P t).size∧(tyOf P t).size≠0∧i<xs.length∧j+vs.length≤e∧o.dst=none)
   | _=>(st,False)
  | _=>(st,False)
 | .buildSlice t len parts=>
  match o.dst,(tyOf P t).k with
  | some d,.sl el=>(bindB st (d+100) (.arr (tyOf P el).size (evBuildS (tyOf P el).size (tyOf P el).ce (evParts st parts) (List.replicate len (fixN (tyOf P el).ce ((tyOf P el).zero.map toP)))).1) d (.one (.vw (d+100))),(evBuildS (tyOf P el).size (tyOf P el).ce (evParts st parts) (List.replicate len (fixN (tyOf P el).ce ((tyOf P el).zero.map toP)))).2∧zeroOk P el=true∧len*(tyOf P el).size≤16777216∧d<st.n)
  | _,_=>(st,False)
 | .makeSlice t l c=>
  match o.dst,(tyOf P t).k,(ev st l).1,(ev st c).1 with
  | some d,.sl el,.one (.p (.val (.int _ n))),.one (.p (.val (.int _ m)))=>
   (bindB st (d+100) (.arr (tyOf P el).size (List.replicate n.toNat (fixN (tyOf P el).ce ((tyOf P el).zero.map toP)))) d (.one (.vw (d+100))),
    (ev st l).2∧(ev st c).2∧0≤n∧n≤m∧m*(tyOf P el).bytes≤roomy∧m≤roomy∧zeroOk P el=true∧d<st.n)
  | _,_,_,_=>(st,False)
 | .call c=>
  match c.callee with
  | .builtin .append=>
   match o.dst,c.args.toList,c.argTypes.toList with
   | some d,[s,x],[t,t']=>
    match (tyOf P t).k,(tyOf P t').k with
    | .sl el,.sl _=>
     let ys:=(srcOf st.h (ev st x).1).1
     let vc:=(ev st s).2∧(ev st x).2∧(srcOf st.h (ev st x).1).2∧srcE st.h (tyOf P el).size (ev st x).1∧zeroOk P el=true∧d<st.n∧t=t'
     match (ev st s).1 with
     | .one (.p .nil)=>(bindB st (d+100) (.arr (tyOf P el).size ys) d (.one (.vw (d+100))),vc∧ys.length*(tyOf P el).bytes≤roomy∧ys.length≤roomy)
     | .one (.vw id)=>
      match st.h id with
      | some (.arr e xs)=>(bindB st id (.arr e (xs++ys)) d (.one (.vw id)),vc∧e=(tyOf P el).size∧(xs.length+ys.length)*(tyOf P el).bytes≤roomy∧xs.length+ys.length≤roomy∧100≤id)
      | _=>(st,False)
     | .one (.fl e xs)=>
      match (ev st x).1 with
      | .one (.fl _ (_ :: _))=>(bindB st (d+100) (.arr e (xs++ys)) d (.one (.vw (d+100))),vc∧e=(tyOf P el).size∧(xs.length+ys.length)*(tyOf P el).bytes≤roomy∧xs.length+ys.length≤roomy)
      | _=>({ st with s:=upd st.s d (.x (.one (.p (.sl e (xs++ys))))) },vc∧e=(tyOf P el).size∧(xs.length+ys.length)*(tyOf P el).bytes≤roomy∧xs.length+ys.length≤roomy∧isVw (ev st x).1=false)
     | _=>(st,False)
    | _,_=>(st,False)
   | _,_,_=>(st,False)
  | .value (.func f)=>evCallB P (E.Γ o.dst) (E.M o.dst f) st o.dst f c.args.toList c.argTypes.toList []
  | .value (.tmp t)=>
   match (ev st (.tmp t)).1 with
   | .one (.fn f ids)=>((evCallB P (E.Γ o.dst) (E.M o.dst f) st o.dst f c.args.toList c.argTypes.toList (ids.map fun i=>.one (.ptr i 0))).1,(ev st (.tmp t)).2∧(evCallB P (E.Γ o.dst) (E.M o.dst f) st o.dst f c.args.toList c.argTypes.toList (ids.map fun i=>.one (.ptr i 0))).2)
   | _=>(st,False)
  | _=>(st,False)
 | _=>(st,False)
def isLoud (P:Program) (E:Env P) (st:LState) (o:Oper):Bool:=
 match o.op with
 | .assign x=>isNilConst x&&(match (tyOf P o.type).k with | .sl _=>true | _=>false)
 | .alloc _ | .box _ _ | .store _ _ _ | .makeSlice _ _ _=>true
 | .buildSlice _ _ _ => !(E.M o.dst 0).isEmpty
 | .call c=>
  match c.callee with
  | .builtin .append=>true
  | .value (.func f) => !(callL P (E.M o.dst f) st c.args.toList c.argTypes.toList []).isEmpty || !(E.Γ o.dst f (argsOf P st (E.M o.dst f) c.args.toList c.argTypes.toList) []).blks.isEmpty
  | .value (.tmp t)=>match (ev st (.tmp t)).1 with
   | .one (.fn f ids) => !ids.isEmpty || !(callL P (E.M o.dst f) st c.args.toList c.argTypes.toList []).isEmpty || !(E.Γ o.dst f (argsOf P st (E.M o.dst f) c.args.toList c.argTypes.toList) []).blks.isEmpty
   | _=>true
  | _=>false
 | _=>false
def evQ (P:Program) (E:Env P) (st:LState) (o:Oper):SV×Prop:=
 match o.op with
 | .call c=>
  match c.callee with
  | .value (.func f)=>
   (retS (evCallQ P (E.Γ o.dst) (E.M o.dst f) st f c.args.toList c.argTypes.toList []).1,(evCallQ P (E.Γ o.dst) (E.M o.dst f) st f c.args.toList c.argTypes.toList []).2)
  | .value (.tmp t)=>
   match (ev st (.tmp t)).1 with
   | .one (.fn f [])=>
    (retS (evCallQ P (E.Γ o.dst) (E.M o.dst f) st f c.args.toList c.argTypes.toList []).1,(ev st (.tmp t)).2∧(evCallQ P (E.Γ o.dst) (E.M o.dst f) st f c.args.toList c.argTypes.toList []).2)
   | _=>(.dead,False)
  | _=>evVal P E.Θ st o
 | .assign x=>if isNilConst x then (.x (.one (.p .nil)),True) else evVal P E.Θ st o
 | _=>evVal P E.Θ st o
def guardOf (ops:Array Oper) (st:LState) (o:Oper):Option (Bool×Prop):=
 match o.guard with
 | none=>none
 | some (j,want)=>
  match (ops[j]?).bind (·.dst) with
  | some t=>match st.s t with
   | .x (.one (.p (.val (.bool b))))=>some (b==want,t<st.n)
   | .wh g (.one (.p (.val (.bool b))))=>some (g&&(b==want),t<st.n)
   | .wh false _=>some (false,t<st.n)
   | _=>some (false,False)
  | none=>some (false,False)
def putV (st:LState) (d:Option Nat) (v:SV):LState:=
 match d with
 | some d=>{ st with s:=upd st.s d v }
 | none=>st
def whV (g:Bool):SV→SV
 | .x v=>.wh g v
 | _=>.dead
def isX:SV→Prop
 | .x _=>True
 | _=>False
def stepQ (P:Program) (E:Env P) (ops:Array Oper) (st:LState) (o:Oper):LState×Prop:=
 match guardOf ops st o with
 | none=>(putV st o.dst (evQ P E st o).1,dstOk st o.dst∧(evQ P E st o).2)
 | some (g,q)=>(putV st o.dst (whV g (evQ P E st o).1),dstOk st o.dst∧q∧isX (evQ P E st o).1∧(g=true→(evQ P E st o).2))
def noV (P:Program) (t:TypeId):LV:=match (tyOf P t).k with
 | .int k=>.int k 0
 | _=>.bool false
def stepL (P:Program) (E:Env P) (ops:Array Oper) (st:LState) (o:Oper):LState×Prop:=
 match guardOf ops st o with
 | none=>evLoud P E st o
 | some (true,q)=>((evLoud P E st o).1,q∧(evLoud P E st o).2)
 | some (false,q)=>(putV st o.dst (.wh false (noV P o.type)),q∧dstOk st o.dst)
def step1 (P:Program) (E:Env P) (ops:Array Oper) (st:LState) (o:Oper):LState×Prop:=
 if isLoud P E st o then stepL P E ops st o else stepQ P E ops st o
def evOps (P:Program) (E:Env P) (ops:Array Oper):List Oper→LState→Prop→LState×Prop
 | [],st,q=>(st,q)
 | o :: l,st,q=>evOps P E ops l (step1 P E ops st o).1 (q∧(step1 P E ops st o).2)
end Go.LS
