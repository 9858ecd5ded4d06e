/-
  Contracts of copies.Canonical, entry.step, attendance.Fold, attendance.Compare, custody.step, custody.Account, slices.Clone. No condition but those that each theorem names.
-/
import Derived.Test.YtmgjidfafnajnaaGreatLs32
import Derived.Test.YtmgjidfafnajnaaGreatZXA
import Derived.Below
import Derived.Test.YtmgjidfafnajnaaGreatZXD
import Derived.Test.YtmgjidfafnajnaaGreatZXE
import Derived.Test.YtmgjidfafnajnaaGreatZXF
import Derived.Test.YtmgjidfafnajnaaGreatLs34
namespace Go.LS
open Go.Proofs Go.RowKit Go.Sort
set_option linter.all false
theorem calls_of_okR {P : Program} {f : FuncId} {fn : Func} {c : Go.Code} (hf : P.funcs[f]? = some fn) (hb : fn.body = some c) (hname : (fn.name == "runtime.NumGoroutine") = false) {args rets : List LV} (ok : CallOK P f args [] rets [])
  (w:World) (S:Seen) (vs:Array Value) (ht:TabOK w []) (hs:∀b o,S b o→b<w.heap.size) (hr:RepLs w S (fun _=>none) (fun _=>none) vs.toList args) :
  Calls P f vs w fun e w'=>∃v S',e = .returned v∧Below w.heap.size w w'∧(∀b o,S b o→S' b o)∧(∀b o,S' b o→S b o∨w.heap.size≤b)∧(∀b o,S' b o→b<w'.heap.size)∧RepR w' S' (fun _=>none) (fun _=>none) v rets:=by
 have hH:heapOf []=(fun _=>none):=by funext k; simp [heapOf]
 have hH':heapOf' []=(fun _=>none):=by funext k; simp [heapOf']
 have hm:Mem w [] w S (fun _=>none) (heapOf []):=
  ⟨(fun id blk hb=>by simp [heapOf] at hb),fun _ _=>rfl,(fun _ _ _ h=>by cases h),(fun _ _ _ _ _ h=>by cases h),fun b o h=>⟨hs b o h,(fun _ _ h=>by cases h)⟩,Nat.le_refl _,fun _ _ _=>rfl,Calm.refl w,RowsKept.refl w,ht⟩
 have:=ok w vs S (fun _=>none) [] hm (by rw [hH]; exact hr)
 unfold CallF at this
 rw [run_callFunc hf hb hname] at this
 refine Calls.mono this ?_
 rintro e w' ⟨v,S',ρ',rfl,hm',h1,h2,_,_,hv⟩
 have hρ:ρ'=fun _=>none:=by funext k; exact hm'.dom k (by rw [hH'])
 subst hρ
 rw [hH'] at hv
 exact⟨v,S',rfl,⟨hm'.calm.1,hm'.calm.2.1,hm'.calm.2.2,hm'.size,fun k hk=>hm'.frame k hk (by simp)⟩,h1,h2,fun b o h=>(hm'.sep b o h).1,hv⟩
section
variable {P:Program}
theorem callOK_read {f : FuncId} {fn : Func} {c : Go.Code} (hf : P.funcs[f]? = some fn) (hb : fn.body = some c) (hname : (fn.name == "runtime.NumGoroutine") = false) {args rets : List LV}
  (hc:∀ (w:World) (S:Seen) (vs:Array Value),TabOK w []→(∀b o,S b o→b<w.heap.size)→RepLs w S (fun _=>none) (fun _=>none) vs.toList args →
   Calls P f vs w fun e w'=>∃v S',e = .returned v∧Below w.heap.size w w'∧(∀b o,S b o→S' b o)∧(∀b o,S' b o→S b o∨(w.heap.size≤b∧b<w'.heap.size))∧RepR w' S' (fun _=>none) (fun _=>none) v rets):CallOK P f args [] rets []:=by
 intro w vs S ρ B hm hrs
 have hH:heapOf []=(fun _=>none):=by funext k; simp [heapOf]
 have hH':heapOf' []=(fun _=>none):=by funext k; simp [heapOf']
 have hρ:ρ=fun _=>none:=by funext k; exact hm.dom k (by rw [hH])
 subst hρ
 rw [hH] at hrs hm
 unfold CallF
 rw [run_callFunc hf hb hname]
 refine (hc w S vs hm.tab.nil (fun b o h=>(hm.sep b o h).1) hrs).mono ?_
 rintro e w' ⟨v,S',rfl,h1,h2,h3,h4⟩
 have g:Grow w w' S S':=⟨h1.size,h1.block,h2,h3,⟨h1.os,h1.tape,h1.output⟩⟩
 rw [hH']
 exact⟨v,S',fun _=>none,rfl,hm.grow g,h2,fun b o h=>(h3 b o h).imp id And.left,fun _ _=>rfl,(fun _ _ _ hk=>by cases hk),h4⟩
end
theorem repL_p {w:World}{S:Seen}{ρ:Place}{h:Heap}{v:Value}{x:PV}(r:RepL w S ρ h v (.one (.p x))):RepP w S v x:=by
 cases r; assumption
theorem reps1 {w:World}{S:Seen}{vs:Array Value}{a:LV}(h:RepLs w S (fun _=>none) (fun _=>none) vs.toList [a]):∃v,vs = #[v]∧RepL w S (fun _=>none) (fun _=>none) v a:=by
 obtain⟨h1,h2⟩:=h
 obtain⟨l⟩:=vs
 match l,h1 with
 | [v],_=>exact⟨v,rfl,h2 0 (by simp) (by simp)⟩
end Go.LS
namespace Go.LS
open Go.Proofs Go.RowKit Go.Sort
set_option linter.all false
theorem sl_of {α:Type}{w:World}{S:Seen}{v:Value}(z:Nat) (enc:α→List PV) (hz:∀x,(enc x).length=z) (h1:1≤z) (hs:∀b o,S b o→b<w.heap.size) (l:List α) (r:RepP w S v (.sl z (l.map enc))) :
  ∃ao b o cap,v = .slice ao l.length cap∧((ao=none∧l.length=0∧cap=0)∨ao=some ⟨b,o,none⟩)∧(0<l.length→ao=some ⟨b,o,none⟩∧b<w.heap.size) ∧
   ∀i (hi:i<l.length) j (hj:j<(enc l[i]).length),∃u,w.cell? ⟨b,o+i*z+j,none⟩=some u∧RepP w S u (enc l[i])[j]:=by
 generalize hx:List.map enc l=xs at r
 cases r with
 | slnil=>
  have:l=[]:=by simpa using hx
  subst this
  exact⟨none,0,0,0,rfl,.inl ⟨rfl,rfl,rfl⟩,fun h=>by simp at h,fun i hi=>by simp at hi⟩
 | sl b o n cap e f xs hn hcap he hm hl2 hc hr=>
  subst hx
  have hn':l.length=n:=by simpa using hn
  subst hn'
  refine⟨some ⟨b,o,none⟩,b,o,cap,rfl,.inr rfl,fun h=>⟨rfl,hs _ _ (hc 0 0 h (by omega)).1⟩,fun i hi j hj=>?_⟩
  have h2:=(hc i j hi (by rw [← hz l[i]]; exact hj)).2
  have h3:=hr i j (by simpa using hi) (by simpa using hj)
  simp only [List.getElem_map] at h3
  rw [show o+(i*z+j)=o+i*z+j by omega] at h2
  exact⟨_,h2,h3⟩
theorem rep_ownZ {α:Type}{w:World}{S:Seen}{B e:Nat}{v:Value}(z:Nat) (enc:α→List PV) (cel:α→List Value) (hz:∀x,(enc x).length=z) (hc:∀x,(cel x).length=z) (h1:1≤z) (l:List α) (h:w.ownsRow B e z v l.length (l.flatMap cel)) (hS:∀b o,B≤b→b<w.heap.size→S b o)
  (hr:∀i (hi:i<l.length) j (hj:j<(enc l[i]).length) (hj':j<(cel l[i]).length),RepP w S (cel l[i])[j] (enc l[i])[j]):RepP w S v (.sl z (l.map enc)):=by
 rcases h.2 with⟨h2,h3⟩ | ⟨g,cap,cur,e1,hb,hcur,hn,hm,hsz,ht⟩
 ·have:l=[]:=List.length_eq_zero_iff.1 h3
  subst this; subst h2; exact .slnil z
 ·subst e1
  have hgl:=(Array.getElem?_eq_some_iff.1 hcur).1
  have hat:∀i (hi:i<l.length) j (hj:j<z),w.cell? ⟨g,i*z+j,none⟩=some ((cel l[i])[j]'(by rw [hc]; exact hj)):=fun i hi j hj=>by
   have hlt:i*z+j<l.length*z:=by
    have:(i+1)*z≤l.length*z:=Nat.mul_le_mul_right z hi
    rw [Nat.succ_mul] at this; omega
   rw [h.cellAt (i*z+j) hlt,flat_get cel z hc l i j hi hj,List.getElem?_eq_getElem]
  refine .sl g 0 _ _ z (fun i j=>((l.flatMap cel)[i*z+j]?).getD undef) _ (by simp) hn h1 (by unfold huge; unfold maxLen at hm; omega) (fun x hx=>?_) (fun i j hi hj=>⟨hS _ _ hb hgl,?_⟩) (fun i j hi hj=>?_)
  ·obtain⟨y,_,rfl⟩:=List.mem_map.1 hx; exact hz y
  ·rw [Nat.zero_add,hat i hi j hj,flat_get cel z hc l i j hi hj,List.getElem?_eq_getElem (by rw [hc]; exact hj)]; rfl
  ·have hi':i<l.length:=by simpa using hi
   have hj2:j<z:=by simpa [hz] using hj
   show RepP w S (((l.flatMap cel)[i*z+j]?).getD undef) _
   rw [flat_get cel z hc l i j hi' hj2,List.getElem?_eq_getElem (by rw [hc]; exact hj2)]
   simp only [List.getElem_map,Option.getD_some]
   exact hr i hi' j (by rw [hz]; exact hj2) (by rw [hc]; exact hj2)
end Go.LS
namespace Go.LS
open Go.Proofs Go.RowKit Go.Sort
set_option linter.all false
theorem slW_of {w:World}{S:Seen}{v:Value}(hs:∀b o,S b o→b<w.heap.size) (l:List Int) (r:RepP w S v (.sl 1 (l.map encI))):∃ao cap,v = .slice ao l.length cap∧SlW w ao l.length cap l:=by
 obtain⟨ao,b,o,cap,rfl,hnil,hpos,hc⟩:=sl_of 1 encI (fun _=>rfl) (by omega) hs l r
 refine⟨ao,cap,rfl,rfl,?_⟩
 rcases hnil with⟨h1,h2,h3⟩ | h1
 ·exact .inl ⟨h1,h2,h3⟩
 ·refine .inr ⟨b,o,h1,fun h0=>⟨(hpos h0).2,fun i hi=>?_⟩⟩
  obtain⟨u,h2,h3⟩:=hc i hi 0 (by simp [encI])
  rw [show o+i*1+0=o+i by omega] at h2
  rw [h2,List.getD_eq_getElem?_getD,List.getElem?_eq_getElem hi]
  simp only [encI,List.getElem_cons_zero] at h3
  cases h3
  rfl
theorem flat_intZ:∀l:List Int,l.flatMap (fun x=>[Value.int .i64 x])=intZ l
 | []=>rfl
 | x :: l=>by rw [List.flatMap_cons,flat_intZ l]; rfl
theorem rep_intsZ {w:World}{S:Seen}{B:Nat}{v:Value}{l:List Int}(h:w.ownsRow B 3 1 v l.length (intZ l)) (hS:∀b o,B≤b→b<w.heap.size→S b o):RepP w S v (.sl 1 (l.map encI)):=by
 refine rep_ownZ 1 encI (fun x=>[.int .i64 x]) (fun _=>rfl) (fun _=>rfl) (by omega) l (by rw [flat_intZ]; exact h) hS fun i hi j hj hj'=>?_
 have:j=0:=by simp [encI] at hj; exact hj
 subst this
 exact .val _ rfl
theorem zj1 {w w':World}(h:w.Since w.heap.size w'):Below w.heap.size w w':=⟨h.os,h.tape,h.output,h.size,h.block⟩
def slices_Clone_intint (s:List Int):Option (List Int):=if s.length≤1000 then some s else none
set_option maxRecDepth 100000 in
theorem ok_slices_Clone_intint (s r_:List Int) (H0:slices_Clone_intint s=some r_):CallOK Tryz.prog 60 [.one (.p (.sl 1 (List.map encI s)))] [] [.one (.p (.sl 1 (List.map encI r_)))] []:=by
 unfold slices_Clone_intint at H0
 split at H0
 ·rename_i hx
  obtain rfl:=Option.some.inj H0
  refine callOK_read Tryz.func60 rfl (by kernel_rfl) fun w S vs ht hs hr=>?_
  obtain⟨v,rfl,rv⟩:=reps1 hr
  obtain⟨ao,cap,rfl,hW⟩:=slW_of hs s (repL_p rv)
  refine (Tryz.CloneI_walk ao s.length cap s w hx hW).mono ?_
  rintro e w' ⟨v',rfl,h1,h2⟩
  exact⟨v',fun b o=>S b o∨(w.heap.size≤b∧b<w'.heap.size),rfl,zj1 h2,fun _ _ h=>.inl h,fun _ _ h=>h,.p (rep_intsZ h1 fun b o h3 h4=>.inr ⟨h3,h4⟩)⟩
 ·cases H0
end Go.LS
namespace Go.LS
open Go.Proofs Go.RowKit Go.Sort
set_option linter.all false
def encBg (y:Bg):List PV:=[.val (.int .i64 y.1),.val (.int .i64 y.2.1),.val (.bool y.2.2.1),.sl 1 (y.2.2.2.1.map encI),.sl 1 (y.2.2.2.2.1.map encI),.sl 1 (y.2.2.2.2.2.map encI)]
theorem val_inv {w:World}{S:Seen}{u x:Value}(h:RepP w S u (.val x)):u=x:=by cases h; rfl
theorem bags_of {w:World}{S:Seen}{v:Value}(hs:∀b o,S b o→b<w.heap.size) (l:List Bg) (r:RepP w S v (.sl 6 (l.map encBg))) :
  ∃ao b o cap,∃X:Nat→BagR,v = .slice ao l.length cap∧BagsW w ao b o l.length X∧∀i (hi:i<l.length),(X i).log=l[i]∧(X i).sn=(X i).seals.length∧(X i).pn=(X i).packed.length∧(X i).fn=(X i).found.length:=by
 obtain⟨ao,b,o,cap,rfl,hnil,hpos,hc⟩:=sl_of 6 encBg (fun _=>rfl) (by omega) hs l r
 have key:∀i (hi:i<l.length),∃x:BagR,BagC w b o i x∧BagOK w x∧x.log=l[i]∧x.sn=x.seals.length∧x.pn=x.packed.length∧x.fn=x.found.length:=fun i hi=>by
  obtain⟨u0,a0,r0⟩:=hc i hi 0 (by simp [encBg])
  obtain⟨u1,a1,r1⟩:=hc i hi 1 (by simp [encBg])
  obtain⟨u2,a2,r2⟩:=hc i hi 2 (by simp [encBg])
  obtain⟨u3,a3,r3⟩:=hc i hi 3 (by simp [encBg])
  obtain⟨u4,a4,r4⟩:=hc i hi 4 (by simp [encBg])
  obtain⟨u5,a5,r5⟩:=hc i hi 5 (by simp [encBg])
  simp only [encBg,List.getElem_cons_zero,List.getElem_cons_succ] at r0 r1 r2 r3 r4 r5
  have e0:=val_inv r0; have e1:=val_inv r1; have e2:=val_inv r2
  obtain⟨sa,sc,rfl,h3⟩:=slW_of hs _ r3
  obtain⟨pa,pc,rfl,h4⟩:=slW_of hs _ r4
  obtain⟨fa,fc,rfl,h5⟩:=slW_of hs _ r5
  subst e0 e1 e2
  exact⟨⟨l[i].1,l[i].2.1,l[i].2.2.1,sa,_,sc,pa,_,pc,fa,_,fc,l[i].2.2.2.1,l[i].2.2.2.2.1,l[i].2.2.2.2.2⟩,⟨a0,a1,a2,a3,a4,a5⟩,⟨h3,h4,h5⟩,rfl,rfl,rfl,rfl⟩
 refine⟨ao,b,o,cap,fun i=>if h:i<l.length then Classical.choose (key i h) else⟨0,0,false,none,0,0,none,0,0,none,0,0,[],[],[]⟩,rfl,⟨hpos,fun i hi=>?_,fun i hi=>?_⟩,fun i hi=>?_⟩
 ·rw [dif_pos hi]; exact (Classical.choose_spec (key i hi)).1
 ·rw [dif_pos hi]; exact (Classical.choose_spec (key i hi)).2.1
 ·dsimp only; rw [dif_pos hi]; exact (Classical.choose_spec (key i hi)).2.2
theorem rep_bags {w w':World}{S:Seen}{B:Nat}{v:Value}{l:List BagN}(h:NextW w w' B v l 0) (hS:∀b o,B≤b→b<w'.heap.size→S b o):RepP w' S v (.sl 6 ((l.map BagN.log).map encBg)):=by
 have o:=h.own
 simp only [List.replicate_zero,List.append_nil,Nat.add_zero] at o
 rw [List.map_map]
 refine rep_ownZ 6 (encBg ∘ BagN.log) BagN.cells (fun _=>rfl) (fun _=>rfl) (by omega) l o hS fun i hi j hj hj'=>?_
 have hj6:j<6:=hj'
 have hm:∀p∈l[i].fam,p∈famN l:=fun p hp=>List.mem_flatMap.2 ⟨l[i],List.getElem_mem hi,hp⟩
 have f:∀p∈l[i].fam,RepP w' S p.1 (.sl 1 (p.2.map encI)):=fun p hp=>rep_intsZ (h.fam.own p (hm p hp)) hS
 match j,hj6 with
 | 0,_=>exact .val _ rfl
 | 1,_=>exact .val _ rfl
 | 2,_=>exact .val _ rfl
 | 3,_=>exact f (l[i].vs,l[i].seals) (by simp [BagN.fam])
 | 4,_=>exact f (l[i].vp,l[i].packed) (by simp [BagN.fam])
 | 5,_=>exact f (l[i].vf,l[i].found) (by simp [BagN.fam])
end Go.LS
namespace Go.LS
open Go.Proofs Go.RowKit Go.Sort
set_option linter.all false
structure Evt where
 t:Int
 src:Int
 seq:Int
 kind:Int
 bag:Int
 sealQ:Int
 frm:Int
 to':Int
 cands:List Int
def Evt.cells (x:Evt):List CV:=[.p (pi x.t),.p (pi x.src),.p (pi x.seq),.p (pi x.kind),.p (pi x.bag),.p (pi x.sealQ),.p (pi x.frm),.p (pi x.to'),.p (.sl 1 (x.cands.map encI))]
def sealsIn (L:List Bg) (m:Int):Bool:=L.any fun y=>decide (m∈y.2.2.2.1)
def packedIn (L:List Bg) (m:Int):Bool:=L.any fun y=>decide (m∈y.2.2.2.2.1)
def nilBg:Bg:=(0,0,false,[],[],[])
def holdNL (rng there:Bool) (L:List Bg) (x:Evt):Nat→Bool
 | 0=>rng
 | 1 => !decide (x.src=0) && !decide (x.src=x.frm)
 | 2=>decide (x.frm=0)
 | 3=>there
 | 4=>sealsIn L x.sealQ||x.cands.any (packedIn L)
 | _=>decide ((20:Int)≤(L.length:Int))
def holdOL (rng there:Bool) (place:Nat) (L:List Bg) (x:Evt):Nat→Bool
 | 0=>rng
 | 1 => !decide (x.src=0) && !decide (x.src=x.frm)
 | 2 => !there
 | 3=>let y:=L.getD place nilBg; y.2.2.1 || !decide (y.2.1=x.frm)||(decide (x.kind=2)&&decide (x.to'=x.frm))||(decide (x.kind=3) && !decide (x.frm=0))
 | 4=>if x.kind=4 then sealsIn L x.sealQ else let y:=L.getD place nilBg; !decide (y.2.2.2.1.getD (y.2.2.2.1.length - 1) 0=x.sealQ)
 | _=>decide (x.kind=4)&&decide ((300:Int)≤((L.getD place nilBg).2.2.2.1.length:Int))
def codeL (rng there:Bool) (place:Nat) (L:List Bg) (x:Evt):Int:=if x.kind=1 then firstP codeN (holdNL rng there L x) 6 0 else firstP codeO (holdOL rng there place L x) 6 0
def nextL (L:List Bg) (place:Nat) (x:Evt):List Bg:=
 if x.kind=1 then L.take place++[(x.bag,x.frm,false,[x.sealQ],x.cands,[])]++L.drop place
 else if x.kind=2 then putB L place fun y=>(y.1,x.to',y.2.2)
 else if x.kind=3 then putB L place fun y=>(y.1,y.2.1,true,y.2.2.2.1,y.2.2.2.2.1,x.cands)
 else if x.kind=4 then putB L place fun y=>(y.1,y.2.1,y.2.2.1,y.2.2.2.1++[x.sealQ],y.2.2.2.2)
 else L
def stepL' (rng there:Bool) (place:Nat) (L:List Bg) (x:Evt):List Bg×Int:=if codeL rng there place L x=0 then (nextL L place x,0) else ([],codeL rng there place L x)
section
variable {n:Nat} {X:Nat→BagR} {L:List Bg}
theorem logs_eq (hl:L.length=n) (h:∀i (hi:i<L.length),(X i).log=L[i]):((List.range n).map fun i=>(X i).log)=L:=by
 refine List.ext_getElem (by simp [hl]) fun i h1 h2=>?_
 simp only [List.getElem_map,List.getElem_range]
 exact h i h2
theorem any_eq (hl:L.length=n) (h:∀i (hi:i<L.length),(X i).log=L[i]) (p:Bg→Bool):((List.range n).any fun i=>p (X i).log)=L.any p:=by
 rw [← logs_eq hl h,List.any_map]; rfl
theorem sealsIn_eq (hl:L.length=n) (h:∀i (hi:i<L.length),(X i).log=L[i]) (m:Int):inBagsP 95 n X m=sealsIn L m:=any_eq hl h fun y=>decide (m∈y.2.2.2.1)
theorem packedIn_eq (hl:L.length=n) (h:∀i (hi:i<L.length),(X i).log=L[i]) (m:Int):inBagsP 98 n X m=packedIn L m:=any_eq hl h fun y=>decide (m∈y.2.2.2.2.1)
def Evt.bev (x:Evt) (ca:Option Addr) (cn cc:Nat):BevR:=⟨x.t,x.src,x.seq,x.kind,x.bag,x.sealQ,x.frm,x.to',ca,cn,cc,x.cands⟩
theorem code_eq (hl:L.length=n) (h:∀i (hi:i<L.length),(X i).log=L[i]) (hsn:∀i,i<n→(X i).sn=(X i).seals.length) (x:Evt) (ca:Option Addr) (cn cc:Nat) (rng there:Bool) (place:Nat) (hth:there=true→place<n) :
  codeB rng there place n X (x.bev ca cn cc)=codeL rng there place L x:=by
 unfold codeB codeL
 have hs:=sealsIn_eq hl h
 have hp:=packedIn_eq hl h
 by_cases hk:x.kind=1
 ·rw [if_pos (show (x.bev ca cn cc).kind=1 from hk),if_pos hk]
  congr 1
  funext i
  match i with
  | 0=>rfl
  | 1=>rfl
  | 2=>rfl
  | 3=>rfl
  | 4=>
   show (inBagsP 95 n X x.sealQ||x.cands.any (inBagsP 98 n X))=_
   rw [hs,show inBagsP 98 n X=packedIn L from funext hp]; rfl
  | i+5=>simp only [holdN,holdNL,hl]
 ·rw [if_neg (show ¬ (x.bev ca cn cc).kind=1 from hk),if_neg hk]
  cases there with
  | false=>simp [firstP_succ,holdO,holdOL,forP,codeO,Evt.bev]
  | true=>
   have hpn:=hth rfl
   have hg:L.getD place nilBg=(X place).log:=by
    rw [List.getD_eq_getElem?_getD,List.getElem?_eq_getElem (by omega),h place (by omega)]; rfl
   congr 1
   funext i
   match i with
   | 0=>rfl
   | 1=>rfl
   | 2=>rfl
   | 3=>simp only [holdO,holdOL,hg]; rfl
   | 4=>
    simp only [holdO,holdOL,hg,confP]
    rw [hsn place hpn]
    show (if x.kind=4 then inBagsP 95 n X x.sealQ else _)=_
    rw [hs]; rfl
   | i+5=>
    simp only [holdO,holdOL,hg]
    rw [hsn place hpn]; rfl
end
end Go.LS
namespace Go.LS
open Go.Proofs Go.RowKit Go.Sort
set_option linter.all false
theorem tabOK_below {w w1:World}(ht:TabOK w []) (h:Below w.heap.size w w1):TabOK w1 []:=fun x hx=>by
 obtain⟨_,o,h1,h2⟩:=ht x hx
 exact⟨by simp,o,(h.block _ (Array.getElem?_eq_some_iff.1 h1).1).trans h1,h2⟩
theorem repLs_below {w w1:World}{S:Seen}{vs:List Value}{args:List LV}(h:Below w.heap.size w w1) (hs:∀b o,S b o→b<w.heap.size) (hn:args.flatMap refsL=[]) (r:RepLs w S (fun _=>none) (fun _=>none) vs args) :
  RepLs w1 S (fun _=>none) (fun _=>none) vs args:=
 r.mono (fun b o hb=>⟨hb,h.cell (p:=⟨b,o,none⟩) (hs b o hb)⟩) (by rw [hn]; intro id hid; cases hid)
theorem reps2 {w:World}{S:Seen}{vs:Array Value}{a b:LV}(h:RepLs w S (fun _=>none) (fun _=>none) vs.toList [a,b]):∃u v,vs = #[u,v]∧RepL w S (fun _=>none) (fun _=>none) u a∧RepL w S (fun _=>none) (fun _=>none) v b:=by
 obtain⟨h1,h2⟩:=h
 obtain⟨l⟩:=vs
 match l,h1 with
 | [u,v],_=>exact⟨u,v,rfl,h2 0 (by simp) (by simp),h2 1 (by simp) (by simp)⟩
theorem repC_v {w:World}{S:Seen}{ρ:Place}{h:Heap}{v u:Value}(r:RepC w S ρ h v (.p (.val u))):v=u:=by
 cases r with
 | p r=>cases r; rfl
theorem ev_of {w:World}{S:Seen}{v:Value}(hs:∀b o,S b o→b<w.heap.size) (x:Evt) (r:RepL w S (fun _=>none) (fun _=>none) v (.agg x.cells)):∃ca cc,v=(x.bev ca x.cands.length cc).val∧SlW w ca x.cands.length cc x.cands:=by
 obtain⟨us,rfl,h1,h2⟩:=r
 obtain⟨l⟩:=us
 match l,h1 with
 | [u0,u1,u2,u3,u4,u5,u6,u7,u8],_=>
  have e0:=repC_v (h2 0 (by simp) (by simp [Evt.cells])); have e1:=repC_v (h2 1 (by simp) (by simp [Evt.cells])); have e2:=repC_v (h2 2 (by simp) (by simp [Evt.cells])); have e3:=repC_v (h2 3 (by simp) (by simp [Evt.cells]))
  have e4:=repC_v (h2 4 (by simp) (by simp [Evt.cells])); have e5:=repC_v (h2 5 (by simp) (by simp [Evt.cells])); have e6:=repC_v (h2 6 (by simp) (by simp [Evt.cells])); have e7:=repC_v (h2 7 (by simp) (by simp [Evt.cells]))
  have r8:RepC w S (fun _=>none) (fun _=>none) u8 (.p (.sl 1 (x.cands.map encI))):=h2 8 (by simp) (by simp [Evt.cells])
  have r8:RepP w S u8 (.sl 1 (x.cands.map encI)):=by cases r8; assumption
  obtain⟨ca,cc,rfl,hc⟩:=slW_of hs _ r8
  simp only [List.getElem_cons_zero,List.getElem_cons_succ] at e0 e1 e2 e3 e4 e5 e6 e7
  subst e0 e1 e2 e3 e4 e5 e6 e7
  exact⟨ca,cc,rfl,hc⟩
theorem sinceOfB {w w':World}(h:Below w.heap.size w w'):w.Since w.heap.size w':=⟨h.os,h.tape,h.output,h.size,h.block⟩
set_option maxRecDepth 100000 in
theorem ok_stepB (L:List Bg) (x:Evt) (rng there:Bool) (place:Nat) (hL:L.length≤250) (hb:∀y∈L,0<y.2.2.2.1.length∧y.2.2.2.1.length≤1000∧y.2.2.2.2.1.length≤1000∧y.2.2.2.2.2.length≤1000) (hcn:x.cands.length≤1000) (hpl:place≤L.length) (hth:there=true→place<L.length)
  (hR:CallOK Tryz.prog 64 [.agg x.cells] [] [.one (.p (.val (.bool rng)))] [])
  (hB:CallOK Tryz.prog 61 [.one (.p (.sl 6 (L.map encBg))),.one (.p (pi x.bag)),.one (.fn 62 [])] [] [.one (.p (pi (place:Int))),.one (.p (.val (.bool there)))] []) :
  CallOK Tryz.prog 37 [.one (.p (.sl 6 (L.map encBg))),.agg x.cells] [] [.one (.p (.sl 6 ((stepL' rng there place L x).1.map encBg))),.one (.p (pi (stepL' rng there place L x).2))] []:=by
 refine callOK_read Tryz.func37 rfl (by kernel_rfl) fun w S vs ht hs hr=>?_
 obtain⟨v,ev,rfl,rv,re⟩:=reps2 hr
 obtain⟨ao,b,o,cap,X,rfl,hW,hX⟩:=bags_of hs L (repL_p rv)
 obtain⟨ca,cc,rfl,hC⟩:=ev_of hs x re
 have hlog:∀i (hi:i<L.length),(X i).log=L[i]:=fun i hi=>(hX i hi).1
 have hbd:∀i (hi:i<L.length),0<(X i).sn∧(X i).sn≤1000∧(X i).pn≤1000∧(X i).fn≤1000:=fun i hi=>by
  obtain⟨h1,h2,h3,h4⟩:=hX i hi
  have h5:=hb L[i] (List.getElem_mem hi)
  rw [← h1] at h5
  rw [h2,h3,h4]
  exact h5
 have hq:∀W,w.Since w.heap.size W→Calls Tryz.prog 64 #[(x.bev ca x.cands.length cc).val] W fun e w'=>e = .returned (.bool rng)∧W.Since W.heap.size w':=fun W hW'=>by
  have hbl:=zj1 hW'
  refine (calls_of_okR Tryz.func64 rfl (by kernel_rfl) hR W S #[(x.bev ca x.cands.length cc).val] (tabOK_below ht hbl) (fun b o h=>Nat.lt_of_lt_of_le (hs b o h) hW'.size) (repLs_below hbl hs rfl ⟨rfl,fun i h1 h2=>?_⟩)).mono ?_
  ·match i,h1 with
   | 0,_=>exact re
  ·rintro e w' ⟨u,S',rfl,q1,_,_,_,q2⟩
   exact⟨by rw [repL_val q2],sinceOfB q1⟩
 have hbs:∀W,w.Since w.heap.size W→Calls Tryz.prog 61 #[.slice ao L.length cap,.int .i64 x.bag,.func (.func 62) #[] #[]] W fun e w'=>e = .returned (.tuple #[.int .i64 (place:Int),.bool there])∧W.Since W.heap.size w':=fun W hW'=>by
  have hbl:=zj1 hW'
  refine (calls_of_okR Tryz.func61 rfl (by kernel_rfl) hB W S #[.slice ao L.length cap,.int .i64 x.bag,.func (.func 62) #[] #[]] (tabOK_below ht hbl) (fun b o h=>Nat.lt_of_lt_of_le (hs b o h) hW'.size) (repLs_below hbl hs rfl ⟨rfl,fun i h1 h2=>?_⟩)).mono ?_
  ·match i,h1 with
   | 0,_=>exact rv
   | 1,_=>exact .p (.val _ rfl)
   | 2,_=>exact .fn rfl fun i hi=>by simp at hi
  ·rintro e w' ⟨u,S',rfl,q1,_,_,_,q2⟩
   obtain⟨us,rfl,q3⟩:=q2
   obtain⟨u0,u1,rfl,g0,g1⟩:=reps2 q3
   exact⟨by rw [repL_val g0,repL_val g1],sinceOfB q1⟩
 have hst:=Tryz.stepB_walk ao b o L.length cap place X (x.bev ca x.cands.length cc) rng there w hW hL (fun i hi=>⟨(hbd i hi).2.1,(hbd i hi).2.2.1,(hbd i hi).2.2.2⟩) (fun i hi=>(hbd i hi).1) hC hcn hpl hth hq hbs
 rw [code_eq rfl hlog (fun i hi=>(hX i hi).2.1) x ca x.cands.length cc rng there place hth,logs_eq rfl hlog] at hst
 refine hst.mono ?_
 rintro e w' h
 rcases h with⟨h1,rfl,h3⟩ | ⟨h1,v',l',rfl,h4,h5⟩
 ·refine⟨_,S,rfl,zj1 h3,fun _ _ h=>h,fun _ _ h=>.inl h,_,rfl,?_⟩
  unfold stepL'
  rw [if_neg h1]
  exact repLs_cons (.p (.slnil 6)) (repLs_cons (.p (.val _ rfl)) repLs_nil)
 ·refine⟨_,fun b o=>S b o∨(w.heap.size≤b∧b<w'.heap.size),rfl,zj1 h5.since,fun _ _ h=>.inl h,fun _ _ h=>h,_,rfl,?_⟩
  unfold stepL'
  rw [if_pos h1]
  refine repLs_cons (.p ?_) (repLs_cons (.p (.val _ rfl)) repLs_nil)
  have:=rep_bags (S:=fun b o=>S b o∨(w.heap.size≤b∧b<w'.heap.size)) h5 (fun b o h6 h7=>.inr ⟨h6,h7⟩)
  rw [h4] at this
  exact this
end Go.LS
namespace Go.LS
open Go.Proofs Go.RowKit Go.Sort
set_option linter.all false
def packsL (L:List Bg):List Int:=L.flatMap fun y=>y.2.2.2.2.1
def opensL (L:List Bg):List Int:=L.flatMap fun y=>if y.2.2.1=true then y.2.2.2.2.1 else []
def foundsL (L:List Bg):List Int:=L.flatMap fun y=>y.2.2.2.2.2
theorem sliceAt_of {w:World}{ao:Option Addr}{cap:Nat}{l:List Int}(h:SlW w ao l.length cap l) (h1:∀x∈l,in64 x) (h2:l.length≤1000):SliceAt w (.slice ao l.length cap) l:=⟨ao,cap,rfl,h1,h2,fun h0=>h.cells h0⟩
set_option maxRecDepth 100000 in
theorem ok_AccountL (L:List Bg) (xs:List Int) (hn:L.length≤1000) (hb:∀y∈L,(y.2.2.2.2.1.length≤1000∧∀c∈y.2.2.2.2.1,in64 c)∧(y.2.2.2.2.2.length≤1000∧∀c∈y.2.2.2.2.2,in64 c)) (hx:xs.length≤1000∧∀c∈xs,in64 c) :
  CallOK Tryz.prog 17 [.one (.p (.sl 6 (L.map encBg))),.one (.p (.sl 1 (xs.map encI)))] [] [.one (.p (.sl 1 ((accL (packsL L) (opensL L) (foundsL L) xs 0).map encI))),.one (.p (.sl 1 ((accL (packsL L) (opensL L) (foundsL L) xs 1).map encI))),.one (.p (.sl 1 ((accL (packsL L) (opensL L) (foundsL L) xs 2).map encI))),.one (.p (.sl 1 ((accL (packsL L) (opensL L) (foundsL L) xs 3).map encI)))] []:=by
 refine callOK_read Tryz.func17 rfl (by kernel_rfl) fun w S vs ht hs hr=>?_
 obtain⟨v,u,rfl,rv,ru⟩:=reps2 hr
 obtain⟨ao,b,o,cap,X,rfl,hW,hX⟩:=bags_of hs L (repL_p rv)
 obtain⟨xa,xc,rfl,hxs⟩:=slW_of hs xs (repL_p ru)
 have hbi:∀i (hi:i<L.length),((X i).packed.length≤1000∧∀c∈(X i).packed,in64 c)∧((X i).found.length≤1000∧∀c∈(X i).found,in64 c):=fun i hi=>by
  have h5:=hb L[i] (List.getElem_mem hi)
  rw [← (hX i hi).1] at h5
  exact h5
 have hlog:∀i (hi:i<L.length),(X i).log=L[i]:=fun i hi=>(hX i hi).1
 have ep:packL (fun i=>(X i).packed) L.length=packsL L:=by
  unfold packL packsL
  conv=>rhs; rw [← logs_eq rfl hlog,List.flatMap_map]
  rfl
 have eo:openL (fun i=>(X i).opn) (fun i=>(X i).packed) L.length=opensL L:=by
  unfold openL opensL
  conv=>rhs; rw [← logs_eq rfl hlog,List.flatMap_map]
  rfl
 have ef:packL (fun i=>(X i).found) L.length=foundsL L:=by
  unfold packL foundsL
  conv=>rhs; rw [← logs_eq rfl hlog,List.flatMap_map]
  rfl
 have hA:=Tryz.Account_walk ao b o L.length cap (fun i=>(X i).bag) (fun i=>(X i).hold) (fun i=>(X i).opn) (fun i=>(X i).sa) (fun i=>(X i).sn) (fun i=>(X i).sc) (fun i=>(X i).packed) (fun i=>(X i).found) (fun i=>.slice (X i).pa (X i).pn (X i).pc) (fun i=>.slice (X i).fa (X i).fn (X i).fc) xs (.slice xa xs.length xc) w hn hW.at'
  (fun i hi=>⟨(hW.row i hi).c0,(hW.row i hi).c1,(hW.row i hi).c2,(hW.row i hi).c3,(hW.row i hi).c4,(hW.row i hi).c5⟩)
  (fun i hi=>by
   have h1:=(hW.ok i hi).p
   rw [(hX i hi).2.2.1] at h1 ⊢
   exact sliceAt_of h1 (hbi i hi).1.2 (hbi i hi).1.1)
  (fun i hi=>by
   have h1:=(hW.ok i hi).f
   rw [(hX i hi).2.2.2] at h1 ⊢
   exact sliceAt_of h1 (hbi i hi).2.2 (hbi i hi).2.1)
  (sliceAt_of hxs hx.2 hx.1)
 rw [ep,eo,ef] at hA
 refine hA.mono ?_
 rintro e w' ⟨v0,v1,v2,v3,w1,rfl,h1,h2⟩
 have hsw:w.Since w.heap.size w':=h1.trans (zJ9 h2.since (by omega))
 have hS':∀b o,w.heap.size+3≤b→b<w'.heap.size→(S b o∨(w.heap.size≤b∧b<w'.heap.size)):=fun b o h6 h7=>.inr ⟨by omega,h7⟩
 refine⟨_,fun b o=>S b o∨(w.heap.size≤b∧b<w'.heap.size),rfl,zj1 hsw,fun _ _ h=>.inl h,fun _ _ h=>h,_,rfl,?_⟩
 exact repLs_cons (.p (rep_intsZ (h2.own 0 (by omega)) hS')) (repLs_cons (.p (rep_intsZ (h2.own 1 (by omega)) hS')) (repLs_cons (.p (rep_intsZ (h2.own 2 (by omega)) hS')) (repLs_cons (.p (rep_intsZ (h2.own 3 (by omega)) hS')) repLs_nil)))
end Go.LS
namespace Go.LS
open Go.Proofs Go.RowKit Go.Sort
set_option linter.all false
abbrev StI:=Int×Int×Int
def sameId (a b:StI):Prop:=a.2.1=b.2.1∧a.2.2=b.2.2
def stLt (a b:StI):Prop:=a.1<b.1∨(a.1=b.1∧(a.2.1<b.2.1∨(a.2.1=b.2.1∧a.2.2<b.2.2)))
theorem stLt_irrefl (a:StI):¬ stLt a a:=by unfold stLt; omega
theorem stLt_trans {a b c:StI}(h:stLt a b) (k:stLt b c):stLt a c:=by unfold stLt at *; omega
theorem stLt_or (a b:StI):stLt a b∨a=b∨stLt b a:=by
 obtain⟨a1,a2,a3⟩:=a
 obtain⟨b1,b2,b3⟩:=b
 by_cases h:a1=b1∧a2=b2∧a3=b3
 ·obtain⟨rfl,rfl,rfl⟩:=h; exact .inr (.inl rfl)
 ·unfold stLt; dsimp only
  have:stLt (a1,a2,a3) (b1,b2,b3)∨stLt (b1,b2,b3) (a1,a2,a3):=by unfold stLt; dsimp only; omega
  unfold stLt at this; dsimp only at this
  rcases this with h | h
  ·exact .inl h
  ·exact .inr (.inr h)
def Counts (n:Nat) (st:Nat→StI) (eqv:Nat→Nat→Bool) (vld:StI→Bool) (i:Nat):Prop:=
 i<n∧vld (st i)=true∧∀k,k<n→vld (st k)=true→sameId (st i) (st k)→i≤k∧st i=st k∧(k≠i→eqv i k=true)
def CanonSpec (n:Nat) (st:Nat→StI) (eqv:Nat→Nat→Bool) (vld:StI→Bool) (res:List Nat):Prop:=
 (∀i,i∈res↔Counts n st eqv vld i)∧res.Pairwise fun i j=>stLt (st i) (st j)
theorem sorted_uniq {α:Type}{R:α→α→Prop}(irr:∀x,¬ R x x) (tr:∀x y z,R x y→R y z→R x z):∀ {l m:List α},l.Pairwise R→m.Pairwise R→(∀x,x∈l↔x∈m)→l=m
 | [],[],_,_,_=>rfl
 | [],b :: m,_,_,h=>by have:=(h b).2 (by simp); cases this
 | a :: l,[],_,_,h=>by have:=(h a).1 (by simp); cases this
 | a :: l,b :: m,hl,hm,h=>by
  rw [List.pairwise_cons] at hl hm
  have e:a=b:=by
   rcases List.mem_cons.1 ((h a).1 (by simp)) with e | h1
   ·exact e
   ·rcases List.mem_cons.1 ((h b).2 (by simp)) with e | h2
    ·exact e.symm
    ·exact absurd (tr _ _ _ (hl.1 b h2) (hm.1 a h1)) (irr a)
  subst e
  rw [sorted_uniq irr tr hl.2 hm.2 fun x=>?_]
  constructor
  ·intro hx
   rcases List.mem_cons.1 ((h x).1 (List.mem_cons_of_mem _ hx)) with e | h1
   ·subst e; exact absurd (hl.1 x hx) (irr x)
   ·exact h1
  ·intro hx
   rcases List.mem_cons.1 ((h x).2 (List.mem_cons_of_mem _ hx)) with e | h1
   ·subst e; exact absurd (hm.1 x hx) (irr x)
   ·exact h1
theorem canonSpec_uniq {n:Nat}{st:Nat→StI}{eqv:Nat→Nat→Bool}{vld:StI→Bool}{r s:List Nat}(hr:CanonSpec n st eqv vld r) (hs:CanonSpec n st eqv vld s):r=s:=
 sorted_uniq (R:=fun i j=>stLt (st i) (st j)) (fun _=>stLt_irrefl _) (fun _ _ _=>stLt_trans) hr.2 hs.2 fun i=>(hr.1 i).trans (hs.1 i).symm
def GrpInv (st:Nat→StI) (cl:Nat→Int) (p:List Nat) (gs:List (Nat×Bool)):Prop:=
 (∀g∈gs,g.1∈p∧(∀k∈p,sameId (st g.1) (st k)→g.1≤k)∧(g.2=true↔∃k∈p,sameId (st g.1) (st k)∧(st g.1≠st k∨cl g.1≠cl k))) ∧
 (∀i∈p,∃g∈gs,sameId (st g.1) (st i))∧(gs.map (·.1)).Nodup ∧
 (∀g init,gs=init++[g]→∀k∈p,sameId (st g.1) (st k)∨(st k).2.1<(st g.1).2.1∨((st k).2.1=(st g.1).2.1∧(st k).2.2<(st g.1).2.2))
theorem sameId_symm {a b:StI}(h:sameId a b):sameId b a:=⟨h.1.symm,h.2.symm⟩
theorem sameId_trans {a b c:StI}(h:sameId a b) (k:sameId b c):sameId a c:=⟨h.1.trans k.1,h.2.trans k.2⟩
theorem sameId_refl (a:StI):sameId a a:=⟨rfl,rfl⟩
def gLt (st:Nat→StI) (i j:Nat):Prop:=(st i).2.1<(st j).2.1∨((st i).2.1=(st j).2.1∧((st i).2.2<(st j).2.2∨((st i).2.2=(st j).2.2∧i<j)))
theorem grp_step (st : Nat → StI) (cl : Nat → Int) (p : List Nat) (gs : List (Nat × Bool)) (i : Nat) (h : GrpInv st cl p gs) (hi : ∀ k ∈ p, gLt st k i) : GrpInv st cl (p ++ [i]) (gstep st cl gs i) := by
  obtain ⟨h1, h2, h3, h4⟩ := h
  have hip : i ∉ p := fun hm => by have := hi i hm; unfold gLt at this; omega
  rcases List.eq_nil_or_concat gs with rfl | ⟨init, ⟨f, d⟩, rfl⟩
  · have hp : p = [] := by
      cases p with
      | nil => rfl
      | cons a p => obtain ⟨g, hg, _⟩ := h2 a (by simp); cases hg
    subst hp
    rw [gstep_nil]
    refine ⟨fun g hg => ?_, fun k hk => ?_, by simp, fun g init e k hk => ?_⟩
    · simp at hg; subst hg
      refine ⟨by simp, fun k hk _ => by simp at hk; omega, ?_⟩
      constructor
      · intro e; cases e
      · rintro ⟨k, hk, _, hne⟩
        simp at hk; subst hk; simp at hne
    · simp at hk; subst hk; exact ⟨(k, false), by simp, sameId_refl _⟩
    · have : init = [] ∧ g = (i, false) := by
        cases init with
        | nil => simpa using e.symm
        | cons a l => simp at e
      obtain ⟨rfl, rfl⟩ := this
      simp at hk; subst hk; exact .inl (sameId_refl _)
  · rw [List.concat_eq_append] at *
    have hl := h4 (f, d) init rfl
    obtain ⟨hfp, hfm, hfd⟩ := h1 (f, d) (by simp)
    dsimp only at hl hfp hfm hfd
    rw [gstep_app]
    by_cases hid : idCmp (st f) (st i) = 0
    · have hs : sameId (st f) (st i) := (idCmp_zero _ _).1 hid
      rw [if_neg (by simpa using hid)]
      have key : ∀ d', (d' = true ↔ (d = true ∨ (st f ≠ st i ∨ cl f ≠ cl i))) → GrpInv st cl (p ++ [i]) (init ++ [(f, d')]) := by
        intro d' hd'
        refine ⟨fun g hg => ?_, fun k hk => ?_, by simpa using h3, fun g init' e k hk => ?_⟩
        · rcases List.mem_append.1 hg with hg | hg
          · obtain ⟨k1, k2, k3⟩ := h1 g (List.mem_append_left _ hg)
            have hns : ¬ sameId (st g.1) (st i) := fun hs' => by
              have hgf : sameId (st g.1) (st f) := sameId_trans hs' (sameId_symm hs)
              have e1 := k2 f hfp hgf
              have e2 := hfm g.1 k1 (sameId_symm hgf)
              have e3 : g.1 = f := by omega
              rw [List.map_append, List.nodup_append] at h3
              exact h3.2.2 g.1 (List.mem_map.2 ⟨g, hg, rfl⟩) f (by simp) e3
            refine ⟨List.mem_append_left _ k1, fun k hk hsk => ?_, ?_⟩
            · rcases List.mem_append.1 hk with hk | hk
              · exact k2 k hk hsk
              · simp at hk; subst hk; exact absurd hsk hns
            · rw [k3]
              constructor
              · rintro ⟨k, hk, x⟩; exact ⟨k, List.mem_append_left _ hk, x⟩
              · rintro ⟨k, hk, x⟩
                rcases List.mem_append.1 hk with hk | hk
                · exact ⟨k, hk, x⟩
                · simp at hk; subst hk; exact absurd x.1 hns
          · simp at hg; subst hg
            refine ⟨List.mem_append_left _ hfp, fun k hk hsk => ?_, ?_⟩
            · rcases List.mem_append.1 hk with hk | hk
              · exact hfm k hk hsk
              · simp at hk; subst hk
                have := hi f hfp
                unfold gLt at this
                obtain ⟨e1, e2⟩ := hs
                omega
            · dsimp only
              rw [hd', hfd]
              constructor
              · rintro (⟨k, hk, x⟩ | x)
                · exact ⟨k, List.mem_append_left _ hk, x⟩
                · exact ⟨i, by simp, hs, x⟩
              · rintro ⟨k, hk, x1, x2⟩
                rcases List.mem_append.1 hk with hk | hk
                · exact .inl ⟨k, hk, x1, x2⟩
                · simp at hk; subst hk; exact .inr x2
        · rcases List.mem_append.1 hk with hk | hk
          · obtain ⟨g, hg, hgs⟩ := h2 k hk
            rcases List.mem_append.1 hg with hg | hg
            · exact ⟨g, List.mem_append_left _ hg, hgs⟩
            · simp at hg; subst hg; exact ⟨(f, d'), by simp, hgs⟩
          · simp at hk; subst hk; exact ⟨(f, d'), by simp, hs⟩
        · have e' := List.append_inj' e rfl
          have : g = (f, d') := by have := e'.2; simpa using this.symm
          subst this
          rcases List.mem_append.1 hk with hk | hk
          · exact hl k hk
          · simp at hk; subst hk; exact .inl hs
      split
      · rename_i hx; exact key true (by simp [hx])
      · rename_i hx
        exact key d (by constructor
                        · exact .inl
                        · rintro (h | h)
                          · exact h
                          · exact absurd h hx)
    · have hns : ¬ sameId (st f) (st i) := fun h => hid ((idCmp_zero _ _).2 h)
      rw [if_pos (by simpa using hid)]
      have hlt : (st f).2.1 < (st i).2.1 ∨ ((st f).2.1 = (st i).2.1 ∧ (st f).2.2 < (st i).2.2) := by
        have := hi f hfp
        unfold gLt at this
        unfold sameId at hns
        omega
      have hno : ∀ k ∈ p, (st k).2.1 < (st i).2.1 ∨ ((st k).2.1 = (st i).2.1 ∧ (st k).2.2 < (st i).2.2) := fun k hk => by
        have := hl k hk
        unfold sameId at this
        omega
      have hno' : ∀ k ∈ p, ¬ sameId (st k) (st i) := fun k hk h => by
        have := hno k hk
        obtain ⟨e1, e2⟩ := h
        omega
      refine ⟨fun g hg => ?_, fun k hk => ?_, ?_, fun g init' e k hk => ?_⟩
      · rcases List.mem_append.1 hg with hg | hg
        · obtain ⟨k1, k2, k3⟩ := h1 g hg
          have hgi := hno' g.1 k1
          refine ⟨List.mem_append_left _ k1, fun k hk hsk => ?_, ?_⟩
          · rcases List.mem_append.1 hk with hk | hk
            · exact k2 k hk hsk
            · simp at hk; subst hk; exact absurd hsk hgi
          · rw [k3]
            constructor
            · rintro ⟨k, hk, x⟩; exact ⟨k, List.mem_append_left _ hk, x⟩
            · rintro ⟨k, hk, x⟩
              rcases List.mem_append.1 hk with hk | hk
              · exact ⟨k, hk, x⟩
              · simp at hk; subst hk; exact absurd x.1 hgi
        · simp at hg; subst hg
          refine ⟨by simp, fun k hk hsk => ?_, ?_⟩
          · rcases List.mem_append.1 hk with hk | hk
            · exact absurd (sameId_symm hsk) (hno' k hk)
            · simp at hk; omega
          · constructor
            · intro e; cases e
            · rintro ⟨k, hk, x1, x2⟩
              rcases List.mem_append.1 hk with hk | hk
              · exact absurd (sameId_symm x1) (hno' k hk)
              · simp at hk; subst hk; simp at x2
      · rcases List.mem_append.1 hk with hk | hk
        · obtain ⟨g, hg, hgs⟩ := h2 k hk
          exact ⟨g, List.mem_append_left _ hg, hgs⟩
        · simp at hk; subst hk; exact ⟨(k, false), by simp, sameId_refl _⟩
      · rw [List.map_append, List.nodup_append]
        refine ⟨h3, by simp, fun a ha b hb => ?_⟩
        simp at hb; subst hb
        obtain ⟨g, hg, rfl⟩ := List.mem_map.1 ha
        intro e
        exact hip (e ▸ (h1 g hg).1)
      · have e' := List.append_inj' e rfl
        have : g = (i, false) := by have := e'.2; simpa using this.symm
        subst this
        rcases List.mem_append.1 hk with hk | hk
        · exact .inr (hno k hk)
        · simp at hk; subst hk; exact .inl (sameId_refl _)
theorem grp_fold (st:Nat→StI) (cl:Nat→Int):∀ (s p:List Nat) (gs:List (Nat×Bool)),GrpInv st cl p gs→(p++s).Pairwise (gLt st)→GrpInv st cl (p++s) (s.foldl (gstep st cl) gs)
 | [],p,gs,h,_=>by simpa using h
 | i :: s,p,gs,h,hp=>by
  have e:p++i :: s=(p++[i])++s:=by simp
  rw [e] at hp ⊢
  refine grp_fold st cl s (p++[i]) _ (grp_step st cl p gs i h fun k hk=>?_) hp
  rw [List.append_assoc,List.pairwise_append] at hp
  exact hp.2.2 k hk i (by simp)
theorem pairwise_ne {α:Type}{R:α→α→Prop}:∀ {l:List α},l.Pairwise R→l.Nodup→l.Pairwise fun a b=>R a b∧a≠b
 | [],_,_=>.nil
 | a :: l,h,hn=>by
  rw [List.pairwise_cons] at h
  rw [List.nodup_cons] at hn
  exact .cons (fun b hb=>⟨h.1 b hb,fun e=>hn.1 (e ▸ hb)⟩) (pairwise_ne h.2 hn.2)
theorem canon_spec {n:Nat}{st:Nat→StI}{eqv:Nat→Nat→Bool}{vld:StI→Bool}{idx res:List Nat}(h1:idx.Perm (ordL vld st n)) (h2:idx.Pairwise fun i j=>¬ gCmp st j i<0)
  (h3:res.Perm (((idx.foldl (gstep st (clsOf st eqv)) []).filter fun g => !g.2).map (·.1))) (h4:res.Pairwise fun i j=>¬ sCmp st j i<0):CanonSpec n st eqv vld res:=by
 have hmem:∀i,i∈idx↔i<n∧vld (st i)=true:=fun i=>by
  rw [h1.mem_iff]; unfold ordL; rw [List.mem_filter,List.mem_range]
 have hnd:idx.Nodup:=by
  rw [h1.nodup_iff]; unfold ordL
  exact List.Nodup.sublist List.filter_sublist List.nodup_range
 have hpw:idx.Pairwise (gLt st):=(pairwise_ne h2 hnd).imp fun {a b} h=>by
  obtain⟨x,y⟩:=h
  rw [gCmp_lt] at x
  unfold gLt
  omega
 have hG:=grp_fold st (clsOf st eqv) idx [] [] ⟨(fun g hg=>by cases hg),(fun i hi=>by cases hi),List.nodup_nil,fun g init e=>by simp at e⟩ (by simpa using hpw)
 rw [List.nil_append] at hG
 obtain⟨g1,g2,g3,-⟩:=hG
 generalize idx.foldl (gstep st (clsOf st eqv)) []=gs at *
 have hres:∀i,i∈res↔(i,false)∈gs:=fun i=>by
  rw [h3.mem_iff,List.mem_map]
  constructor
  ·rintro⟨g,hg,rfl⟩
   rw [List.mem_filter] at hg
   have:g.2=false:=by simpa using hg.2
   rw [← this]; exact hg.1
  ·intro h; exact⟨(i,false),List.mem_filter.2 ⟨h,rfl⟩,rfl⟩
 have hcl0:∀i,i∈idx→(∀k∈idx,sameId (st i) (st k)→i≤k)→clsOf st eqv i=0:=fun i hi hmin=>by
  unfold clsOf
  cases hf:firstOf st i (st i) with
  | none=>rfl
  | some j=>
   obtain⟨hj,hst⟩:=firstOf_some hf
   have hj2:j∈idx:=(hmem j).2 ⟨by have:=((hmem i).1 hi).1; omega,by rw [hst]; exact ((hmem i).1 hi).2⟩
   have:=hmin j hj2 (by rw [hst]; exact sameId_refl _)
   omega
 have hclk:∀i k,i∈idx→k∈idx→(∀k∈idx,sameId (st i) (st k)→i≤k)→k≠i→st i=st k→(clsOf st eqv k=0↔eqv i k=true):=fun i k hi hk hmin hne hst=>by
  have hik:i<k:=by have:=hmin k hk (by rw [hst]; exact sameId_refl _); omega
  have hf:firstOf st k (st k)=some i:=by
   unfold firstOf
   rw [List.find?_range_eq_some]
   refine⟨by simpa using hst,by simpa using hik,fun j hj=>?_⟩
   cases hb:(st j==st k) with
   | false=>rfl
   | true=>
    have hb:st j=st k:=by simpa using hb
    have hj2:j∈idx:=(hmem j).2 ⟨by have:=((hmem i).1 hi).1; omega,by rw [hb]; exact ((hmem k).1 hk).2⟩
    have:=hmin j hj2 (by rw [hb,hst]; exact sameId_refl _)
    omega
  unfold clsOf
  rw [hf]
  dsimp only
  cases eqv i k <;> simp
 refine⟨fun i=>?_,?_⟩
 ·rw [hres]
  constructor
  ·intro hg
   obtain⟨k1,k2,k3⟩:=g1 _ hg
   dsimp only at k1 k2 k3
   have k3:¬ ∃k∈idx,sameId (st i) (st k)∧(st i≠st k∨clsOf st eqv i≠clsOf st eqv k):=fun h=>by have:=k3.2 h; cases this
   refine⟨((hmem i).1 k1).1,((hmem i).1 k1).2,fun k hk hv hs=>?_⟩
   have hki:k∈idx:=(hmem k).2 ⟨hk,hv⟩
   have hst:st i=st k:=Classical.byContradiction fun h=>k3 ⟨k,hki,hs,.inl h⟩
   refine⟨k2 k hki hs,hst,fun hne=>?_⟩
   refine (hclk i k k1 hki k2 hne hst).1 (Classical.byContradiction fun h=>k3 ⟨k,hki,hs,.inr ?_⟩)
   rw [hcl0 i k1 k2]
   exact fun e=>h e.symm
  ·rintro⟨c1,c2,c3⟩
   have hi:i∈idx:=(hmem i).2 ⟨c1,c2⟩
   obtain⟨g,hg,hgs⟩:=g2 i hi
   obtain⟨k1,k2,k3⟩:=g1 g hg
   have hgi:g.1=i:=by
    have e1:=k2 i hi hgs
    have e2:=(c3 g.1 ((hmem _).1 k1).1 ((hmem _).1 k1).2 (sameId_symm hgs)).1
    omega
   have hmin:∀k∈idx,sameId (st i) (st k)→i≤k:=fun k hk hs=>(c3 k ((hmem _).1 hk).1 ((hmem _).1 hk).2 hs).1
   have hg2:g.2=false:=by
    cases hb:g.2 with
    | false=>rfl
    | true=>
     obtain⟨k,hk,x1,x2⟩:=k3.1 hb
     rw [hgi] at x1 x2
     obtain⟨y1,y2,y3⟩:=c3 k ((hmem _).1 hk).1 ((hmem _).1 hk).2 x1
     rcases x2 with x2 | x2
     ·exact absurd y2 x2
     ·by_cases hne:k=i
      ·subst hne; exact absurd rfl x2
      ·rw [hcl0 i hi hmin,(hclk i k hi hk hmin hne y2).2 (y3 hne)] at x2
       exact absurd rfl x2
   have:g=(i,false):=by rw [← hgi,← hg2]
   rw [← this]; exact hg
 ·have hn:res.Nodup:=by
   rw [h3.nodup_iff]
   exact List.Nodup.sublist (List.filter_sublist.map _) g3
  have hst:∀i j,i∈res→j∈res→st i=st j→i=j:=fun i j hi hj e=>by
   obtain⟨a1,a2,a3⟩:=g1 _ ((hres i).1 hi)
   obtain⟨b1,b2,b3⟩:=g1 _ ((hres j).1 hj)
   have:=a2 j b1 (by rw [e]; exact sameId_refl _)
   have:=b2 i a1 (by rw [e]; exact sameId_refl _)
   dsimp only at *
   omega
  refine ((pairwise_ne h4 hn).imp_of_mem fun {a b} ha hb h=>?_)
  obtain⟨x,y⟩:=h
  rcases stLt_or (st a) (st b) with h | h | h
  ·exact h
  ·exact absurd (hst a b ha hb h) y
  ·exact absurd ((sCmp_lt st b a).2 h) x
open Classical in
noncomputable def canonIdx (n:Nat) (st:Nat→StI) (eqv:Nat→Nat→Bool) (vld:StI→Bool):List Nat:=
 ((List.range n).filter fun i=>decide (Counts n st eqv vld i)).mergeSort fun i j=>decide (¬ stLt (st j) (st i))
open Classical in
theorem canonIdx_spec (n:Nat) (st:Nat→StI) (eqv:Nat→Nat→Bool) (vld:StI→Bool):CanonSpec n st eqv vld (canonIdx n st eqv vld):=by
 have hm:∀i,i∈canonIdx n st eqv vld↔Counts n st eqv vld i:=fun i=>by
  unfold canonIdx
  rw [(List.mergeSort_perm _ _).mem_iff,List.mem_filter,List.mem_range]
  constructor
  ·rintro⟨_,h⟩; exact of_decide_eq_true h
  ·intro h; exact⟨h.1,decide_eq_true h⟩
 refine⟨hm,?_⟩
 have hn:(canonIdx n st eqv vld).Nodup:=by
  unfold canonIdx
  rw [(List.mergeSort_perm _ _).nodup_iff]
  exact List.Nodup.sublist List.filter_sublist List.nodup_range
 have hp:(canonIdx n st eqv vld).Pairwise fun i j=>decide (¬ stLt (st j) (st i))=true:=by
  unfold canonIdx
  refine List.pairwise_mergeSort (fun a b c h1 h2=>?_) (fun a b=>?_) _
  ·simp only [decide_eq_true_eq] at *
   unfold stLt at *
   omega
  ·have:¬ stLt (st b) (st a)∨¬ stLt (st a) (st b):=by unfold stLt; omega
   rcases this with h | h
   ·simp [h]
   ·simp [h]
 refine ((pairwise_ne hp hn).imp_of_mem fun {a b} ha hb h=>?_)
 obtain⟨x,y⟩:=h
 rcases stLt_or (st a) (st b) with h | h | h
 ·exact h
 ·exfalso
  have ca:=(hm a).1 ha
  have cb:=(hm b).1 hb
  have e1:=(ca.2.2 b cb.1 cb.2.1 (by rw [h]; exact sameId_refl _)).1
  have e2:=(cb.2.2 a ca.1 ca.2.1 (by rw [h]; exact sameId_refl _)).1
  exact y (by omega)
 ·exact absurd h (of_decide_eq_true x)
theorem CanonPost.idx {n:Nat}{st:Nat→StI}{eqv:Nat→Nat→Bool}{vld:StI→Bool}{w:World}{e:Ending}{w':World}(h:CanonPost n st (clsOf st eqv) vld w e w') :
  ∃v,e = .returned (.tuple #[v,.int .i64 0])∧w.Since w.heap.size w'∧w'.ownsRow w.heap.size 3 1 v (canonIdx n st eqv vld).length (natZ (canonIdx n st eqv vld)):=by
 obtain⟨v,idx,res,h1,h2,h3,h4,h5,h6,h7⟩:=h
 have:=canonSpec_uniq (canon_spec h2 h3 h4 h5) (canonIdx_spec n st eqv vld)
 subst this
 exact⟨v,h1,h6,h7⟩
end Go.LS
namespace Go.LS
open Go.Proofs Go.RowKit Go.Sort
set_option linter.all false
theorem reps3 {w:World}{S:Seen}{vs:Array Value}{a b c:LV}(h:RepLs w S (fun _=>none) (fun _=>none) vs.toList [a,b,c]):∃u v x,vs = #[u,v,x]∧RepL w S (fun _=>none) (fun _=>none) u a∧RepL w S (fun _=>none) (fun _=>none) v b∧RepL w S (fun _=>none) (fun _=>none) x c:=by
 obtain⟨h1,h2⟩:=h
 obtain⟨l⟩:=vs
 match l,h1 with
 | [u,v,x],_=>exact⟨u,v,x,rfl,h2 0 (by simp) (by simp),h2 1 (by simp) (by simp),h2 2 (by simp) (by simp)⟩
theorem repL_fn {w:World}{S:Seen}{ρ:Place}{h:Heap}{v:Value}{f:FuncId}(r:RepL w S ρ h v (.one (.fn f []))):v = .func (.func f) #[] #[]:=by
 cases r with
 | fn hn hv=>
  rename_i vs
  have:vs = #[]:=Array.eq_empty_of_size_eq_zero hn
  rw [this]
theorem repL_ints {w:World}{S:Seen}{ρ:Place}{h:Heap}(l:List Int):RepL w S ρ h (.agg (l.map fun n=>Value.int .i64 n).toArray) (.agg (l.map fun n=>.p (pi n))):=
 ⟨_,rfl,by simp,fun i h1 h2=>by simp only [List.getElem_map]; exact .p (.val _ rfl)⟩
theorem repL_ints_inv {w:World}{S:Seen}{ρ:Place}{h:Heap}{v:Value}(l:List Int) (r:RepL w S ρ h v (.agg (l.map fun n=>.p (pi n)))):v = .agg (l.map fun n=>Value.int .i64 n).toArray:=by
 obtain⟨vs,rfl,h1,h2⟩:=r
 congr 1
 apply Array.ext'
 refine List.ext_getElem (by simpa using h1) fun i hi hi'=>?_
 have:=h2 i hi (by simpa using hi')
 simp only [List.getElem_map] at this ⊢
 exact repC_v this
theorem arr6 (l:List Int) (h:l.length=6):(#[Value.int .i64 (l.getD 0 0),.int .i64 (l.getD 1 0),.int .i64 (l.getD 2 0),.int .i64 (l.getD 3 0),.int .i64 (l.getD 4 0),.int .i64 (l.getD 5 0)]:Array Value)=(l.map fun n=>Value.int .i64 n).toArray:=by
 match l,h with
 | [a,b,c,d,e,f],_=>rfl
theorem arr8 (l:List Int) (h:l.length=8):(#[Value.int .i64 (l.getD 0 0),.int .i64 (l.getD 1 0),.int .i64 (l.getD 2 0),.int .i64 (l.getD 3 0),.int .i64 (l.getD 4 0),.int .i64 (l.getD 5 0),.int .i64 (l.getD 6 0),.int .i64 (l.getD 7 0)]:Array Value)=(l.map fun n=>Value.int .i64 n).toArray:=by
 match l,h with
 | [a,b,c,d,e,f,g,i],_=>rfl
theorem tab0 (w:World):TabOK w []:=fun x hx=>by cases hx
theorem repLs1 {w:World}{S:Seen}{ρ:Place}{h:Heap}{v:Value}{l:LV}(r:RepL w S ρ h v l):RepLs w S ρ h [v] [l]:=repLs_cons r repLs_nil
theorem repLs2 {w:World}{S:Seen}{ρ:Place}{h:Heap}{v u:Value}{l m:LV}(r:RepL w S ρ h v l) (q:RepL w S ρ h u m):RepLs w S ρ h [v,u] [l,m]:=repLs_cons r (repLs_cons q repLs_nil)
theorem call_ints {P : Program} {f : FuncId} {fn : Func} {c : Go.Code} (hf : P.funcs[f]? = some fn) (hb : fn.body = some c) (hname : (fn.name == "runtime.NumGoroutine") = false) (ht : ∀ w, TabOK w []) {l r : List Int} (ok : CallOK P f [.agg (l.map fun n => .p (pi n))] [] [.agg (r.map fun n => .p (pi n))] []) (W : World) :
  Calls P f #[.agg (l.map fun n=>Value.int .i64 n).toArray] W fun e w'=>e = .returned (.agg (r.map fun n=>Value.int .i64 n).toArray)∧Below W.heap.size W w':=by
 refine (calls_of_okR hf hb hname ok W (fun _ _=>False) _ (ht W) (fun _ _ h=>h.elim) (repLs1 (repL_ints l))).mono ?_
 rintro e w' ⟨v,S',rfl,h1,-,-,-,h5⟩
 exact⟨by rw [repL_ints_inv r h5],h1⟩
theorem call_intB {P : Program} {f : FuncId} {fn : Func} {c : Go.Code} (hf : P.funcs[f]? = some fn) (hb : fn.body = some c) (hname : (fn.name == "runtime.NumGoroutine") = false) (ht : ∀ w, TabOK w []) {l : List Int} {r : Bool} (ok : CallOK P f [.agg (l.map fun n => .p (pi n))] [] [.one (.p (.val (.bool r)))] []) (W : World) :
  Calls P f #[.agg (l.map fun n=>Value.int .i64 n).toArray] W fun e w'=>e = .returned (.bool r)∧Below W.heap.size W w':=by
 refine (calls_of_okR hf hb hname ok W (fun _ _=>False) _ (ht W) (fun _ _ h=>h.elim) (repLs1 (repL_ints l))).mono ?_
 rintro e w' ⟨v,S',rfl,h1,-,-,-,h5⟩
 exact⟨by rw [repL_val (show RepL w' S' _ _ v (.one (.p (.val (.bool r)))) from h5)],h1⟩
theorem call_intsB {P : Program} {f : FuncId} {fn : Func} {c : Go.Code} (hf : P.funcs[f]? = some fn) (hb : fn.body = some c) (hname : (fn.name == "runtime.NumGoroutine") = false) (ht : ∀ w, TabOK w []) {l m : List Int} {r : Bool} (ok : CallOK P f [.agg (l.map fun n => .p (pi n)), .agg (m.map fun n => .p (pi n))] [] [.one (.p (.val (.bool r)))] []) (W : World) :
  Calls P f #[.agg (l.map fun n=>Value.int .i64 n).toArray,.agg (m.map fun n=>Value.int .i64 n).toArray] W fun e w'=>e = .returned (.bool r)∧Below W.heap.size W w':=by
 refine (calls_of_okR hf hb hname ok W (fun _ _=>False) _ (ht W) (fun _ _ h=>h.elim) (repLs2 (repL_ints l) (repL_ints m))).mono ?_
 rintro e w' ⟨v,S',rfl,h1,-,-,-,h5⟩
 exact⟨by rw [repL_val (show RepL w' S' _ _ v (.one (.p (.val (.bool r)))) from h5)],h1⟩
theorem natZ_int (l:List Nat):natZ l=(l.map fun i:Nat=>(i:Int)).map fun n=>Value.int .i64 n:=by simp [natZ]
theorem intZ_map:∀l:List Int,intZ l=l.map fun n=>Value.int .i64 n
 | []=>rfl
 | x :: l=>by rw [List.map_cons,← intZ_map l]; rfl
theorem rep_natsZ {w:World}{S:Seen}{B:Nat}{v:Value}{l:List Nat}(h:w.ownsRow B 3 1 v l.length (natZ l)) (hS:∀b o,B≤b→b<w.heap.size→S b o):RepP w S v (.sl 1 ((l.map fun i:Nat=>(i:Int)).map encI)):=by
 refine rep_intsZ (l:=l.map fun i:Nat=>(i:Int)) ?_ hS
 rw [List.length_map,intZ_map,← natZ_int]
 exact h
def st3 (l:List Int):StI:=(l.getD 0 0,l.getD 1 0,l.getD 2 0)
theorem getD_mem {α:Type}(L:List α) (d:α) (i:Nat) (h:i<L.length):L.getD i d∈L:=by
 rw [List.getD_eq_getElem?_getD,List.getElem?_eq_getElem h]; exact List.getElem_mem h
theorem getD_at {α:Type}(L:List α) (d:α) (i:Nat) (h:i<L.length):L.getD i d=L[i]:=by
 rw [List.getD_eq_getElem?_getD,List.getElem?_eq_getElem h]; rfl
set_option maxRecDepth 100000 in
theorem ok_CanonE {α:Type}(f:α→List Int) (hf:∀x,(f x).length=8) (L:List α) (d:α) (hn:L.length≤300) (hst:∀x∈L,stOK (st3 (f x))) (eqv:α→α→Bool) (vld:StI→Bool)
  (hA:∀x∈L,CallOK Tryz.prog 42 [.agg ((f x).map fun n=>.p (pi n))] [] [.agg ([(f x).getD 0 0,(f x).getD 1 0,(f x).getD 2 0].map fun n=>.p (pi n))] [])
  (hS:∀x∈L,∀y∈L,CallOK Tryz.prog 43 [.agg ((f x).map fun n=>.p (pi n)),.agg ((f y).map fun n=>.p (pi n))] [] [.one (.p (.val (.bool (eqv x y))))] [])
  (hV:∀x∈L,CallOK Tryz.prog 117 [.agg ([(f x).getD 0 0,(f x).getD 1 0,(f x).getD 2 0].map fun n=>.p (pi n))] [] [.one (.p (.val (.bool (vld (st3 (f x))))))] []) :
  CallOK Tryz.prog 41 [.one (.p (.sl 8 (L.map fun x=>(f x).map pi))),.one (.fn 42 []),.one (.fn 43 [])] [] [.one (.p (.sl 1 (((canonIdx L.length (fun i=>st3 (f (L.getD i d))) (fun i j=>eqv (L.getD i d) (L.getD j d)) vld).map fun i:Nat=>(i:Int)).map encI))),.one (.p (pi 0))] []:=by
 refine callOK_read Tryz.func41 rfl (by kernel_rfl) fun w S vs ht hs hr=>?_
 obtain⟨v,v2,v3,rfl,rv,r2,r3⟩:=reps3 hr
 obtain rfl:=repL_fn r2
 obtain rfl:=repL_fn r3
 obtain⟨ao,b,o,cap,rfl,hnil,hpos,hc⟩:=sl_of 8 (fun x=>(f x).map pi) (fun x=>by simpa using hf x) (by omega) hs L (repL_p rv)
 have hW:=Tryz.CanonE_walk ao b o L.length cap (fun i j=>(f (L.getD i d)).getD j 0) (fun i j=>eqv (L.getD i d) (L.getD j d)) vld w hn hpos
  (fun i hi j hj=>by
   obtain⟨u,h1,h2⟩:=hc i hi j (by simpa [hf] using hj)
   simp only [List.getElem_map] at h2
   rw [h1,val_inv h2,getD_at L d i hi,List.getD_eq_getElem?_getD,List.getElem?_eq_getElem (by rw [hf]; exact hj)]; rfl)
  (fun i hi=>hst _ (getD_mem L d i hi))
  (fun i hi w1 hw1=>by
   have h:=call_ints Tryz.func42 rfl (by kernel_rfl) tab0 (hA _ (getD_mem L d i hi)) w1
   rw [← arr8 _ (hf _)] at h
   exact h)
  (fun i j hi hj w1 hw1=>by
   have h:=call_intsB Tryz.func43 rfl (by kernel_rfl) tab0 (hS _ (getD_mem L d i hi) _ (getD_mem L d j hj)) w1
   rw [← arr8 _ (hf _),← arr8 _ (hf _)] at h
   exact h)
  (fun i hi W=>call_intB Tryz.func117 rfl (by kernel_rfl) tab0 (hV _ (getD_mem L d i hi)) W)
 refine hW.mono ?_
 intro e w' h
 obtain⟨v,rfl,h1,h2⟩:=CanonPost.idx (st:=fun i=>((f (L.getD i d)).getD 0 0,(f (L.getD i d)).getD 1 0,(f (L.getD i d)).getD 2 0)) h
 exact⟨_,fun b o=>S b o∨(w.heap.size≤b∧b<w'.heap.size),rfl,zj1 h1,fun _ _ h=>.inl h,fun _ _ h=>h,_,rfl,repLs2 (.p (rep_natsZ h2 fun b o h3 h4=>.inr ⟨h3,h4⟩)) (.p (.val _ rfl))⟩
set_option maxRecDepth 100000 in
theorem ok_CanonR {α:Type}(f:α→List Int) (hf:∀x,(f x).length=6) (L:List α) (d:α) (hn:L.length≤300) (hst:∀x∈L,stOK (st3 (f x))) (eqv:α→α→Bool) (vld:StI→Bool)
  (hA:∀x∈L,CallOK Tryz.prog 51 [.agg ((f x).map fun n=>.p (pi n))] [] [.agg ([(f x).getD 0 0,(f x).getD 1 0,(f x).getD 2 0].map fun n=>.p (pi n))] [])
  (hS:∀x∈L,∀y∈L,CallOK Tryz.prog 52 [.agg ((f x).map fun n=>.p (pi n)),.agg ((f y).map fun n=>.p (pi n))] [] [.one (.p (.val (.bool (eqv x y))))] [])
  (hV:∀x∈L,CallOK Tryz.prog 117 [.agg ([(f x).getD 0 0,(f x).getD 1 0,(f x).getD 2 0].map fun n=>.p (pi n))] [] [.one (.p (.val (.bool (vld (st3 (f x))))))] []) :
  CallOK Tryz.prog 50 [.one (.p (.sl 6 (L.map fun x=>(f x).map pi))),.one (.fn 51 []),.one (.fn 52 [])] [] [.one (.p (.sl 1 (((canonIdx L.length (fun i=>st3 (f (L.getD i d))) (fun i j=>eqv (L.getD i d) (L.getD j d)) vld).map fun i:Nat=>(i:Int)).map encI))),.one (.p (pi 0))] []:=by
 refine callOK_read Tryz.func50 rfl (by kernel_rfl) fun w S vs ht hs hr=>?_
 obtain⟨v,v2,v3,rfl,rv,r2,r3⟩:=reps3 hr
 obtain rfl:=repL_fn r2
 obtain rfl:=repL_fn r3
 obtain⟨ao,b,o,cap,rfl,hnil,hpos,hc⟩:=sl_of 6 (fun x=>(f x).map pi) (fun x=>by simpa using hf x) (by omega) hs L (repL_p rv)
 have hW:=Tryz.CanonR_walk ao b o L.length cap (fun i j=>(f (L.getD i d)).getD j 0) (fun i j=>eqv (L.getD i d) (L.getD j d)) vld w hn hpos
  (fun i hi j hj=>by
   obtain⟨u,h1,h2⟩:=hc i hi j (by simpa [hf] using hj)
   simp only [List.getElem_map] at h2
   rw [h1,val_inv h2,getD_at L d i hi,List.getD_eq_getElem?_getD,List.getElem?_eq_getElem (by rw [hf]; exact hj)]; rfl)
  (fun i hi=>hst _ (getD_mem L d i hi))
  (fun i hi w1 hw1=>by
   have h:=call_ints Tryz.func51 rfl (by kernel_rfl) tab0 (hA _ (getD_mem L d i hi)) w1
   rw [← arr6 _ (hf _)] at h
   exact h)
  (fun i j hi hj w1 hw1=>by
   have h:=call_intsB Tryz.func52 rfl (by kernel_rfl) tab0 (hS _ (getD_mem L d i hi) _ (getD_mem L d j hj)) w1
   rw [← arr6 _ (hf _),← arr6 _ (hf _)] at h
   exact h)
  (fun i hi W=>call_intB Tryz.func117 rfl (by kernel_rfl) tab0 (hV _ (getD_mem L d i hi)) W)
 refine hW.mono ?_
 intro e w' h
 obtain⟨v,rfl,h1,h2⟩:=CanonPost.idx (st:=fun i=>((f (L.getD i d)).getD 0 0,(f (L.getD i d)).getD 1 0,(f (L.getD i d)).getD 2 0)) h
 exact⟨_,fun b o=>S b o∨(w.heap.size≤b∧b<w'.heap.size),rfl,zj1 h1,fun _ _ h=>.inl h,fun _ _ h=>h,_,rfl,repLs2 (.p (rep_natsZ h2 fun b o h3 h4=>.inr ⟨h3,h4⟩)) (.p (.val _ rfl))⟩
def slInv (w:World) (S:Seen) (l:List Int) (q:Option Addr×Nat):Prop:=RepP w S (.slice q.1 l.length q.2) (.sl 1 (l.map encI))
theorem repL_ev {w:World}{S:Seen}{ρ:Place}{h:Heap}(l:List Int) (hl:l.length=8){u:Value}{g:List Int}(r:RepP w S u (.sl 1 (g.map encI))) :
  RepL w S ρ h (.agg #[.int .i64 (l.getD 0 0),.int .i64 (l.getD 1 0),.int .i64 (l.getD 2 0),.int .i64 (l.getD 3 0),.int .i64 (l.getD 4 0),.int .i64 (l.getD 5 0),.int .i64 (l.getD 6 0),.int .i64 (l.getD 7 0),u]) (.agg ((l.map fun n=>.p (pi n))++[.p (.sl 1 (g.map encI))])):=by
 match l,hl with
 | [a0,a1,a2,a3,a4,a5,a6,a7],_=>
  refine⟨_,rfl,rfl,fun i h1 h2=>?_⟩
  have h3:i<9:=h1
  match i,h3 with
  | 0,_ | 1,_ | 2,_ | 3,_ | 4,_ | 5,_ | 6,_ | 7,_=>exact .p (.val _ rfl)
  | 8,_=>exact .p r
set_option maxRecDepth 100000 in
theorem ok_CanonB {α:Type}(f g:α→List Int) (hf:∀x,(f x).length=8) (L:List α) (d:α) (hn:L.length≤300) (hst:∀x∈L,stOK (st3 (f x))) (eqv:α→α→Bool) (vld:StI→Bool)
  (hA:∀x∈L,CallOK Tryz.prog 58 [.agg (((f x).map fun n=>.p (pi n))++[.p (.sl 1 ((g x).map encI))])] [] [.agg ([(f x).getD 0 0,(f x).getD 1 0,(f x).getD 2 0].map fun n=>.p (pi n))] [])
  (hS:∀x∈L,∀y∈L,CallOK Tryz.prog 59 [.agg (((f x).map fun n=>.p (pi n))++[.p (.sl 1 ((g x).map encI))]),.agg (((f y).map fun n=>.p (pi n))++[.p (.sl 1 ((g y).map encI))])] [] [.one (.p (.val (.bool (eqv x y))))] [])
  (hV:∀x∈L,CallOK Tryz.prog 117 [.agg ([(f x).getD 0 0,(f x).getD 1 0,(f x).getD 2 0].map fun n=>.p (pi n))] [] [.one (.p (.val (.bool (vld (st3 (f x))))))] []) :
  CallOK Tryz.prog 57 [.one (.p (.sl 9 (L.map fun x=>(f x).map pi++[.sl 1 ((g x).map encI)]))),.one (.fn 58 []),.one (.fn 59 [])] [] [.one (.p (.sl 1 (((canonIdx L.length (fun i=>st3 (f (L.getD i d))) (fun i j=>eqv (L.getD i d) (L.getD j d)) vld).map fun i:Nat=>(i:Int)).map encI))),.one (.p (pi 0))] []:=by
 refine callOK_read Tryz.func57 rfl (by kernel_rfl) fun w S vs ht hs hr=>?_
 obtain⟨v,v2,v3,rfl,rv,r2,r3⟩:=reps3 hr
 obtain rfl:=repL_fn r2
 obtain rfl:=repL_fn r3
 obtain⟨ao,b,o,cap,rfl,hnil,hpos,hc⟩:=sl_of 9 (fun x=>(f x).map pi++[.sl 1 ((g x).map encI)]) (fun x=>by simp [hf x]) (by omega) hs L (repL_p rv)
 have key:∀i (hi:i<L.length),∃q:Option Addr×Nat,w.cell? ⟨b,o+i*9+8,none⟩=some (.slice q.1 (g L[i]).length q.2)∧slInv w S (g L[i]) q:=fun i hi=>by
  obtain⟨u,h1,h2⟩:=hc i hi 8 (by simp [hf])
  rw [List.getElem_append_right (by simp [hf])] at h2
  simp only [List.length_map,hf,Nat.sub_self,List.getElem_cons_zero] at h2
  obtain⟨sa,sc,rfl,-⟩:=slW_of hs _ h2
  exact⟨(sa,sc),h1,h2⟩
 let q:Nat→Option Addr×Nat:=fun i=>if h:i<L.length then Classical.choose (key i h) else (none,0)
 have hq:∀i (hi:i<L.length),w.cell? ⟨b,o+i*9+8,none⟩=some (.slice (q i).1 (g (L.getD i d)).length (q i).2)∧slInv w S (g (L.getD i d)) (q i):=fun i hi=>by
  rw [getD_at L d i hi]
  simp only [q]
  rw [dif_pos hi]
  exact Classical.choose_spec (key i hi)
 have hin:∀w1,w.Since w.heap.size w1→∀i (hi:i<L.length),RepP w1 S (.slice (q i).1 (g (L.getD i d)).length (q i).2) (.sl 1 ((g (L.getD i d)).map encI)):=fun w1 hw1 i hi=>
  (hq i hi).2.mono fun b o hb=>⟨hb,(zj1 hw1).cell (p:=⟨b,o,none⟩) (hs b o hb)⟩
 have hs1:∀w1,w.Since w.heap.size w1→∀b o,S b o→b<w1.heap.size:=fun w1 hw1 b o hb=>Nat.lt_of_lt_of_le (hs b o hb) hw1.size
 have hW:=Tryz.CanonB_walk ao b o L.length cap (fun i j=>(f (L.getD i d)).getD j 0) (fun i=>(q i).1) (fun i=>(g (L.getD i d)).length) (fun i=>(q i).2) (fun i j=>eqv (L.getD i d) (L.getD j d)) vld w hn hpos
  (fun i hi j hj=>by
   obtain⟨u,h1,h2⟩:=hc i hi j (by simp [hf]; omega)
   rw [List.getElem_append_left (by simpa [hf] using hj)] at h2
   simp only [List.getElem_map] at h2
   rw [h1,val_inv h2,getD_at L d i hi,List.getD_eq_getElem?_getD,List.getElem?_eq_getElem (by rw [hf]; exact hj)]; rfl)
  (fun i hi=>(hq i hi).1)
  (fun i hi=>hst _ (getD_mem L d i hi))
  (fun i hi w1 hw1=>by
   refine (calls_of_okR Tryz.func58 rfl (by kernel_rfl) (hA _ (getD_mem L d i hi)) w1 S _ (tab0 w1) (hs1 w1 hw1) (repLs1 (repL_ev _ (hf _) (hin w1 hw1 i hi)))).mono ?_
   rintro e w' ⟨v,S',rfl,h1,-,-,-,h5⟩
   exact⟨by rw [repL_ints_inv _ h5]; rfl,h1⟩)
  (fun i j hi hj w1 hw1=>by
   refine (calls_of_okR Tryz.func59 rfl (by kernel_rfl) (hS _ (getD_mem L d i hi) _ (getD_mem L d j hj)) w1 S _ (tab0 w1) (hs1 w1 hw1) (repLs2 (repL_ev _ (hf _) (hin w1 hw1 i hi)) (repL_ev _ (hf _) (hin w1 hw1 j hj)))).mono ?_
   rintro e w' ⟨v,S',rfl,h1,-,-,-,h5⟩
   exact⟨by rw [repL_val (show RepL w' S' _ _ v (.one (.p (.val (.bool _)))) from h5)],h1⟩)
  (fun i hi W=>call_intB Tryz.func117 rfl (by kernel_rfl) tab0 (hV _ (getD_mem L d i hi)) W)
 refine hW.mono ?_
 intro e w' h
 obtain⟨v,rfl,h1,h2⟩:=CanonPost.idx (st:=fun i=>((f (L.getD i d)).getD 0 0,(f (L.getD i d)).getD 1 0,(f (L.getD i d)).getD 2 0)) h
 exact⟨_,fun b o=>S b o∨(w.heap.size≤b∧b<w'.heap.size),rfl,zj1 h1,fun _ _ h=>.inl h,fun _ _ h=>h,_,rfl,repLs2 (.p (rep_natsZ h2 fun b o h3 h4=>.inr ⟨h3,h4⟩)) (.p (.val _ rfl))⟩
end Go.LS
namespace Go.LS
open Go.Proofs Go.RowKit Go.Sort
set_option linter.all false
def encEnr (x:Enr):List PV:=[.val (.int .i64 x.1),.val (.int .i64 x.2.1),.val (.int .i64 x.2.2.1),.val (.bool x.2.2.2)]
theorem slAt_of {w:World}{S:Seen}{v:Value}(hs:∀b o,S b o→b<w.heap.size) (L:List Enr) (r:RepP w S v (.sl 4 (L.map encEnr))):SlAt w v L.length 4 (enrZ L):=by
 obtain⟨ao,b,o,cap,rfl,hnil,hpos,hc⟩:=sl_of 4 encEnr (fun _=>rfl) (by omega) hs L r
 refine⟨enrZ_len L,?_⟩
 rcases hnil with⟨h1,h2,h3⟩ | h1
 ·exact .inl ⟨by rw [h1,h2,h3],h2⟩
 ·refine .inr ⟨b,o,cap,by rw [h1],fun j u hj=>?_⟩
  have hlt:j<L.length*4:=by
   have:=(List.getElem?_eq_some_iff.1 hj).1
   rw [enrZ_len] at this; exact this
  have hi:j / 4<L.length:=by omega
  have hk4:j % 4<4:=by omega
  obtain⟨u',a1,a2⟩:=hc (j / 4) hi (j % 4) hk4
  rw [show o+j / 4*4+j % 4=o+j by omega] at a1
  refine⟨(hpos (by omega)).2,?_⟩
  rw [a1]
  have e:=flat_get (fun x:Enr=>[Value.int .i64 x.1,.int .i64 x.2.1,.int .i64 x.2.2.1,.bool x.2.2.2]) 4 enr_four L (j / 4) (j % 4) hi hk4
  rw [show j / 4*4+j % 4=j by omega] at e
  have hj2:(L.flatMap (fun x:Enr=>[Value.int .i64 x.1,.int .i64 x.2.1,.int .i64 x.2.2.1,.bool x.2.2.2]))[j]?=some u:=hj
  rw [e] at hj2
  clear e hj a1
  generalize j % 4=k at *
  match k,hk4 with
  | 0,_ | 1,_ | 2,_ | 3,_=>
   simp [encEnr] at a2 hj2
   rw [val_inv a2,hj2]
theorem rep_enrZ {w:World}{S:Seen}{B:Nat}{v:Value}{L:List Enr}(h:w.ownsRow B 91 4 v L.length (enrZ L)) (hS:∀b o,B≤b→b<w.heap.size→S b o):RepP w S v (.sl 4 (L.map encEnr)):=by
 refine rep_ownZ 4 encEnr (fun x:Enr=>[Value.int .i64 x.1,.int .i64 x.2.1,.int .i64 x.2.2.1,.bool x.2.2.2]) (fun _=>rfl) (fun _=>rfl) (by omega) L h hS fun i hi j hj hj'=>?_
 have hj4:j<4:=hj'
 match j,hj4 with
 | 0,_ | 1,_ | 2,_ | 3,_=>exact .val _ rfl
theorem repLs3 {w:World}{S:Seen}{ρ:Place}{h:Heap}{v u x:Value}{l m k:LV}(r:RepL w S ρ h v l) (q:RepL w S ρ h u m) (p:RepL w S ρ h x k):RepLs w S ρ h [v,u,x] [l,m,k]:=repLs_cons r (repLs2 q p)
theorem repL_fnI {w:World}{S:Seen}{ρ:Place}{h:Heap}(f:FuncId):RepL w S ρ h (.func (.func f) #[] #[]) (.one (.fn f [])):=.fn rfl fun i hi=>by simp at hi
theorem repL_below {w w1:World}{S:Seen}{v:Value}{x:PV}(h:w.Since w.heap.size w1) (hs:∀b o,S b o→b<w.heap.size) (r:RepL w S (fun _=>none) (fun _=>none) v (.one (.p x))):RepL w1 S (fun _=>none) (fun _=>none) v (.one (.p x)):=
 .p ((repL_p r).mono fun b o hb=>⟨hb,(zj1 h).cell (p:=⟨b,o,none⟩) (hs b o hb)⟩)
theorem ltSince {w w1:World}{S:Seen}(h:w.Since w.heap.size w1) (hs:∀b o,S b o→b<w.heap.size):∀b o,S b o→b<w1.heap.size:=fun b o hb=>Nat.lt_of_lt_of_le (hs b o hb) h.size
set_option maxRecDepth 100000 in
theorem ok_stepE (L:List Enr) (dc dl:Int) (l8:List Int) (h8:l8.length=8) (vE there:Bool) (place:Nat) (hL:L.length≤250) (hpl:place≤L.length) (hth:there=true→place<L.length)
  (hV:CallOK Tryz.prog 44 [.agg (l8.map fun n=>.p (pi n))] [] [.one (.p (.val (.bool vE)))] [])
  (hB:CallOK Tryz.prog 45 [.one (.p (.sl 4 (L.map encEnr))),.agg ([l8.getD 4 0,l8.getD 5 0,l8.getD 6 0].map fun n=>.p (pi n)),.one (.fn 46 [])] [] [.one (.p (pi (place:Int))),.one (.p (.val (.bool there)))] []) :
  CallOK Tryz.prog 32 [.one (.p (.sl 4 (L.map encEnr))),.agg ([dc,dl].map fun n=>.p (pi n)),.agg (l8.map fun n=>.p (pi n))] [] [.one (.p (.sl 4 ((stepE vE place there L dc dl fun i=>l8.getD i 0).1.map encEnr))),.one (.p (pi (stepE vE place there L dc dl fun i=>l8.getD i 0).2))] []:=by
 refine callOK_read Tryz.func32 rfl (by kernel_rfl) fun w S vs ht hs hr=>?_
 obtain⟨v,v2,v3,rfl,rv,r2,r3⟩:=reps3 hr
 obtain rfl:=repL_ints_inv _ r2
 obtain rfl:=repL_ints_inv _ r3
 have hW:=Tryz.stepE_walk v L dc dl (fun i=>l8.getD i 0) vE place there w hL (slAt_of hs L (repL_p rv)) hpl hth
  (fun w1 hw1=>by
   have h:=call_intB Tryz.func44 rfl (by kernel_rfl) tab0 hV w1
   rw [← arr8 _ h8] at h
   exact h)
  (fun w1 hw1=>by
   refine (calls_of_okR Tryz.func45 rfl (by kernel_rfl) hB w1 S #[v,.agg #[.int .i64 (l8.getD 4 0),.int .i64 (l8.getD 5 0),.int .i64 (l8.getD 6 0)],.func (.func 46) #[] #[]] (tab0 w1) (ltSince hw1 hs) (repLs3 (repL_below hw1 hs rv) (repL_ints [l8.getD 4 0,l8.getD 5 0,l8.getD 6 0]) (repL_fnI 46))).mono ?_
   rintro e w' ⟨u,S',rfl,q1,_,_,_,q2⟩
   obtain⟨us,rfl,q3⟩:=q2
   obtain⟨u0,u1,rfl,g0,g1⟩:=reps2 q3
   exact⟨by rw [repL_val g0,repL_val g1],q1⟩)
 rw [arr8 _ h8] at hW
 refine hW.mono ?_
 rintro e w' ⟨v',rfl,h1,h2⟩
 exact⟨_,fun b o=>S b o∨(w.heap.size≤b∧b<w'.heap.size),rfl,zj1 h1,fun _ _ h=>.inl h,fun _ _ h=>h,_,rfl,repLs2 (.p (rep_enrZ h2 fun b o h3 h4=>.inr ⟨h3,h4⟩)) (.p (.val _ rfl))⟩
def encAt (a:At):List PV:=[.val (.int .i64 a.1),.val (.int .i64 a.2.1),.val (.int .i64 a.2.2.1),.val (.int .i64 a.2.2.2.1),.sl 1 (a.2.2.2.2.map encI)]
def encRef (r:Int×Int×Int):List PV:=[.val (.int .i64 r.1),.val (.int .i64 r.2.1),.val (.int .i64 r.2.2)]
def regOf (l:List Int):RegR:=⟨l.getD 0 0,l.getD 1 0,l.getD 2 0,l.getD 3 0,l.getD 4 0,l.getD 5 0⟩
theorem rep_atts {w w':World}{S:Seen}{B:Nat}{v:Value}{l:List AttN}(h:AllW w w' B v l) (hS:∀b o,B≤b→b<w'.heap.size→S b o):RepP w' S v (.sl 5 ((l.map AttN.log).map encAt)):=by
 rw [List.map_map]
 refine rep_ownZ 5 (encAt ∘ AttN.log) AttN.cells (fun _=>rfl) (fun _=>rfl) (by omega) l h.own hS fun i hi j hj hj'=>?_
 have hj5:j<5:=hj'
 have hm:l[i].row∈famA l:=List.mem_map.2 ⟨l[i],List.getElem_mem hi,rfl⟩
 have f:RepP w' S l[i].vi (.sl 1 (l[i].inc.map encI)):=rep_intsZ (h.fam.own _ hm) hS
 match j,hj5 with
 | 0,_ | 1,_ | 2,_ | 3,_=>exact .val _ rfl
 | 4,_=>exact f
theorem rep_refs {w:World}{S:Seen}{B:Nat}{v:Value}{R:List (Int×Int×Int)}(h:w.ownsRow B 86 3 v R.length (refZ R)) (hS:∀b o,B≤b→b<w.heap.size→S b o):RepP w S v (.sl 3 (R.map encRef)):=by
 refine rep_ownZ 3 encRef (fun r=>[Value.int .i64 r.1,.int .i64 r.2.1,.int .i64 r.2.2]) (fun _=>rfl) (fun _=>rfl) (by omega) R h hS fun i hi j hj hj'=>?_
 have hj3:j<3:=hj'
 match j,hj3 with
 | 0,_ | 1,_ | 2,_=>exact .val _ rfl
theorem evAt_of {α:Type}(f:α→List Int) (hf:∀x,(f x).length=6){w:World}{S:Seen}{v:Value}(hs:∀b o,S b o→b<w.heap.size) (Y:List α) (r:RepP w S v (.sl 6 (Y.map fun y=>(f y).map pi))):∃xa xc,v = .slice xa Y.length xc∧EvAt w xa (Y.map fun y=>regOf (f y)):=by
 obtain⟨ao,b,o,cap,rfl,hnil,hpos,hc⟩:=sl_of 6 (fun y=>(f y).map pi) (fun y=>by simpa using hf y) (by omega) hs Y r
 refine⟨ao,cap,rfl,fun h0=>?_⟩
 rw [List.length_map] at h0
 obtain⟨h1,h2⟩:=hpos h0
 refine⟨b,o,h1,h2,fun i hi=>?_⟩
 rw [List.length_map] at hi
 have key:∀j,j<6→w.cell? ⟨b,o+i*6+j,none⟩=some (.int .i64 ((f Y[i]).getD j 0)):=fun j hj=>by
  obtain⟨u,a1,a2⟩:=hc i hi j (by simpa [hf] using hj)
  simp only [List.getElem_map] at a2
  rw [a1,val_inv a2,List.getD_eq_getElem?_getD,List.getElem?_eq_getElem (by rw [hf]; exact hj)]; rfl
 simp only [List.getElem_map,regOf]
 exact⟨key 0 (by omega),key 1 (by omega),key 2 (by omega),key 3 (by omega),key 4 (by omega),key 5 (by omega)⟩
def nilEnr:Enr:=(0,0,0,false)
def foldRL (L:List Enr) (plc:Int→Nat×Bool) (till:Int) (X:List RegR):List At×List (Int×Int×Int):=
 runR (fun i=>(L.getD i nilEnr).2.1) plc till X (L.map fun x=>(x.1,0,-1,-1,[]),[])
theorem raw_log (L:List Enr):(rawA (fun i=>(L.getD i nilEnr).1) L.length).map AttN.log=L.map fun x=>((x.1,0,-1,-1,[]):At):=by
 unfold rawA
 rw [List.map_map]
 refine List.ext_getElem (by simp) fun i h1 h2=>?_
 have hi:i<L.length:=by simpa using h1
 simp only [List.getElem_map,List.getElem_range,Function.comp]
 rw [getD_at L nilEnr i hi]
 rfl
set_option maxRecDepth 100000 in
theorem ok_FoldR {α:Type}(f:α→List Int) (hf:∀x,(f x).length=6) (L:List Enr) (E Y:List α) (till:Int) (plc:Int→Nat×Bool) (hL:L.length≤250) (hY:Y.length≤1000) (hth:∀c,(plc c).2=true→(plc c).1<L.length)
  (hck:CallOK Tryz.prog 33 [.one (.p (.sl 4 (L.map encEnr)))] [] [.one (.p (pi 0))] [])
  (hcan:CallOK Tryz.prog 34 [.one (.p (.sl 6 (E.map fun y=>(f y).map pi)))] [] [.one (.p (.sl 6 (Y.map fun y=>(f y).map pi))),.one (.p (pi 0))] [])
  (hb:∀c,CallOK Tryz.prog 53 [.one (.p (.sl 4 (L.map encEnr))),.one (.p (pi c)),.one (.fn 54 [])] [] [.one (.p (pi ((plc c).1:Int))),.one (.p (.val (.bool (plc c).2)))] []) :
  CallOK Tryz.prog 11 [.one (.p (.sl 4 (L.map encEnr))),.one (.p (.sl 6 (E.map fun y=>(f y).map pi))),.one (.p (pi till))] [] [.one (.p (.sl 5 ((foldRL L plc till (Y.map fun y=>regOf (f y))).1.map encAt))),.one (.p (.sl 3 ((foldRL L plc till (Y.map fun y=>regOf (f y))).2.map encRef))),.one (.p (pi 0))] []:=by
 refine callOK_read Tryz.func11 rfl (by kernel_rfl) fun w S vs ht hs hr=>?_
 obtain⟨v,rv,v3,rfl,r1,r2,r3⟩:=reps3 hr
 obtain rfl:=repL_val r3
 obtain⟨ao,b,o,cap,rfl,hnil,hpos,hc⟩:=sl_of 4 encEnr (fun _=>rfl) (by omega) hs L (repL_p r1)
 have cell:∀i (hi:i<L.length),w.cell? ⟨b,o+i*4,none⟩=some (.int .i64 L[i].1)∧w.cell? ⟨b,o+i*4+1,none⟩=some (.int .i64 L[i].2.1)∧w.cell? ⟨b,o+i*4+2,none⟩=some (.int .i64 L[i].2.2.1)∧w.cell? ⟨b,o+i*4+3,none⟩=some (.bool L[i].2.2.2):=fun i hi=>by
  obtain⟨u0,a0,q0⟩:=hc i hi 0 (by simp [encEnr])
  obtain⟨u1,a1,q1⟩:=hc i hi 1 (by simp [encEnr])
  obtain⟨u2,a2,q2⟩:=hc i hi 2 (by simp [encEnr])
  obtain⟨u3,a3,q3⟩:=hc i hi 3 (by simp [encEnr])
  simp only [encEnr,List.getElem_cons_zero,List.getElem_cons_succ] at q0 q1 q2 q3
  rw [← val_inv q0,← val_inv q1,← val_inv q2,← val_inv q3]
  exact⟨a0,a1,a2,a3⟩
 have hW:=Tryz.FoldR_walk ao b o L.length cap (fun i=>(L.getD i nilEnr).1) (fun i=>(L.getD i nilEnr).2.1) (fun i=>(L.getD i nilEnr).2.2.1) (fun i=>(L.getD i nilEnr).2.2.2) rv (Y.map fun y=>regOf (f y)) till plc w hL (by rw [List.length_map]; exact hY) hpos
  (fun i hi=>by rw [getD_at L nilEnr i hi]; exact cell i hi) hth
  (fun W hW=>by
   refine (calls_of_okR Tryz.func33 rfl (by kernel_rfl) hck W S #[.slice ao L.length cap] (tab0 W) (ltSince hW hs) (repLs1 (repL_below hW hs r1))).mono ?_
   rintro e w' ⟨u,S',rfl,q1,_,_,_,q2⟩
   exact⟨by rw [repL_val (show RepL w' S' _ _ u (.one (.p (.val (.int .i64 0)))) from q2)],sinceOfB q1⟩)
  (fun W hW=>by
   refine (calls_of_okR Tryz.func34 rfl (by kernel_rfl) hcan W S #[rv] (tab0 W) (ltSince hW hs) (repLs1 (repL_below hW hs r2))).mono ?_
   rintro e w' ⟨u,S',rfl,q1,_,_,q5,q2⟩
   obtain⟨us,rfl,q3⟩:=q2
   obtain⟨u0,u1,rfl,g0,g1⟩:=reps2 q3
   obtain⟨xa,xc,rfl,hev⟩:=evAt_of f hf q5 Y (repL_p g0)
   exact⟨xa,xc,by rw [repL_val g1,List.length_map],sinceOfB q1,hev⟩)
  (fun c W hW=>by
   refine (calls_of_okR Tryz.func53 rfl (by kernel_rfl) (hb c) W S #[.slice ao L.length cap,.int .i64 c,.func (.func 54) #[] #[]] (tab0 W) (ltSince hW hs) (repLs3 (repL_below hW hs r1) (.p (.val _ rfl)) (repL_fnI 54))).mono ?_
   rintro e w' ⟨u,S',rfl,q1,_,_,_,q2⟩
   obtain⟨us,rfl,q3⟩:=q2
   obtain⟨u0,u1,rfl,g0,g1⟩:=reps2 q3
   exact⟨by rw [repL_val g0,repL_val g1],sinceOfB q1⟩)
 rw [raw_log] at hW
 refine hW.mono ?_
 rintro e w' ⟨g,vr,l,R,rfl,h1,h2⟩
 have e1:l.map AttN.log=(foldRL L plc till (Y.map fun y=>regOf (f y))).1:=by unfold foldRL; rw [← h2]
 have e2:R=(foldRL L plc till (Y.map fun y=>regOf (f y))).2:=by unfold foldRL; rw [← h2]
 rw [← e1,← e2]
 have hS':∀b o,w.heap.size≤b→b<w'.heap.size→(S b o∨(w.heap.size≤b∧b<w'.heap.size)):=fun b o h3 h4=>.inr ⟨h3,h4⟩
 exact⟨_,fun b o=>S b o∨(w.heap.size≤b∧b<w'.heap.size),rfl,zj1 h1.all.since,fun _ _ h=>.inl h,fun _ _ h=>h,_,rfl,repLs3 (.p (rep_atts h1.all hS')) (.p (rep_refs h1.own hS')) (.p (.val _ rfl))⟩
def nilAt:At:=(0,0,0,0,[])
def cmpWo (L:List At) (S:List Int):List Int:=(L.filter fun a=>decide (a.2.1=1) && !decide (a.1∈S)).map (·.1)
def cmpDe (L:List At) (S:List Int):List Int:=(L.filter fun a => !decide (a.2.1=1)&&decide (a.1∈S)).map (·.1)
theorem range_getD {α:Type}(L:List α) (d:α):(List.range L.length).map (fun i=>L.getD i d)=L:=by
 refine List.ext_getElem (by simp) fun i h1 h2=>?_
 simp only [List.getElem_map,List.getElem_range]
 exact getD_at L d i h2
theorem filt_list {α β:Type}(L:List α) (d:α) (p:α→Bool) (q:α→β):((List.range L.length).filter fun i=>p (L.getD i d)).map (fun i=>q (L.getD i d))=(L.filter p).map q:=by
 conv=>rhs; rw [← range_getD L d,List.filter_map,List.map_map]
 rfl
theorem sliceInts {w:World}{ao:Option Addr}{cap:Nat}{l:List Int}(h:SlW w ao l.length cap l):∃b o,(0<l.length→ao=some ⟨b,o,none⟩∧b<w.heap.size)∧IntsAt w b o l:=by
 rcases h.2 with⟨h1,h2,h3⟩ | ⟨b,o,h1,h2⟩
 ·exact⟨0,0,fun h0=>by omega,fun i hi=>by omega⟩
 ·by_cases h0:0<l.length
  ·exact⟨b,o,fun _=>⟨h1,(h2 h0).1⟩,(h2 h0).2⟩
  ·exact⟨b,o,fun h=>absurd h h0,fun i hi=>by omega⟩
set_option maxRecDepth 100000 in
theorem ok_CompareL (L:List At) (X:List Int) (hL:L.length≤1000) (hc:∀a∈L,in64 a.1) (hX:X.length≤1000) (hXc:∀x∈X,in64 x) :
  CallOK Tryz.prog 18 [.one (.p (.sl 5 (L.map encAt))),.one (.p (.sl 1 (X.map encI)))] [] [.one (.p (.sl 1 ((cmpWo L X).map encI))),.one (.p (.sl 1 ((cmpDe L X).map encI)))] []:=by
 refine callOK_read Tryz.func18 rfl (by kernel_rfl) fun w S vs ht hs hr=>?_
 obtain⟨v,u,rfl,r1,r2⟩:=reps2 hr
 obtain⟨ao,b,o,cap,rfl,hnil,hpos,hcell⟩:=sl_of 5 encAt (fun _=>rfl) (by omega) hs L (repL_p r1)
 obtain⟨xa,xc,rfl,hxs⟩:=slW_of hs X (repL_p r2)
 obtain⟨b2,o2,hb2,hI⟩:=sliceInts hxs
 have key:∀i (hi:i<L.length),∃q:Option Addr×Nat×Nat,w.cell? ⟨b,o+i*5+4,none⟩=some (.slice q.1 q.2.1 q.2.2):=fun i hi=>by
  obtain⟨u,h1,h2⟩:=hcell i hi 4 (by simp [encAt])
  simp only [encAt,List.getElem_cons_zero,List.getElem_cons_succ] at h2
  obtain⟨sa,sc,rfl,-⟩:=slW_of hs _ h2
  exact⟨(sa,_,sc),h1⟩
 let q:Nat→Option Addr×Nat×Nat:=fun i=>if h:i<L.length then Classical.choose (key i h) else (none,0,0)
 have hq:∀i (hi:i<L.length),w.cell? ⟨b,o+i*5+4,none⟩=some (.slice (q i).1 (q i).2.1 (q i).2.2):=fun i hi=>by
  simp only [q]
  rw [dif_pos hi]
  exact Classical.choose_spec (key i hi)
 have num:∀i (hi:i<L.length),w.cell? ⟨b,o+i*5,none⟩=some (.int .i64 L[i].1)∧w.cell? ⟨b,o+i*5+1,none⟩=some (.int .i64 L[i].2.1)∧w.cell? ⟨b,o+i*5+2,none⟩=some (.int .i64 L[i].2.2.1)∧w.cell? ⟨b,o+i*5+3,none⟩=some (.int .i64 L[i].2.2.2.1):=fun i hi=>by
  obtain⟨u0,a0,q0⟩:=hcell i hi 0 (by simp [encAt])
  obtain⟨u1,a1,q1⟩:=hcell i hi 1 (by simp [encAt])
  obtain⟨u2,a2,q2⟩:=hcell i hi 2 (by simp [encAt])
  obtain⟨u3,a3,q3⟩:=hcell i hi 3 (by simp [encAt])
  simp only [encAt,List.getElem_cons_zero,List.getElem_cons_succ] at q0 q1 q2 q3
  rw [← val_inv q0,← val_inv q1,← val_inv q2,← val_inv q3]
  exact⟨a0,a1,a2,a3⟩
 have hW:=Tryz.Compare_walk ao xa b o cap L.length b2 o2 xc (fun i=>(L.getD i nilAt).1) (fun i=>(L.getD i nilAt).2.1) (fun i=>(L.getD i nilAt).2.2.1) (fun i=>(L.getD i nilAt).2.2.2.1) (fun i=>(q i).1) (fun i=>(q i).2.1) (fun i=>(q i).2.2) X w hpos
  (fun i hi=>by
   rw [getD_at L nilAt i hi]
   exact⟨(num i hi).1,(num i hi).2.1,(num i hi).2.2.1,(num i hi).2.2.2,hq i hi⟩)
  (fun i hi=>hc _ (getD_mem L nilAt i hi)) hb2 hI hXc hL hX
 have e1:woP (fun i=>(L.getD i nilAt).1) (fun i=>(L.getD i nilAt).2.1) X L.length=cmpWo L X:=filt_list L nilAt (fun a=>decide (a.2.1=1) && !decide (a.1∈X)) (·.1)
 have e2:deP (fun i=>(L.getD i nilAt).1) (fun i=>(L.getD i nilAt).2.1) X L.length=cmpDe L X:=filt_list L nilAt (fun a => !decide (a.2.1=1)&&decide (a.1∈X)) (·.1)
 rw [e1,e2] at hW
 refine hW.mono ?_
 rintro e w' ⟨v1,v2,w1,rfl,h1,h2⟩
 have hS':∀b o,w.heap.size+1≤b→b<w'.heap.size→(S b o∨(w.heap.size≤b∧b<w'.heap.size)):=fun b o h3 h4=>.inr ⟨by omega,h4⟩
 exact⟨_,fun b o=>S b o∨(w.heap.size≤b∧b<w'.heap.size),rfl,zj1 (h1.trans (zJ9 h2.since (by omega))),fun _ _ h=>.inl h,fun _ _ h=>h,_,rfl,repLs2 (.p (rep_intsZ h2.own1 hS')) (.p (rep_intsZ h2.own2 hS'))⟩
end Go.LS
namespace Go.LS
set_option linter.all false
end Go.LS
