/-
  The walk of custody.step. No condition but those that each theorem names.
-/
import Derived.Test.YtmgjidfafnajnaaGreatZXD
namespace Go.Proofs
open Go.RowKit Go.LS Go.Deep Go.Sort
set_option linter.all false
def codeB (rng there:Bool) (place n:Nat) (X:Nat→BagR) (x:BevR):Int:=
 if x.kind=1 then firstP codeN (holdN rng there n X x) 6 0 else firstP codeO (holdO rng there place n X x) 6 0
abbrev Bg:=Int×Int×Bool×List Int×List Int×List Int
def BagR.log (x:BagR):Bg:=(x.bag,x.hold,x.opn,x.seals,x.packed,x.found)
def BagN.log (x:BagN):Bg:=(x.bag,x.hold,x.opn,x.seals,x.packed,x.found)
def putB (L:List Bg) (place:Nat) (f:Bg→Bg):List Bg:=L.set place (f (L.getD place (0,0,false,[],[],[])))
def nextB (L:List Bg) (place:Nat) (x:BevR):List Bg:=
 if x.kind=1 then L.take place++[(x.bag,x.frm,false,[x.sealQ],x.cands,[])]++L.drop place
 else if x.kind=2 then putB L place fun y=>(y.1,x.to',y.2.2)
 else if x.kind=3 then putB L place fun y=>(y.1,y.2.1,true,y.2.2.2.1,y.2.2.2.2.1,x.cands)
 else if x.kind=4 then putB L place fun y=>(y.1,y.2.1,y.2.2.1,y.2.2.2.1++[x.sealQ],y.2.2.2.2)
 else L
def StepBPost (code:Int) (L':List Bg) (w:World) (e:Ending) (w':World):Prop:=
 (code≠0∧e = .returned (.tuple #[.slice none 0 0,.int .i64 code])∧w.Since w.heap.size w') ∨
 (code=0∧∃v l,e = .returned (.tuple #[v,.int .i64 0])∧l.map BagN.log=L'∧NextW w w' w.heap.size v l 0)
theorem EvC.of_block {w w':World}{q:Nat}{x:BevR}(h:EvC w q x) (e:w'.heap[q]?=w.heap[q]?):EvC w' q x:=by
 obtain⟨a0,a1,a2,a3,a4,a5,a6,a7,a8⟩:=h
 have up:∀ {i:Nat} {v:Value},w.cell? ⟨q,i,none⟩=some v→w'.cell? ⟨q,i,none⟩=some v:=fun {i v} hc=>(World.cell?_of_block (a:=⟨q,i,none⟩) e).trans hc
 exact⟨up a0,up a1,up a2,up a3,up a4,up a5,up a6,up a7,up a8⟩
theorem own_lit (w:World) (cs:Array Value) (t:TypeId) (B n size:Nat) (hB:B≤w.heap.size) (hs:cs.size=n*size) (hn:n≤maxLen):(w.alloc (.cells cs t)).ownsRow B t size (.slice (some ⟨w.heap.size,0,none⟩) n n) n cs.toList:=
 ⟨by rw [Array.length_toList,hs],.inr ⟨w.heap.size,n,cs,rfl,hB,heap_alloc_new w _,Nat.le_refl _,hn,hs,by rw [List.take_of_length_le (by rw [Array.length_toList,hs]; exact Nat.le_refl _)]⟩⟩
theorem newW_facts (w:World) (ao:Option Addr) (n cap:Nat) (x:BevR) (there:Bool):w.Since w.heap.size (newW w ao n cap x there)∧(newW w ao n cap x there).heap.size=w.heap.size+4∧(newW w ao n cap x there).cell? ⟨w.heap.size,0,none⟩=some (.slice ao n cap)∧EvC (newW w ao n cap x there) (w.heap.size+1) x ∧
  (newW w ao n cap x there).cell? ⟨w.heap.size+2,0,none⟩=some (.bool there)∧∀i,i<4→(newW w ao n cap x there).cell? ⟨w.heap.size+3,i*2,none⟩=some (.int .i64 (codeN (i+2)))∧(newW w ao n cap x there).cell? ⟨w.heap.size+3,i*2+1,none⟩=some (fnAt (gN (i+2)) (capsN 0 w.heap.size (i+2))):=by
 unfold newW
 generalize hw1:w.alloc (.cells #[.slice ao n cap] 54)=w1
 have n1:w1.heap.size=w.heap.size+1:=by rw [← hw1]; simp
 generalize hw2:w1.alloc (.cells x.cells.toArray 44)=w2
 have n2:w2.heap.size=w.heap.size+2:=by rw [← hw2]; simp; omega
 generalize hw3:w2.alloc (.cells #[.bool there] 4)=w3
 have n3:w3.heap.size=w.heap.size+3:=by rw [← hw3]; simp; omega
 generalize hw4:w3.alloc (.cells #[.int .i64 8,fnAt 91 #[ptrAt (w.heap.size+1)],.int .i64 5,fnAt 92 #[ptrAt (w.heap.size+2)],.int .i64 9,fnAt 93 #[ptrAt w.heap.size,ptrAt (w.heap.size+1)],.int .i64 3,fnAt 99 #[ptrAt w.heap.size]] 130)=w4
 have n4:w4.heap.size=w.heap.size+4:=by rw [← hw4]; simp; omega
 have b4:w4.heap[w.heap.size+3]?=some (.cells #[.int .i64 8,fnAt 91 #[ptrAt (w.heap.size+1)],.int .i64 5,fnAt 92 #[ptrAt (w.heap.size+2)],.int .i64 9,fnAt 93 #[ptrAt w.heap.size,ptrAt (w.heap.size+1)],.int .i64 3,fnAt 99 #[ptrAt w.heap.size]] 130):=by rw [← n3,← hw4]; exact heap_alloc_new _ _
 have k3:∀j,j<w.heap.size+3→w4.heap[j]?=w3.heap[j]?:=fun j hj=>by rw [← hw4]; exact blk_alloc_lt _ _ _ (by omega)
 have b3:w4.heap[w.heap.size+2]?=some (.cells #[.bool there] 4):=by rw [k3 _ (by omega),← n2,← hw3]; exact heap_alloc_new _ _
 have k2:∀j,j<w.heap.size+2→w4.heap[j]?=w2.heap[j]?:=fun j hj=>by rw [k3 _ (by omega),← hw3]; exact blk_alloc_lt _ _ _ (by omega)
 have b2:w4.heap[w.heap.size+1]?=some (.cells x.cells.toArray 44):=by rw [k2 _ (by omega),← n1,← hw2]; exact heap_alloc_new _ _
 have k1:∀j,j<w.heap.size+1→w4.heap[j]?=w1.heap[j]?:=fun j hj=>by rw [k2 _ (by omega),← hw2]; exact blk_alloc_lt _ _ _ (by omega)
 have b1:w4.heap[w.heap.size]?=some (.cells #[.slice ao n cap] 54):=by rw [k1 _ (by omega),← hw1]; exact heap_alloc_new _ _
 refine⟨?_,n4,cell_blk b1 0,⟨cell_blk b2 0,cell_blk b2 1,cell_blk b2 2,cell_blk b2 3,cell_blk b2 4,cell_blk b2 5,cell_blk b2 6,cell_blk b2 7,cell_blk b2 8⟩,cell_blk b3 0,fun i hi=>?_⟩
 ·rw [← hw4,← hw3,← hw2,← hw1]
  exact ((((World.Since.refl _ _).alloc (Nat.le_refl _) _).alloc (by simp) _).alloc (by simp; omega) _).alloc (by simp; omega) _
 ·match i,hi with
  | 0,_=>exact⟨cell_blk b4 0,cell_blk b4 1⟩
  | 1,_=>exact⟨cell_blk b4 2,cell_blk b4 3⟩
  | 2,_=>exact⟨cell_blk b4 4,cell_blk b4 5⟩
  | 3,_=>exact⟨cell_blk b4 6,cell_blk b4 7⟩
theorem oldW_facts (w:World) (ao:Option Addr) (n cap:Nat) (x:BevR) (place:Nat) (there:Bool):w.Since w.heap.size (oldW w ao n cap x place there)∧(oldW w ao n cap x place there).heap.size=w.heap.size+5∧(oldW w ao n cap x place there).cell? ⟨w.heap.size,0,none⟩=some (.slice ao n cap)∧EvC (oldW w ao n cap x place there) (w.heap.size+1) x ∧
  (oldW w ao n cap x place there).cell? ⟨w.heap.size+2,0,none⟩=some (.int .i64 (place:Int))∧(oldW w ao n cap x place there).cell? ⟨w.heap.size+3,0,none⟩=some (.bool there)∧∀i,i<4→(oldW w ao n cap x place there).cell? ⟨w.heap.size+4,i*2,none⟩=some (.int .i64 (codeO (i+2)))∧(oldW w ao n cap x place there).cell? ⟨w.heap.size+4,i*2+1,none⟩=some (fnAt (gO (i+2)) (capsO 0 w.heap.size (i+2))):=by
 unfold oldW
 generalize hw1:w.alloc (.cells #[.slice ao n cap] 54)=w1
 have n1:w1.heap.size=w.heap.size+1:=by rw [← hw1]; simp
 generalize hw2:w1.alloc (.cells x.cells.toArray 44)=w2
 have n2:w2.heap.size=w.heap.size+2:=by rw [← hw2]; simp; omega
 generalize hw2':w2.alloc (.cells #[.int .i64 (place:Int)] 3)=w2'
 have n2':w2'.heap.size=w.heap.size+3:=by rw [← hw2']; simp; omega
 generalize hw3:w2'.alloc (.cells #[.bool there] 4)=w3
 have n3:w3.heap.size=w.heap.size+4:=by rw [← hw3]; simp; omega
 generalize hw4:w3.alloc (.cells #[.int .i64 4,fnAt 100 #[ptrAt (w.heap.size+3)],.int .i64 8,fnAt 101 #[ptrAt w.heap.size,ptrAt (w.heap.size+2),ptrAt (w.heap.size+1)],.int .i64 9,fnAt 102 #[ptrAt (w.heap.size+1),ptrAt w.heap.size,ptrAt (w.heap.size+2)],.int .i64 3,fnAt 103 #[ptrAt (w.heap.size+1),ptrAt w.heap.size,ptrAt (w.heap.size+2)]] 130)=w4
 have n4:w4.heap.size=w.heap.size+5:=by rw [← hw4]; simp; omega
 have b4:w4.heap[w.heap.size+4]?=some (.cells #[.int .i64 4,fnAt 100 #[ptrAt (w.heap.size+3)],.int .i64 8,fnAt 101 #[ptrAt w.heap.size,ptrAt (w.heap.size+2),ptrAt (w.heap.size+1)],.int .i64 9,fnAt 102 #[ptrAt (w.heap.size+1),ptrAt w.heap.size,ptrAt (w.heap.size+2)],.int .i64 3,fnAt 103 #[ptrAt (w.heap.size+1),ptrAt w.heap.size,ptrAt (w.heap.size+2)]] 130):=by rw [← n3,← hw4]; exact heap_alloc_new _ _
 have k3:∀j,j<w.heap.size+4→w4.heap[j]?=w3.heap[j]?:=fun j hj=>by rw [← hw4]; exact blk_alloc_lt _ _ _ (by omega)
 have b3:w4.heap[w.heap.size+3]?=some (.cells #[.bool there] 4):=by rw [k3 _ (by omega),← n2',← hw3]; exact heap_alloc_new _ _
 have k2':∀j,j<w.heap.size+3→w4.heap[j]?=w2'.heap[j]?:=fun j hj=>by rw [k3 _ (by omega),← hw3]; exact blk_alloc_lt _ _ _ (by omega)
 have b2':w4.heap[w.heap.size+2]?=some (.cells #[.int .i64 (place:Int)] 3):=by rw [k2' _ (by omega),← n2,← hw2']; exact heap_alloc_new _ _
 have k2:∀j,j<w.heap.size+2→w4.heap[j]?=w2.heap[j]?:=fun j hj=>by rw [k2' _ (by omega),← hw2']; exact blk_alloc_lt _ _ _ (by omega)
 have b2:w4.heap[w.heap.size+1]?=some (.cells x.cells.toArray 44):=by rw [k2 _ (by omega),← n1,← hw2]; exact heap_alloc_new _ _
 have k1:∀j,j<w.heap.size+1→w4.heap[j]?=w1.heap[j]?:=fun j hj=>by rw [k2 _ (by omega),← hw2]; exact blk_alloc_lt _ _ _ (by omega)
 have b1:w4.heap[w.heap.size]?=some (.cells #[.slice ao n cap] 54):=by rw [k1 _ (by omega),← hw1]; exact heap_alloc_new _ _
 refine⟨?_,n4,cell_blk b1 0,⟨cell_blk b2 0,cell_blk b2 1,cell_blk b2 2,cell_blk b2 3,cell_blk b2 4,cell_blk b2 5,cell_blk b2 6,cell_blk b2 7,cell_blk b2 8⟩,cell_blk b2' 0,cell_blk b3 0,fun i hi=>?_⟩
 ·rw [← hw4,← hw3,← hw2',← hw2,← hw1]
  exact (((((World.Since.refl _ _).alloc (Nat.le_refl _) _).alloc (by simp) _).alloc (by simp; omega) _).alloc (by simp; omega) _).alloc (by simp; omega) _
 ·match i,hi with
  | 0,_=>exact⟨cell_blk b4 0,cell_blk b4 1⟩
  | 1,_=>exact⟨cell_blk b4 2,cell_blk b4 3⟩
  | 2,_=>exact⟨cell_blk b4 4,cell_blk b4 5⟩
  | 3,_=>exact⟨cell_blk b4 6,cell_blk b4 7⟩
end Go.Proofs
namespace Go.Proofs
open Go.RowKit Go.LS Go.Deep Go.Sort
set_option linter.all false
theorem map_log {n:Nat}{X:Nat→BagR}{l:List BagN}(hl:l.length=n) (hs:∀i (hi:i<l.length),(X i).same l[i]):l.map BagN.log=(List.range n).map fun i=>(X i).log:=by
 refine List.ext_getElem (by simp [hl]) fun i h1 h2=>?_
 simp only [List.getElem_map,List.getElem_range]
 obtain⟨e1,e2,e3,e4,e5,e6⟩:=hs i (by simpa using h1)
 unfold BagN.log BagR.log
 rw [e1,e2,e3,e4,e5,e6]
theorem map_put {l:List BagN}{place:Nat}(hp:place<l.length) (y:BagN) (f:Bg→Bg) (hy:y.log=f (l[place].log)):(l.set place y).map BagN.log=putB (l.map BagN.log) place f:=by
 unfold putB
 rw [List.map_set,hy]
 congr 2
 rw [List.getD_eq_getElem?_getD,List.getElem?_map,List.getElem?_eq_getElem hp]
 rfl
theorem cellsN_split (l:List BagN) (i:Nat) (h:i<l.length):cellsN l=cellsN (l.take i)++(l[i].cells++cellsN (l.drop (i+1))):=by
 have e:l=l.take i++l[i] :: l.drop (i+1):=by rw [← List.drop_eq_getElem_cons h,List.take_append_drop]
 have h2:cellsN (l[i] :: l.drop (i+1))=l[i].cells++cellsN (l.drop (i+1)):=by unfold cellsN; rw [List.flatMap_cons]
 calc cellsN l=cellsN (l.take i++l[i] :: l.drop (i+1)):=by rw [← e]
  _=_:=by rw [cellsN_app,h2]
theorem cellsN_set (l:List BagN) (i j:Nat) (h:i<l.length) (y:BagN) (u:Value) (hj:j<6) (hy:y.cells=l[i].cells.set j u):(cellsN l).set (i*6+j) u=cellsN (l.set i y):=by
 have h2:cellsN (l.set i y)=cellsN (l.take i)++(y.cells++cellsN (l.drop (i+1))):=by
  have e:l.set i y=l.take i++y :: l.drop (i+1):=by rw [List.set_eq_take_append_cons_drop,if_pos h]
  have h2:cellsN (y :: l.drop (i+1))=y.cells++cellsN (l.drop (i+1)):=by unfold cellsN; rw [List.flatMap_cons]
  rw [e,cellsN_app,h2]
 have hl:(cellsN (l.take i)).length=i*6:=by rw [cellsN_len,List.length_take,Nat.min_eq_left (by omega)]
 rw [cellsN_split l i h,h2,set_at _ _ j _ _ (by rw [hl]),List.set_append_left _ _ (by rw [show l[i].cells.length=6 from rfl]; exact hj),hy]
theorem cellsN_at (l:List BagN) (i j:Nat) (h:i<l.length) (hj:j<6):(cellsN l)[i*6+j]?=l[i].cells[j]?:=flat_get BagN.cells 6 (fun _=>rfl) l i j h hj
theorem famN_split (l:List BagN) (i:Nat) (h:i<l.length):famN l=famN (l.take i)++((l[i].vs,l[i].seals) :: (l[i].vp,l[i].packed) :: (l[i].vf,l[i].found) :: famN (l.drop (i+1))):=by
 have e:l=l.take i++l[i] :: l.drop (i+1):=by rw [← List.drop_eq_getElem_cons h,List.take_append_drop]
 have h2:famN (l[i] :: l.drop (i+1))=l[i].fam++famN (l.drop (i+1)):=by unfold famN; rw [List.flatMap_cons]
 calc famN l=famN (l.take i++l[i] :: l.drop (i+1)):=by rw [← e]
  _=_:=by rw [famN_app,h2]; rfl
theorem famN_set (l:List BagN) (i:Nat) (h:i<l.length) (y:BagN):famN (l.set i y)=famN (l.take i)++((y.vs,y.seals) :: (y.vp,y.packed) :: (y.vf,y.found) :: famN (l.drop (i+1))):=by
 have e:l.set i y=l.take i++y :: l.drop (i+1):=by rw [List.set_eq_take_append_cons_drop,if_pos h]
 have h2:famN (y :: l.drop (i+1))=y.fam++famN (l.drop (i+1)):=by unfold famN; rw [List.flatMap_cons]
 rw [e,famN_app,h2]; rfl
theorem FamI.swap {w:World}{B:Nat}{P S:List (Value×List Int)}{q q':Value×List Int}(h:FamI w B (P++q :: S)) (ho:w.ownsRow B 3 1 q'.1 q'.2.length (intZ q'.2)) (ha:∀p∈P++S,apart p.1 q'.1):FamI w B (P++q' :: S):=by
 refine⟨fun p hp=>?_,?_⟩
 ·rcases List.mem_append.1 hp with h1 | h1
  ·exact h.own p (by simp [h1])
  ·rcases List.mem_cons.1 h1 with rfl | h1
   ·exact ho
   ·exact h.own p (by simp [h1])
 ·have h0:=h.ap
  rw [List.pairwise_append,List.pairwise_cons] at h0 ⊢
  obtain⟨a1,⟨a2,a3⟩,a4⟩:=h0
  refine⟨a1,⟨fun p hp=>(ha p (by simp [hp])).symm,a3⟩,fun p hp r hr=>?_⟩
  rcases List.mem_cons.1 hr with rfl | hr
  ·exact ha p (by simp [hp])
  ·exact a4 p hp r (by simp [hr])
theorem NextW.keep {w wr w':World}{B:Nat}{v:Value}{l:List BagN}{m:Nat}(h:NextW w wr B v l m) (hs:wr.Since wr.heap.size w'):NextW w w' B v l m:=
 ⟨h.since.trans (zJ9 hs h.le),Nat.le_trans h.le hs.size,own_keep h.own hs,h.fam.since hs,h.ap⟩
theorem NextW.base {w wr:World}{B B':Nat}{v:Value}{l:List BagN}{m:Nat}(h:NextW w wr B v l m) (hB:B'≤B):NextW w wr B' v l m:=
 ⟨zJ9 h.since hB,Nat.le_trans hB h.le,own_base h.own hB,h.fam.base hB,h.ap⟩
theorem NextW.from' {w0 w wr:World}{B:Nat}{v:Value}{l:List BagN}{m:Nat}(h:NextW w wr B v l m) (hs:w0.Since B w):NextW w0 wr B v l m:=
 ⟨hs.trans h.since,h.le,h.own,h.fam,h.ap⟩
theorem NextW.num {w wr:World}{B g n c place j:Nat}{l:List BagN}{y:BagN}{u:Value}(h:NextW w wr B (.slice (some ⟨g,0,none⟩) n c) l 0) (hn:l.length=n) (hp:place<l.length) (hj:j<6) (hy:y.cells=l[place].cells.set j u) (hf:y.fam=l[place].fam) :
  NextW w (wr.setCell ⟨g,place*6+j,none⟩ u) B (.slice (some ⟨g,0,none⟩) n c) (l.set place y) 0:=by
 have hg:=h.own.lt g rfl
 have o:=h.own
 simp only [List.replicate_zero,List.append_nil,Nat.add_zero] at o
 rw [hn] at o
 have F:famN (l.set place y)=famN l:=by
  rw [famN_set l place hp,famN_split l place hp]
  unfold BagN.fam at hf
  simp only [List.cons.injEq,and_true] at hf
  rw [hf.1,hf.2.1,hf.2.2]
 have A:∀p∈famN l,p.1.ownBlock≠some g:=fun p hp=>apart_some (h.ap p hp)
 refine⟨zE9 h.since _ _ _ hg.1,by simp only [World.setCell,Array.size_modify]; exact h.le,?_,?_,?_⟩
 ·have o2:=own_set o (place*6+j) (by omega) u
  rw [cellsN_set l place j hp y u hj hy] at o2
  simp only [List.replicate_zero,List.append_nil,Nat.add_zero,List.length_set]
  rw [hn]
  exact o2
 ·rw [F]; exact h.fam.setCell g _ _ A
 ·rw [F]; exact fun p hp=>.inr (.inr (Ne.symm (A p hp)))
theorem NextW.row {w wr wr':World}{B g n c place j:Nat}{l:List BagN}{y:BagN}{u:Value}{P S:List (Value×List Int)}{q q':Value×List Int}(h:NextW w wr B (.slice (some ⟨g,0,none⟩) n c) l 0) (hn:l.length=n) (hp:place<l.length) (hj:j<6) (hy:y.cells=l[place].cells.set j u)
  (hl:famN l=P++q :: S) (hl':famN (l.set place y)=P++q' :: S) (hs:w.Since B wr') (hle:B≤wr'.heap.size) (hr:wr'.ownsRow B 99 6 (.slice (some ⟨g,0,none⟩) n c) n (cellsN l)) (hf:FamI wr' B (P++q' :: S)) (hq:q'.1.ownBlock≠some g) :
  NextW w (wr'.setCell ⟨g,place*6+j,none⟩ u) B (.slice (some ⟨g,0,none⟩) n c) (l.set place y) 0:=by
 have hg:=hr.lt g rfl
 have A:∀p∈famN (l.set place y),p.1.ownBlock≠some g:=fun p hp=>by
  rw [hl'] at hp
  rcases List.mem_append.1 hp with h1 | h1
  ·exact apart_some (h.ap p (by rw [hl]; simp [h1]))
  ·rcases List.mem_cons.1 h1 with rfl | h1
   ·exact hq
   ·exact apart_some (h.ap p (by rw [hl]; simp [h1]))
 refine⟨zE9 hs _ _ _ hg.1,by simp only [World.setCell,Array.size_modify]; exact hle,?_,?_,fun p hp=>.inr (.inr (Ne.symm (A p hp)))⟩
 ·have o2:=own_set hr (place*6+j) (by omega) u
  rw [cellsN_set l place j hp y u hj hy] at o2
  simp only [List.replicate_zero,List.append_nil,Nat.add_zero,List.length_set]
  rw [hn]
  exact o2
 ·rw [hl'] at A ⊢
  exact hf.setCell g _ _ A
end Go.Proofs
namespace Go.Proofs
open Go.RowKit Go.LS Go.Deep Go.Sort
set_option linter.all false
theorem own_setOther {w:World}{B e size n q o:Nat}{v:Value}{xs:List Value}(h:w.ownsRow B e size v n xs) (hne:v.ownBlock≠some q) (u:Value):(w.setCell ⟨q,o,none⟩ u).ownsRow B e size v n xs:=
 h.kept (row:=some q) ⟨rfl,rfl,rfl,by simp [World.setCell],fun k hk hne=>blk_setCell_other _ _ _ _ (by intro e; exact hne (by rw [e]))⟩ (.inr hne)
def sixW (W:World) (q:Nat) (u0 u1 u2 u3 u4 u5:Value):World:=(((((W.setCell ⟨q,0,none⟩ u0).setCell ⟨q,1,none⟩ u1).setCell ⟨q,2,none⟩ u2).setCell ⟨q,3,none⟩ u3).setCell ⟨q,4,none⟩ u4).setCell ⟨q,5,none⟩ u5
theorem sixW_since {w W:World}{B q:Nat}{u0 u1 u2 u3 u4 u5:Value}(h:w.Since B W) (hq:B≤q):w.Since B (sixW W q u0 u1 u2 u3 u4 u5):=
 zE9 (zE9 (zE9 (zE9 (zE9 (zE9 h _ _ _ hq) _ _ _ hq) _ _ _ hq) _ _ _ hq) _ _ _ hq) _ _ _ hq
theorem sixW_own {w:World}{B e size n q:Nat}{v:Value}{xs:List Value}{u0 u1 u2 u3 u4 u5:Value}(h:w.ownsRow B e size v n xs) (hne:v.ownBlock≠some q):(sixW w q u0 u1 u2 u3 u4 u5).ownsRow B e size v n xs:=
 own_setOther (own_setOther (own_setOther (own_setOther (own_setOther (own_setOther h hne _) hne _) hne _) hne _) hne _) hne _
theorem sixW_size (W:World) (q:Nat) (u0 u1 u2 u3 u4 u5:Value):(sixW W q u0 u1 u2 u3 u4 u5).heap.size=W.heap.size:=by simp [sixW,World.setCell]
def zero6:Obj:=.cells #[.int .i64 0,.int .i64 0,.bool false,.slice none 0 0,.slice none 0 0,.slice none 0 0] 99 (0,0)
theorem sixW_row {W:World}{q:Nat}(u0 u1 u2 u3 u4 u5:Value) (h:W.heap[q]?=some zero6):(sixW W q u0 u1 u2 u3 u4 u5).heap[q]?=some (.cells #[u0,u1,u2,u3,u4,u5] 99 (0,0)):=by
 have h0:W.rowIs q 99 6 (sixF (.int .i64 0) (.int .i64 0) (.bool false) (.slice none 0 0) (.slice none 0 0) (.slice none 0 0)):=⟨_,h,rfl,fun i hi=>by
  match i,hi with
  | 0,_ | 1,_ | 2,_ | 3,_ | 4,_ | 5,_=>rfl⟩
 obtain⟨cs,hheap,hsize,hcell⟩:=((((((h0.set 0 u0).set 1 u1).set 2 u2).set 3 u3).set 4 u4).set 5 u5)
 have hcs:cs = #[u0,u1,u2,u3,u4,u5]:=arr6 hsize (hcell 0 (by omega)) (hcell 1 (by omega)) (hcell 2 (by omega)) (hcell 3 (by omega)) (hcell 4 (by omega)) (hcell 5 (by omega))
 rw [← hcs]; exact hheap
structure NewBag (W6 X:World) (q sb:Nat) (vc:Value) (x:BevR):Prop where
 since:W6.Since W6.heap.size X
 row:X.heap[q]?=some (.cells #[.int .i64 x.bag,.int .i64 x.frm,.bool false,.slice (some ⟨sb,0,none⟩) 1 1,vc,.slice none 0 0] 99 (0,0))
 hq:W6.heap.size≤q
 sealQ:X.ownsRow W6.heap.size 3 1 (.slice (some ⟨sb,0,none⟩) 1 1) 1 (intZ [x.sealQ])
 cand:X.ownsRow W6.heap.size 3 1 vc x.cands.length (intZ x.cands)
 n1:sb≠q
 n2:vc.ownBlock≠some sb
 n3:vc.ownBlock≠some q
def sealO (x:BevR):Obj:=.cells #[.int .i64 x.sealQ] 3
def bagO (x:BevR) (sb:Nat) (vc:Value):Obj:=.cells #[.int .i64 x.bag,.int .i64 x.frm,.bool false,.slice (some ⟨sb,0,none⟩) 1 1,vc,.slice none 0 0] 99
theorem own_seal (W:World) (x:BevR){B:Nat}(hB:B≤W.heap.size):(W.alloc (sealO x)).ownsRow B 3 1 (.slice (some ⟨W.heap.size,0,none⟩) 1 1) 1 (intZ [x.sealQ]):=own_lit W #[.int .i64 x.sealQ] 3 B 1 1 hB rfl (by unfold maxLen; omega)
theorem own_alloc {w:World}{B e size n:Nat}{v:Value}{xs:List Value}(h:w.ownsRow B e size v n xs) (o:Obj):(w.alloc o).ownsRow B e size v n xs:=own_keep h ((World.Since.refl _ _).alloc (Nat.le_refl _) o)
theorem ob_ne {w:World}{B e size n k:Nat}{v:Value}{xs:List Value}(h:w.ownsRow B e size v n xs) (hk:k<B∨w.heap.size≤k):v.ownBlock≠some k:=fun e=>by
 have:=h.lt k e; omega
theorem NB1 {W6 w':World}{vc:Value}{x:BevR}(ho:w'.ownsRow (W6.alloc (sealO x)).drew.heap.size 3 1 vc x.cands.length (intZ x.cands)) (hs:(W6.alloc (sealO x)).drew.Since (W6.alloc (sealO x)).drew.heap.size w') :
  NewBag W6 (w'.alloc (bagO x W6.heap.size vc)) w'.heap.size W6.heap.size vc x:=by
 have h0:(W6.alloc (sealO x)).drew.heap.size=W6.heap.size+1:=by show (W6.alloc (sealO x)).heap.size=_; simp
 have hz:=hs.size
 rw [h0] at ho hz
 have s1:W6.Since W6.heap.size w':=(((World.Since.refl _ W6).alloc (Nat.le_refl _) (sealO x)).drew).trans (zJ9 hs (by omega))
 have o1:w'.ownsRow W6.heap.size 3 1 _ 1 _:=own_keep (w:=(W6.alloc (sealO x)).drew) (own_seal W6 x (Nat.le_refl _)) hs
 exact⟨s1.alloc s1.size _,heap_alloc_new _ _,s1.size,own_alloc o1 _,own_alloc (own_base ho (by omega)) _,by omega,ob_ne ho (.inl (by omega)),ob_ne ho (.inr (Nat.le_refl _))⟩
theorem NB2 {W6 w':World}{vc:Value}{x:BevR}(ho:w'.ownsRow ((W6.alloc (sealO x)).alloc zero6).drew.heap.size 3 1 vc x.cands.length (intZ x.cands)) (hs:((W6.alloc (sealO x)).alloc zero6).drew.Since ((W6.alloc (sealO x)).alloc zero6).drew.heap.size w') :
  NewBag W6 (sixW w' (W6.heap.size+1) (.int .i64 x.bag) (.int .i64 x.frm) (.bool false) (.slice (some ⟨W6.heap.size,0,none⟩) 1 1) vc (.slice none 0 0)) (W6.heap.size+1) W6.heap.size vc x:=by
 have h0:((W6.alloc (sealO x)).alloc zero6).drew.heap.size=W6.heap.size+2:=by show ((W6.alloc (sealO x)).alloc zero6).heap.size=_; simp
 have hz:=hs.size
 have hrow:w'.heap[W6.heap.size+1]?=some zero6:=(hs.block _ (by omega)).trans (by
  have:=heap_alloc_new (W6.alloc (sealO x)) zero6
  rw [show (W6.alloc (sealO x)).heap.size=W6.heap.size+1 by simp] at this
  exact this)
 rw [h0] at ho hz
 have s1:W6.Since W6.heap.size w':=((((World.Since.refl _ W6).alloc (Nat.le_refl _) (sealO x)).alloc (by simp) zero6).drew).trans (zJ9 hs (by omega))
 have o1:w'.ownsRow W6.heap.size 3 1 _ 1 _:=own_keep (w:=((W6.alloc (sealO x)).alloc zero6).drew) (own_alloc (own_seal W6 x (Nat.le_refl _)) zero6) hs
 exact⟨sixW_since s1 (by omega),sixW_row _ _ _ _ _ _ hrow,by omega,sixW_own o1 (by show some W6.heap.size≠_; intro e; have:=Option.some.inj e; omega),sixW_own (own_base ho (by omega)) (ob_ne ho (.inl (by omega))),by omega,ob_ne ho (.inl (by omega)),ob_ne ho (.inl (by omega))⟩
theorem NB3 {W6 w':World}{vc:Value}{x:BevR}(ho:w'.ownsRow W6.drew.heap.size 3 1 vc x.cands.length (intZ x.cands)) (hs:W6.drew.Since W6.drew.heap.size w') :
  NewBag W6 ((w'.alloc (sealO x)).alloc (bagO x w'.heap.size vc)) (w'.heap.size+1) w'.heap.size vc x:=by
 have hz:W6.heap.size≤w'.heap.size:=hs.size
 have ho:w'.ownsRow W6.heap.size 3 1 vc x.cands.length (intZ x.cands):=ho
 have s1:W6.Since W6.heap.size w':=(World.Since.refl _ W6).drew.trans hs
 have hr:=heap_alloc_new (w'.alloc (sealO x)) (bagO x w'.heap.size vc)
 rw [show (w'.alloc (sealO x)).heap.size=w'.heap.size+1 by simp] at hr
 exact⟨(s1.alloc s1.size _).alloc (by simp; omega) _,hr,by omega,own_alloc (own_seal w' x hz) _,own_alloc (own_alloc ho _) _,by omega,ob_ne ho (.inr (Nat.le_refl _)),ob_ne ho (.inr (by omega))⟩
theorem NB4 {W6 w':World}{vc:Value}{x:BevR}(ho:w'.ownsRow W6.drew.heap.size 3 1 vc x.cands.length (intZ x.cands)) (hs:W6.drew.Since W6.drew.heap.size w') :
  NewBag W6 ((w'.alloc (bagO x (w'.heap.size+1) vc)).alloc (sealO x)) w'.heap.size (w'.heap.size+1) vc x:=by
 have hz:W6.heap.size≤w'.heap.size:=hs.size
 have ho:w'.ownsRow W6.heap.size 3 1 vc x.cands.length (intZ x.cands):=ho
 have s1:W6.Since W6.heap.size w':=(World.Since.refl _ W6).drew.trans hs
 have hr:((w'.alloc (bagO x (w'.heap.size+1) vc)).alloc (sealO x)).heap[w'.heap.size]?=_:=(blk_alloc_lt _ _ _ (by simp)).trans (heap_alloc_new w' (bagO x (w'.heap.size+1) vc))
 have o1:=own_seal (w'.alloc (bagO x (w'.heap.size+1) vc)) x (B:=W6.heap.size) (by simp; omega)
 rw [show (w'.alloc (bagO x (w'.heap.size+1) vc)).heap.size=w'.heap.size+1 by simp] at o1
 exact⟨(s1.alloc s1.size _).alloc (by simp; omega) _,hr,by omega,o1,own_alloc (own_alloc ho _) _,by omega,ob_ne ho (.inr (by omega)),ob_ne ho (.inr (Nat.le_refl _))⟩
theorem NB5 {W6 w':World}{vc:Value}{x:BevR}(ho:w'.ownsRow ((W6.alloc zero6).alloc (sealO x)).drew.heap.size 3 1 vc x.cands.length (intZ x.cands)) (hs:((W6.alloc zero6).alloc (sealO x)).drew.Since ((W6.alloc zero6).alloc (sealO x)).drew.heap.size w') :
  NewBag W6 (sixW w' W6.heap.size (.int .i64 x.bag) (.int .i64 x.frm) (.bool false) (.slice (some ⟨W6.heap.size+1,0,none⟩) 1 1) vc (.slice none 0 0)) W6.heap.size (W6.heap.size+1) vc x:=by
 have h0:((W6.alloc zero6).alloc (sealO x)).drew.heap.size=W6.heap.size+2:=by show ((W6.alloc zero6).alloc (sealO x)).heap.size=_; simp
 have hz:=hs.size
 have hrow:w'.heap[W6.heap.size]?=some zero6:=(hs.block _ (by omega)).trans ((blk_alloc_lt _ _ _ (by simp)).trans (heap_alloc_new W6 zero6))
 rw [h0] at ho hz
 have s1:W6.Since W6.heap.size w':=((((World.Since.refl _ W6).alloc (Nat.le_refl _) zero6).alloc (by simp) (sealO x)).drew).trans (zJ9 hs (by omega))
 have o0:=own_seal (W6.alloc zero6) x (B:=W6.heap.size) (by simp)
 rw [show (W6.alloc zero6).heap.size=W6.heap.size+1 by simp] at o0
 have o1:w'.ownsRow W6.heap.size 3 1 _ 1 _:=own_keep (w:=((W6.alloc zero6).alloc (sealO x)).drew) o0 hs
 exact⟨sixW_since s1 (by omega),sixW_row _ _ _ _ _ _ hrow,by omega,sixW_own o1 (by show some (W6.heap.size+1)≠_; intro e; have:=Option.some.inj e; omega),sixW_own (own_base ho (by omega)) (ob_ne ho (.inl (by omega))),by omega,ob_ne ho (.inl (by omega)),ob_ne ho (.inl (by omega))⟩
theorem NB6 {W6 w':World}{vc:Value}{x:BevR}(ho:w'.ownsRow (W6.alloc zero6).drew.heap.size 3 1 vc x.cands.length (intZ x.cands)) (hs:(W6.alloc zero6).drew.Since (W6.alloc zero6).drew.heap.size w') :
  NewBag W6 ((sixW w' W6.heap.size (.int .i64 x.bag) (.int .i64 x.frm) (.bool false) (.slice (some ⟨w'.heap.size,0,none⟩) 1 1) vc (.slice none 0 0)).alloc (sealO x)) W6.heap.size w'.heap.size vc x:=by
 have h0:(W6.alloc zero6).drew.heap.size=W6.heap.size+1:=by show (W6.alloc zero6).heap.size=_; simp
 have hz:=hs.size
 have hrow:w'.heap[W6.heap.size]?=some zero6:=(hs.block _ (by omega)).trans (heap_alloc_new W6 zero6)
 rw [h0] at ho hz
 have s1:W6.Since W6.heap.size w':=(((World.Since.refl _ W6).alloc (Nat.le_refl _) zero6).drew).trans (zJ9 hs (by omega))
 have hsz:=sixW_size w' W6.heap.size (.int .i64 x.bag) (.int .i64 x.frm) (.bool false) (.slice (some ⟨w'.heap.size,0,none⟩) 1 1) vc (.slice none 0 0)
 have o0:=own_seal (sixW w' W6.heap.size (.int .i64 x.bag) (.int .i64 x.frm) (.bool false) (.slice (some ⟨w'.heap.size,0,none⟩) 1 1) vc (.slice none 0 0)) x (B:=W6.heap.size) (by rw [hsz]; omega)
 rw [hsz] at o0
 exact⟨(sixW_since s1 (by omega)).alloc (by rw [hsz]; omega) _,(blk_alloc_lt _ _ _ (by rw [hsz]; omega)).trans (sixW_row _ _ _ _ _ _ hrow),by omega,o0,own_alloc (sixW_own (own_base ho (by omega)) (ob_ne ho (.inl (by omega)))) _,by omega,ob_ne ho (.inr (Nat.le_refl _)),ob_ne ho (.inl (by omega))⟩
end Go.Proofs
namespace Go.Proofs
open Go.RowKit Go.LS Go.Deep Go.Sort
set_option linter.all false
theorem FamI.ins {w:World}{B:Nat}{P M S:List (Value×List Int)}(h:FamI w B (P++S)) (hm:FamI w B M) (ha:∀p∈P++S,∀q∈M,apart p.1 q.1):FamI w B (P++M++S):=by
 refine⟨fun p hp=>?_,?_⟩
 ·rcases List.mem_append.1 hp with h1 | h1
  ·rcases List.mem_append.1 h1 with h1 | h1
   ·exact h.own p (by simp [h1])
   ·exact hm.own p h1
  ·exact h.own p (by simp [h1])
 ·have h0:=h.ap
  rw [List.pairwise_append] at h0
  obtain⟨a1,a2,a3⟩:=h0
  rw [List.pairwise_append,List.pairwise_append]
  refine⟨⟨a1,hm.ap,fun p hp q hq=>ha p (by simp [hp]) q hq⟩,a2,fun p hp q hq=>?_⟩
  rcases List.mem_append.1 hp with h1 | h1
  ·exact a3 p h1 q hq
  ·exact (ha q (by simp [hq]) p h1).symm
theorem own_one {w:World}{B e size n:Nat}{v:Value}{xs:List Value}(h:w.ownsRow B e size v n xs):v.oneCell'=true:=by
 obtain⟨a,c,rfl,-⟩:=own_form h; rfl
theorem cellsN_one {w:World}{B:Nat}{l:List BagN}(h:FamI w B (famN l)):∀u∈cellsN l,u.oneCell'=true:=fun u hu=>by
 unfold cellsN at hu
 obtain⟨y,hy,hu⟩:=List.mem_flatMap.1 hu
 have hf:∀p∈y.fam,p.1.oneCell'=true:=fun p hp=>own_one (h.own p (List.mem_flatMap.2 ⟨y,hy,hp⟩))
 simp only [BagN.cells,List.mem_cons,List.not_mem_nil,or_false] at hu
 rcases hu with rfl | rfl | rfl | rfl | rfl | rfl
 ·rfl
 ·rfl
 ·rfl
 ·exact hf (_,y.seals) (by simp [BagN.fam])
 ·exact hf (_,y.packed) (by simp [BagN.fam])
 ·exact hf (_,y.found) (by simp [BagN.fam])
theorem apart_grown {v v' u:Value}{g H:Nat}(hv:apart v u) (hg:v'.ownBlock=some g) (hat:v.ownBlock=some g∨g=H) (hu:∀j,u.ownBlock=some j→j<H):apart v' u:=by
 cases hu':u.ownBlock with
 | none=>exact .inr (.inl hu')
 | some j=>
  refine .inr (.inr ?_)
  rw [hg,hu']
  intro e
  have e:=Option.some.inj e
  rcases hat with h | h
  ·rcases hv with h1 | h1 | h1
   ·rw [h1] at h; cases h
   ·rw [h1] at hu'; cases hu'
   ·rw [h,hu'] at h1; exact h1 (by rw [e])
  ·have:=hu j hu'; omega
set_option maxHeartbeats 4000000 in
theorem Tryz.insNew {w W5 W6 X:World}{v vc:Value}{l:List BagN}{n place q sb:Nat}{x:BevR}(hNx:NextW W5 W6 W5.heap.size v l 0) (hlen:l.length=n) (hn:n≤250) (hpl:place≤n) (hw:w.Since w.heap.size W5) (hNB:NewBag W6 X q sb vc x) :
  Calls Tryz.prog 70 #[v,.int .i64 (place:Int),.slice (some ⟨X.heap.size,0,none⟩) 1 1] (X.alloc (bagO x sb vc)) fun e w'=>∃v' l',e = .returned v'∧l'.map BagN.log=(l.map BagN.log).take place++[(x.bag,x.frm,false,[x.sealQ],x.cands,[])]++(l.map BagN.log).drop place∧NextW w w' w.heap.size v' l' 0:=by
 have sX:W6.Since W6.heap.size (X.alloc (bagO x sb vc)):=hNB.since.alloc hNB.since.size _
 have hNX:=hNx.keep sX
 have oX:=hNX.own
 simp only [List.replicate_zero,List.append_nil,Nat.add_zero] at oX
 rw [hlen] at oX
 have o6:=hNx.own
 have hv6:∀k,v.ownBlock=some k→k<W6.heap.size:=fun k hk=>(o6.lt k hk).2
 have hz6:W6.heap.size≤X.heap.size:=hNB.since.size
 have hU:(X.alloc (bagO x sb vc)).heap.size=X.heap.size+1:=by simp
 obtain⟨y,hy⟩:∃y:BagN,y=⟨x.bag,x.frm,false,.slice (some ⟨sb,0,none⟩) 1 1,vc,.slice none 0 0,[x.sealQ],x.cands,[]⟩:=⟨_,rfl⟩
 have hyc:y.cells=[.int .i64 x.bag,.int .i64 x.frm,.bool false,.slice (some ⟨sb,0,none⟩) 1 1,vc,.slice none 0 0]:=by rw [hy]; rfl
 have hyo:∀u∈y.cells,u.oneCell'=true:=by
  rw [hyc]
  intro u hu
  simp only [List.mem_cons,List.not_mem_nil,or_false] at hu
  rcases hu with rfl | rfl | rfl | rfl | rfl | rfl
  ·rfl
  ·rfl
  ·rfl
  ·rfl
  ·exact own_one hNB.cand
  ·rfl
 refine (Tryz.InsertB_walk W5.heap.size v n (cellsN l) X.heap.size y.cells place _ (by omega) hpl oX hNX.le (fun e=>by have:=hv6 _ e; omega) (by rw [hyc]; exact heap_alloc_new X _) (by rw [hyc]; rfl) (cellsN_one hNX.fam) hyo).mono ?_
 rintro e w' ⟨g,cap,rfl,hown,hgrow,hat⟩
 have hl':cellsN (l.take place++[y]++l.drop place)=(cellsN l).take (place*6)++y.cells++(cellsN l).drop (place*6):=by
  rw [cellsN_app,cellsN_app]
  congr 1
  ·congr 1
   exact (flat_take BagN.cells 6 (fun _=>rfl) l place).symm
  ·exact (flat_drop BagN.cells 6 (fun _=>rfl) l place).symm
 have hlen':(l.take place++[y]++l.drop place).length=n+1:=by simp; omega
 have hfl:famN (l.take place++[y]++l.drop place)=famN (l.take place)++y.fam++famN (l.drop place):=by rw [famN_app,famN_app]; congr 2
 have hsp:famN l=famN (l.take place)++famN (l.drop place):=by rw [← famN_app,List.take_append_drop]
 have hyf:y.fam=[(.slice (some ⟨sb,0,none⟩) 1 1,[x.sealQ]),(vc,x.cands),(.slice none 0 0,[])]:=by rw [hy]; rfl
 have sb6:W6.heap.size≤sb:=(hNB.sealQ.lt sb rfl).1
 have hcl:=hNB.cand.lt
 have ky:∀p∈y.fam,p.1.ownBlock=none∨(∃k,p.1.ownBlock=some k∧W6.heap.size≤k∧k<X.heap.size):=by
  rw [hyf]
  intro p hp
  simp only [List.mem_cons,List.not_mem_nil,or_false] at hp
  rcases hp with rfl | rfl | rfl
  ·exact .inr ⟨sb,rfl,sb6,(hNB.sealQ.lt sb rfl).2⟩
  ·cases h:vc.ownBlock with
   | none=>exact .inl rfl
   | some k=>exact .inr ⟨k,rfl,hcl k h⟩
  ·exact .inl rfl
 have Fy:FamI X W6.heap.size y.fam:=by
  rw [hyf]
  refine⟨fun p hp=>?_,?_⟩
  ·simp only [List.mem_cons,List.not_mem_nil,or_false] at hp
   rcases hp with rfl | rfl | rfl
   ·exact hNB.sealQ
   ·exact hNB.cand
   ·exact World.ownsRow_nil _ _ _ _
  ·simp only [List.pairwise_cons,List.mem_cons,List.not_mem_nil,or_false]
   refine⟨fun p hp=>?_,fun p hp=>?_,fun p hp=>(nomatch hp),List.Pairwise.nil⟩
   ·rcases hp with rfl | rfl
    ·exact .inr (.inr (fun e=>hNB.n2 e.symm))
    ·exact .inr (.inl rfl)
   ·subst hp; exact .inr (.inl rfl)
 have FyU:=Fy.since ((World.Since.refl _ X).alloc (Nat.le_refl _) (bagO x sb vc))
 have kyv:∀p∈y.fam,p.1.ownBlock=none∨p.1.ownBlock≠v.ownBlock:=fun p hp=>by
  rcases ky p hp with h | ⟨k,h,h1,h2⟩
  ·exact .inl h
  ·refine .inr fun e=>?_
   rw [h] at e
   have:=hv6 k e.symm; omega
 have klv:∀p∈famN l,p.1.ownBlock=none∨p.1.ownBlock≠v.ownBlock:=fun p hp=>by
  rcases hNX.ap p hp with h | h | h
  ·rw [h]; cases p.1.ownBlock <;> simp
  ·exact .inl h
  ·exact .inr (Ne.symm h)
 have F1:FamI w' W5.heap.size (famN l):=hNX.fam.kept hgrow klv
 have F2:FamI w' W5.heap.size y.fam:=(FyU.kept hgrow kyv).base hNx.le
 have l6:∀p∈famN l,∀k,p.1.ownBlock=some k→k<W6.heap.size:=fun p hp k hk=>(hNx.fam.lt p hp k hk).2
 have Fall:FamI w' W5.heap.size (famN (l.take place++[y]++l.drop place)):=by
  rw [hfl]
  refine FamI.ins (by rw [← hsp]; exact F1) F2 fun p hp q hq=>?_
  rw [← hsp] at hp
  rcases ky q hq with h | ⟨k,h,h1,h2⟩
  ·exact .inr (.inl h)
  ·cases hp':p.1.ownBlock with
   | none=>exact .inl hp'
   | some j=>
    refine .inr (.inr ?_)
    rw [hp',h]
    intro e
    have:=l6 p hp j hp'
    have:=Option.some.inj e; omega
 have sw':W5.Since W5.heap.size w':=hNX.since.grown hgrow hNX.le fun k hk=>(oX.lt k hk).1
 refine⟨_,l.take place++[y]++l.drop place,rfl,?_,?_⟩
 ·rw [List.map_append,List.map_append,List.map_take,List.map_drop,List.map_singleton,hy]
  rfl
 ·have hN:NextW W5 w' W5.heap.size (.slice (some ⟨g,0,none⟩) (n+1) cap) (l.take place++[y]++l.drop place) 0:=by
   refine⟨sw',Nat.le_trans hNX.le hgrow.size,?_,Fall,fun p hp=>?_⟩
   ·simp only [List.replicate_zero,List.append_nil,Nat.add_zero]
    rw [hlen',hl']; exact hown
   ·rw [hfl] at hp
    have hlt:∀j,p.1.ownBlock=some j→j<(X.alloc (bagO x sb vc)).heap.size:=fun j hj=>by
     rcases List.mem_append.1 hp with h1 | h1
     ·rcases List.mem_append.1 h1 with h1 | h1
      ·have:=l6 p (by rw [hsp]; simp [h1]) j hj; omega
      ·rcases ky p h1 with h | ⟨k,h,h2,h3⟩
       ·rw [h] at hj; cases hj
       ·rw [h] at hj; have:=Option.some.inj hj; omega
     ·have:=l6 p (by rw [hsp]; simp [h1]) j hj; omega
    refine apart_grown (v:=v) ?_ rfl hat hlt
    rcases List.mem_append.1 hp with h1 | h1
    ·rcases List.mem_append.1 h1 with h1 | h1
     ·exact hNX.ap p (by rw [hsp]; simp [h1])
     ·rcases kyv p h1 with h | h
      ·exact .inr (.inl h)
      ·exact .inr (.inr (Ne.symm h))
    ·exact hNX.ap p (by rw [hsp]; simp [h1])
  exact (hN.base hw.size).from' hw
end Go.Proofs
namespace Go.Proofs
open Go.RowKit Go.LS Go.Deep Go.Sort
set_option linter.all false
def condZ (A:Nat):List Value:=[.int .i64 2,fnAt 63 #[ptrAt A],.int .i64 28,fnAt 65 #[ptrAt A]]
def newZ (p:Nat):List Value:=[.int .i64 8,fnAt 91 #[ptrAt (p+1)],.int .i64 5,fnAt 92 #[ptrAt (p+2)],.int .i64 9,fnAt 93 #[ptrAt p,ptrAt (p+1)],.int .i64 3,fnAt 99 #[ptrAt p]]
def oldZ (p:Nat):List Value:=[.int .i64 4,fnAt 100 #[ptrAt (p+3)],.int .i64 8,fnAt 101 #[ptrAt p,ptrAt (p+2),ptrAt (p+1)],.int .i64 9,fnAt 102 #[ptrAt (p+1),ptrAt p,ptrAt (p+2)],.int .i64 3,fnAt 103 #[ptrAt (p+1),ptrAt p,ptrAt (p+2)]]
theorem condsN {w:World}{B g c A p:Nat}(h:w.ownsRow B 130 2 (.slice (some ⟨g,0,none⟩) 6 c) 6 (condZ A++newZ p)):∀i,i<6→w.cell? ⟨g,i*2,none⟩=some (.int .i64 (codeN i))∧w.cell? ⟨g,i*2+1,none⟩=some (fnAt (gN i) (capsN A p i)):=fun i hi=>by
 rw [h.cellAt (i*2) (by omega),h.cellAt (i*2+1) (by omega)]
 match i,hi with
 | 0,_ | 1,_ | 2,_ | 3,_ | 4,_ | 5,_=>exact⟨rfl,rfl⟩
theorem condsO {w:World}{B g c A p:Nat}(h:w.ownsRow B 130 2 (.slice (some ⟨g,0,none⟩) 6 c) 6 (condZ A++oldZ p)):∀i,i<6→w.cell? ⟨g,i*2,none⟩=some (.int .i64 (codeO i))∧w.cell? ⟨g,i*2+1,none⟩=some (fnAt (gO i) (capsO A p i)):=fun i hi=>by
 rw [h.cellAt (i*2) (by omega),h.cellAt (i*2+1) (by omega)]
 match i,hi with
 | 0,_ | 1,_ | 2,_ | 3,_ | 4,_ | 5,_=>exact⟨rfl,rfl⟩
theorem newsN {w:World}{r p:Nat}(h:∀i,i<4→w.cell? ⟨r,i*2,none⟩=some (.int .i64 (codeN (i+2)))∧w.cell? ⟨r,i*2+1,none⟩=some (fnAt (gN (i+2)) (capsN 0 p (i+2)))):∀j u,(newZ p)[j]?=some u→w.cell? ((⟨r,0,none⟩:Addr).add j)=some u:=fun j u hj=>by
 rw [Addr.add_lit]
 match j,hj with
 | 0,hj=>cases hj; exact (h 0 (by omega)).1
 | 1,hj=>cases hj; exact (h 0 (by omega)).2
 | 2,hj=>cases hj; exact (h 1 (by omega)).1
 | 3,hj=>cases hj; exact (h 1 (by omega)).2
 | 4,hj=>cases hj; exact (h 2 (by omega)).1
 | 5,hj=>cases hj; exact (h 2 (by omega)).2
 | 6,hj=>cases hj; exact (h 3 (by omega)).1
 | 7,hj=>cases hj; exact (h 3 (by omega)).2
 | j+8,hj=>simp [newZ] at hj
theorem newsO {w:World}{r p:Nat}(h:∀i,i<4→w.cell? ⟨r,i*2,none⟩=some (.int .i64 (codeO (i+2)))∧w.cell? ⟨r,i*2+1,none⟩=some (fnAt (gO (i+2)) (capsO 0 p (i+2)))):∀j u,(oldZ p)[j]?=some u→w.cell? ((⟨r,0,none⟩:Addr).add j)=some u:=fun j u hj=>by
 rw [Addr.add_lit]
 match j,hj with
 | 0,hj=>cases hj; exact (h 0 (by omega)).1
 | 1,hj=>cases hj; exact (h 0 (by omega)).2
 | 2,hj=>cases hj; exact (h 1 (by omega)).1
 | 3,hj=>cases hj; exact (h 1 (by omega)).2
 | 4,hj=>cases hj; exact (h 2 (by omega)).1
 | 5,hj=>cases hj; exact (h 2 (by omega)).2
 | 6,hj=>cases hj; exact (h 3 (by omega)).1
 | 7,hj=>cases hj; exact (h 3 (by omega)).2
 | j+8,hj=>simp [oldZ] at hj
theorem newZ_one (p:Nat):∀u∈newZ p,u.oneCell'=true:=fun u hu=>by
 simp only [newZ,List.mem_cons,List.not_mem_nil,or_false] at hu
 rcases hu with rfl | rfl | rfl | rfl | rfl | rfl | rfl | rfl <;> rfl
theorem oldZ_one (p:Nat):∀u∈oldZ p,u.oneCell'=true:=fun u hu=>by
 simp only [oldZ,List.mem_cons,List.not_mem_nil,or_false] at hu
 rcases hu with rfl | rfl | rfl | rfl | rfl | rfl | rfl | rfl <;> rfl
def ZeroAt (w:World) (q:Nat):Prop:=(w.cell? ⟨q,0,none⟩=some (.int .i64 0)∧w.cell? ⟨q,1,none⟩=some (.int .i64 0)∧w.cell? ⟨q,2,none⟩=some (.bool false)∧w.cell? ⟨q,3,none⟩=some (.slice none 0 0)∧w.cell? ⟨q,4,none⟩=some (.slice none 0 0)∧w.cell? ⟨q,5,none⟩=some (.slice none 0 0)) ∧
 w.frozen? ⟨q,0,none⟩=false∧w.frozen? ⟨q,1,none⟩=false∧w.frozen? ⟨q,2,none⟩=false∧w.frozen? ⟨q,3,none⟩=false∧w.frozen? ⟨q,4,none⟩=false∧w.frozen? ⟨q,5,none⟩=false
theorem zeroAt_of {w:World}{q:Nat}(h:w.heap[q]?=some (.cells #[.int .i64 0,.int .i64 0,.bool false,.slice none 0 0,.slice none 0 0,.slice none 0 0] 99 (0,0))):ZeroAt w q:=by
 refine⟨⟨cell_blk h 0,cell_blk h 1,cell_blk h 2,cell_blk h 3,cell_blk h 4,cell_blk h 5⟩,?_⟩
 have f:∀o,w.frozen? ⟨q,o,none⟩=false:=fun o=>by simp [World.frozen?,h]
 exact⟨f 0,f 1,f 2,f 3,f 4,f 5⟩
theorem zf {U w':World}(h:U.Since U.heap.size w') (q:Nat) (hb:U.heap[q]?=some (.cells #[.int .i64 0,.int .i64 0,.bool false,.slice none 0 0,.slice none 0 0,.slice none 0 0] 99 (0,0))):ZeroAt w' q:=
 zeroAt_of ((h.block q (Array.getElem?_eq_some_iff.1 hb).1).trans hb)
theorem zg1 (W:World) (s:Obj):((W.alloc s).alloc (.cells #[.int .i64 0,.int .i64 0,.bool false,.slice none 0 0,.slice none 0 0,.slice none 0 0] 99)).drew.heap[W.heap.size+1]?=some (.cells #[.int .i64 0,.int .i64 0,.bool false,.slice none 0 0,.slice none 0 0,.slice none 0 0] 99):=by
 have:=heap_alloc_new (W.alloc s) (.cells #[.int .i64 0,.int .i64 0,.bool false,.slice none 0 0,.slice none 0 0,.slice none 0 0] 99)
 rw [show (W.alloc s).heap.size=W.heap.size+1 by simp] at this
 exact this
theorem zg2 (W:World):(W.alloc (.cells #[.int .i64 0,.int .i64 0,.bool false,.slice none 0 0,.slice none 0 0,.slice none 0 0] 99)).drew.heap[W.heap.size]?=some (.cells #[.int .i64 0,.int .i64 0,.bool false,.slice none 0 0,.slice none 0 0,.slice none 0 0] 99):=heap_alloc_new W _
theorem zg3 (W:World) (s:Obj):((W.alloc (.cells #[.int .i64 0,.int .i64 0,.bool false,.slice none 0 0,.slice none 0 0,.slice none 0 0] 99)).alloc s).drew.heap[W.heap.size]?=some (.cells #[.int .i64 0,.int .i64 0,.bool false,.slice none 0 0,.slice none 0 0,.slice none 0 0] 99):=(blk_alloc_lt _ _ _ (by simp)).trans (heap_alloc_new W _)
abbrev Sees (w W6:World) (x:BevR) (W:World):Prop:=W.cell? ⟨w.heap.size,4,none⟩=some (.int .i64 x.bag)∧W.cell? ⟨w.heap.size,5,none⟩=some (.int .i64 x.sealQ)∧W.cell? ⟨w.heap.size,6,none⟩=some (.int .i64 x.frm)∧W.cell? ⟨w.heap.size,8,none⟩=some (.slice x.ca x.cn x.cc)∧W6.Since W6.heap.size W
theorem zQ9 {w w':World}{b o:Nat}{v:Value}(e:w'.heap[b]?=w.heap[b]?) (h:w.cell? ⟨b,o,none⟩=some v):w'.cell? ⟨b,o,none⟩=some v:=(World.cell?_of_block (a:=⟨b,o,none⟩) e).trans h
set_option maxHeartbeats 64000000 in
set_option maxRecDepth 100000 in
theorem Tryz.stepB_new (ao:Option Addr) (b o n cap place:Nat) (X:Nat→BagR) (x:BevR) (rng there:Bool) (w:World) (h:BagsW w ao b o n X) (hn:n≤250)
  (hX:∀i,i<n→(X i).sn≤1000∧(X i).pn≤1000∧(X i).fn≤1000) (hs:∀i,i<n→0<(X i).sn) (hc:SlW w x.ca x.cn x.cc x.cands) (hcn:x.cn≤1000) (hpl:place≤n) (hth:there=true→place<n) (hk:x.kind=1)
  (hq:∀W,w.Since w.heap.size W→Calls Tryz.prog 64 #[x.val] W fun e w'=>e = .returned (.bool rng)∧W.Since W.heap.size w')
  (hb:∀W,w.Since w.heap.size W→Calls Tryz.prog 61 #[.slice ao n cap,.int .i64 x.bag,.func (.func 62) #[] #[]] W fun e w'=>e = .returned (.tuple #[.int .i64 (place:Int),.bool there])∧W.Since W.heap.size w') :
  Calls Tryz.prog 37 #[.slice ao n cap,x.val] w (StepBPost (codeB rng there place n X x) (nextB ((List.range n).map fun i=>(X i).log) place x) w):=by
 obtain⟨i0,hi0,hz00,hz01,hz02⟩:=info_parts Tryz.info130
 obtain⟨P,hP⟩:∃P,P=StepBPost (codeB rng there place n X x) (nextB ((List.range n).map fun i=>(X i).log) place x) w:=⟨_,rfl⟩
 rw [← hP]
 have hA0:EvC (w.alloc (.cells x.cells.toArray 44)) w.heap.size x:=by
  have hblk:=heap_alloc_new w (.cells x.cells.toArray 44)
  exact⟨cell_blk hblk 0,cell_blk hblk 1,cell_blk hblk 2,cell_blk hblk 3,cell_blk hblk 4,cell_blk hblk 5,cell_blk hblk 6,cell_blk hblk 7,cell_blk hblk 8⟩
 have hb0:=hb _ ((World.Since.refl _ _).alloc (Nat.le_refl _) (.cells x.cells.toArray 44))
 have s0:w.Since w.heap.size (w.alloc (.cells x.cells.toArray 44)):=(World.Since.refl _ _).alloc (Nat.le_refl _) _
 have l0:w.heap.size<(w.alloc (.cells x.cells.toArray 44)).heap.size:=by simp
 have hW0:∃W0,W0=w.alloc (.cells x.cells.toArray 44):=⟨_,rfl⟩
 obtain⟨W0,hW0⟩:=hW0
 rw [← hW0] at hA0 hb0 s0 l0
 have HC:=Lib.hid (And.intro h (And.intro hc (And.intro hX (And.intro hs (And.intro hq (And.intro hP hth))))))
 have HK:=Lib.hid hk
 clear h hc hX hs hq hb hP hth hk
 unfold BevR.val BevR.cells at *
 have ⟨a0,a1,a2,a3,a4,a5,a6,a7,a8⟩:=hA0
 go_enter Tryz.func37,Tryz.ntmps37
 go_wp2_with fail
 rw [← hW0]
 refine hb0.mono ?_
 rintro e W1 ⟨rfl,s1⟩
 clear hb0 a0 a1 a2 a3 a4 a5 a6 a7 a8 hW0
 have hA1:=hA0.since s1
 have s1':=s0.trans (zJ9 s1 (by omega))
 have l1:=Nat.lt_of_lt_of_le l0 s1.size
 clear hA0 s0 l0 s1
 have ⟨a0,a1,a2,a3,a4,a5,a6,a7,a8⟩:=hA1
 ·have hk:=HK.out
  rw [hk] at a3
  have own2:=own_lit W1 (condZ w.heap.size).toArray 130 w.heap.size 2 2 (by omega) rfl (by unfold maxLen; omega)
  have s2:W1.Since W1.heap.size (W1.alloc (.cells (condZ w.heap.size).toArray 130)):=(World.Since.refl _ _).alloc (Nat.le_refl _) _
  have n2:(W1.alloc (.cells (condZ w.heap.size).toArray 130)).heap.size=W1.heap.size+1:=by simp
  have hN:=Tryz.newC_walk ao n cap x there (W1.alloc (.cells (condZ w.heap.size).toArray 130))
  unfold BevR.val at hN
  rw [hk] at hN
  go_wp2_with fail
  change Calls Tryz.prog 66 _ (W1.alloc (.cells (condZ w.heap.size).toArray 130)) _
  generalize W1.alloc (.cells (condZ w.heap.size).toArray 130)=W2 at *
  refine hN.mono ?_
  rintro e W4 ⟨rfl,hW4⟩
  rw [n2]
  obtain⟨t1,t2,t3,t4,t5,t6⟩:=newW_facts W2 ao n cap x there
  rw [← hW4] at t1 t2 t3 t4 t5 t6
  clear hW4 hN
  have own4:=own_keep own2 t1
  have hA4:=(hA1.since s2).since t1
  have s4:w.Since w.heap.size W4:=(s1'.trans (zJ9 s2 (by omega))).trans (zJ9 t1 (by omega))
  clear own2 s2 hA1 a0 a1 a2 a3 a4 a5 a6 a7 a8
  rw [n2] at t2 t3 t4 t5 t6
  clear n2
  have T:=Lib.hid (And.intro t1 (And.intro t3 (And.intro t4 (And.intro t5 (And.intro t6 (And.intro hA4 s4))))))
  have hnews:=newsN t6
  have hbase:w.heap.size≤W4.heap.size:=s4.size
  clear t1 t3 t4 t5 t6 hA4 s4
  go_wp2_with (at_builtin; refine wpList_append_lies _ rfl (.tmp 27) (.tmp 31) 131 rfl w.heap.size 130 i0 (.agg #[.int .i64 0,.nilFunc]) 2 16 Tryz.underlying131 hi0 hz00 hz01 hz02 rfl (by decide) _ _ _ rfl own4 ⟨W1.heap.size+1+3,0,none⟩ 4 4 (newZ (W1.heap.size+1)) rfl rfl hnews (newZ_one _) (by omega) (by unfold maxLen; omega) (by omega) hbase _ rfl ?_; intro gg ncap wA hownA hgrow hat hlt2)
  obtain⟨t1,t3,t4,t5,t6,hA4,s4⟩:=T.out
  obtain⟨hB,hcs,hX,hs,hq,hP,hth⟩:=HC.out
  clear T HC hnews hbase own4
  have sA:w.Since w.heap.size wA:=s4.grown hgrow s4.size (fun k hk=>by cases hk; show w.heap.size≤W1.heap.size; omega)
  have hblk:∀k,k<W4.heap.size→k≠W1.heap.size→wA.heap[k]?=W4.heap[k]?:=fun k h1 h2=>hgrow.block k h1 (fun e=>h2 (Option.some.inj e))
  have hcnd:CndW wA w.heap.size (W1.heap.size+1) x ao b o n cap X:=
   ⟨hA4.of_block (hblk _ (by omega) (by omega)),(World.cell?_of_block (a:=⟨W1.heap.size+1,0,none⟩) (hblk _ (by show W1.heap.size+1<_; omega) (by show W1.heap.size+1≠_; omega))).trans t3,t4.of_block (hblk _ (by omega) (by omega)),hB.since sA,hcs.since (B:=0) sA⟩
  have ht:=(World.cell?_of_block (w:=W4) (w':=wA) (a:=⟨W1.heap.size+1+2,0,none⟩) (hblk _ (by show W1.heap.size+1+2<_; omega) (by show W1.heap.size+1+2≠_; omega))).trans t5
  have hF:=Tryz.firstN_walk w.heap.size (W1.heap.size+1) gg ncap x ao b o n cap X rng there wA hcnd ht (by omega) (fun i hi=>⟨(hX i hi).1,(hX i hi).2.1⟩) hcn hlt2 (condsN hownA) (fun W hW=>hq W (sA.trans (zJ9 hW sA.size)))
  have hcode:codeB rng there place n X x=firstP codeN (holdN rng there n X x) 6 0:=if_pos hk
  rw [hcode] at hP
  clear hcode hownA hgrow hat ht t1 t3 t4 t5 t6 hA4 s4 hblk hq
  generalize firstP codeN (holdN rng there n X x) 6 0=cd at *
  refine hF.mono ?_
  rintro e W5 ⟨rfl,s5⟩
  have s5':=sA.trans (zJ9 s5 sA.size)
  have hA5:=hcnd.e.since s5
  clear hF hcnd
  by_cases hcd:cd=0
  ·subst hcd
   have hCl:=Tryz.cloneBags_walk ao b o n cap X W5 (hB.since s5') (by omega) hX
   have HC:=Lib.hid (And.intro hB (And.intro hcs (And.intro hX (And.intro hs (And.intro hP hth)))))
   clear hB hcs hX hs hP hth sA s5
   go_wp2_with fail
   refine hCl.mono ?_
   rintro e W6 ⟨v,l,rfl,hlen,hsame,hNx⟩
   have hA6:=hA5.since hNx.since
   have s6:=s5'.trans (zJ9 hNx.since s5'.size)
   have HN:=Lib.hid (And.intro hlen (And.intro hsame hNx))
   clear hCl hA5 hlen hsame hNx
   have ⟨a0,a1,a2,a3,a4,a5,a6,a7,a8⟩:=hA6
   rw [hk] at a3
   go_wp2_with fail
   have hcl:∀W,W6.Since W6.heap.size W→Calls Tryz.prog 60 #[.slice x.ca x.cn x.cc] W fun e w'=>∃ac kc,e = .returned (.slice ac x.cands.length kc)∧w'.ownsRow W.heap.size 3 1 (.slice ac x.cands.length kc) x.cands.length (intZ x.cands)∧W.Since W.heap.size w':=fun W hW=>
    (Tryz.CloneI_walk _ _ _ _ W hcn (HC.out.2.1.since (B:=0) (s6.trans (zJ9 hW s6.size)))).mono (by
     rintro e w' ⟨v',rfl,h1,h2⟩
     obtain⟨ac,kc,rfl,-⟩:=own_form h1
     exact⟨ac,kc,rfl,h1,h2⟩)
   have hA6w:w.heap.size<W6.heap.size:=World.block_lt_of_cell? W6 _ a0
   have hInit:Sees w W6 x W6.drew:=⟨a4,a5,a6,a8,(World.Since.refl _ W6).drew⟩
   have hInit':Sees w W6 x W6:=⟨a4,a5,a6,a8,World.Since.refl _ W6⟩
   clear hA6 a0 a1 a2 a3 a7
   have hnw:¬ (w.heap.size=W6.heap.size):=by omega
   have hnw1:¬ (w.heap.size=W6.heap.size+1):=by omega
   have hnw':¬ (W6.heap.size=w.heap.size):=by omega
   have hnw1':¬ (W6.heap.size+1=w.heap.size):=by omega
   have hI0:W6.Since W6.heap.size W6.drew:=(World.Since.refl _ W6).drew
   have hI1:∀o,W6.Since W6.heap.size (W6.alloc o).drew:=fun o=>((World.Since.refl _ W6).alloc (Nat.le_refl _) o).drew
   have hI2:∀o o',W6.Since W6.heap.size ((W6.alloc o).alloc o').drew:=fun o o'=>(((World.Since.refl _ W6).alloc (Nat.le_refl _) o).alloc (by simp) o').drew
   go_region_held3 (fun w'=>w'.cell? ⟨w.heap.size,4,none⟩=some (.int .i64 x.bag)∧w'.cell? ⟨w.heap.size,5,none⟩=some (.int .i64 x.sealQ)∧w'.cell? ⟨w.heap.size,6,none⟩=some (.int .i64 x.frm)∧w'.cell? ⟨w.heap.size,8,none⟩=some (.slice x.ca x.cn x.cc))
    (first | (with_reducible exact⟨a4,a5,a6,a8⟩) | (with_reducible exact⟨b4,b5,b6,b8⟩) | (go_keep))
    (first | (go_at_call 60; obtain⟨b4,b5,b6,b8⟩:=‹_∧_›; (with_reducible refine (hcl _ (by first | (with_reducible exact hI0) | (with_reducible exact hI1 _) | (with_reducible exact hI2 _ _))).mono ?_); rintro e w' ⟨ac,kc,rfl,ho',hs'⟩; have b4:=cell_since hs' b4; have b5:=cell_since hs' b5; have b6:=cell_since hs' b6; have b8:=cell_since hs' b8; have m4:=World.new_ne w' _ b4; first | (have F:=zf hs' (W6.heap.size+1) (zg1 _ _); obtain⟨⟨z0,z1,z2,z3,z4,z5⟩,y0,y1,y2,y3,y4,y5⟩:=F; have zl:=World.block_lt_of_cell? w' _ z0; have n0:=World.new_ne w' _ z0; have n1:=World.new_ne w' _ z1; have n2:=World.new_ne w' _ z2; have n3:=World.new_ne w' _ z3; have n4:=World.new_ne w' _ z4; have n5:=World.new_ne w' _ z5; have zn:=Nat.ne_of_lt zl; have zk:=Nat.ne_of_gt zl) | (have F:=zf hs' W6.heap.size (zg2 _); obtain⟨⟨z0,z1,z2,z3,z4,z5⟩,y0,y1,y2,y3,y4,y5⟩:=F; have zl:=World.block_lt_of_cell? w' _ z0; have n0:=World.new_ne w' _ z0; have n1:=World.new_ne w' _ z1; have n2:=World.new_ne w' _ z2; have n3:=World.new_ne w' _ z3; have n4:=World.new_ne w' _ z4; have n5:=World.new_ne w' _ z5; have zn:=Nat.ne_of_lt zl; have zk:=Nat.ne_of_gt zl) | (have F:=zf hs' W6.heap.size (zg3 _ _); obtain⟨⟨z0,z1,z2,z3,z4,z5⟩,y0,y1,y2,y3,y4,y5⟩:=F; have zl:=World.block_lt_of_cell? w' _ z0; have n0:=World.new_ne w' _ z0; have n1:=World.new_ne w' _ z1; have n2:=World.new_ne w' _ z2; have n3:=World.new_ne w' _ z3; have n4:=World.new_ne w' _ z4; have n5:=World.new_ne w' _ z5; have zn:=Nat.ne_of_lt zl; have zk:=Nat.ne_of_gt zl) | skip))
   ·have NB:=NB1 (x:=x) ho' hs'
    obtain⟨Y,hY⟩:∃Y,Y=w'.alloc (bagO x W6.heap.size (.slice ac x.cands.length kc)):=⟨_,rfl⟩
    rw [← hY] at NB
    unfold bagO at hY
    rw [← hY]
    obtain⟨hlen,hsame,hNx⟩:=HN.out
    have hI:=Tryz.insNew hNx hlen hn hpl s5' NB
    rw [map_log hlen hsame] at hI
    have hrow:=NB.row
    have c0:=cell_blk hrow 0; have c1:=cell_blk hrow 1; have c2:=cell_blk hrow 2; have c3:=cell_blk hrow 3; have c4:=cell_blk hrow 4; have c5:=cell_blk hrow 5
    simp only [List.getElem?_toArray,List.getElem?_cons_zero,List.getElem?_cons_succ] at c0 c1 c2 c3 c4 c5
    have HP:=Lib.hid HC.out.2.2.2.2.1
    unfold bagO at hI
    clear ho' hs' hY NB hrow hlen hsame hNx HN HC hcl
    go_wp2_with fail
    refine hI.mono ?_
    rintro e w7 ⟨v',l',rfl,hm,hN'⟩
    have hfin:P (.returned (.tuple #[v',.int .i64 0])) w7:=by
     rw [HP.out]
     exact .inr ⟨rfl,v',l',rfl,by rw [hm]; unfold nextB; rw [if_pos hk],hN'⟩
    have HF:=Lib.hid hfin
    clear hfin hm hN' hI HP
    go_wp2
    exact HF.out
   ·have NB:=NB2 (x:=x) ho' hs'
    obtain⟨Y,hY⟩:∃Y,Y=sixW w' (W6.heap.size+1) (.int .i64 x.bag) (.int .i64 x.frm) (.bool false) (.slice (some ⟨W6.heap.size,0,none⟩) 1 1) (.slice ac x.cands.length kc) (.slice none 0 0):=⟨_,rfl⟩
    rw [← hY] at NB
    unfold sixW at hY
    rw [← hY]
    obtain⟨hlen,hsame,hNx⟩:=HN.out
    have hI:=Tryz.insNew hNx hlen hn hpl s5' NB
    rw [map_log hlen hsame] at hI
    have hrow:=NB.row
    have c0:=cell_blk hrow 0; have c1:=cell_blk hrow 1; have c2:=cell_blk hrow 2; have c3:=cell_blk hrow 3; have c4:=cell_blk hrow 4; have c5:=cell_blk hrow 5
    simp only [List.getElem?_toArray,List.getElem?_cons_zero,List.getElem?_cons_succ] at c0 c1 c2 c3 c4 c5
    have HP:=Lib.hid HC.out.2.2.2.2.1
    unfold bagO at hI
    clear ho' hs' hY NB hrow hlen hsame hNx HN HC hcl
    go_wp2_with fail
    refine hI.mono ?_
    rintro e w7 ⟨v',l',rfl,hm,hN'⟩
    have hfin:P (.returned (.tuple #[v',.int .i64 0])) w7:=by
     rw [HP.out]
     exact .inr ⟨rfl,v',l',rfl,by rw [hm]; unfold nextB; rw [if_pos hk],hN'⟩
    have HF:=Lib.hid hfin
    clear hfin hm hN' hI HP
    go_wp2
    exact HF.out
   ·have NB:=NB3 (x:=x) ho' hs'
    obtain⟨Y,hY⟩:∃Y,Y=(w'.alloc (sealO x)).alloc (bagO x w'.heap.size (.slice ac x.cands.length kc)):=⟨_,rfl⟩
    rw [← hY] at NB
    unfold bagO sealO at hY
    rw [← hY]
    obtain⟨hlen,hsame,hNx⟩:=HN.out
    have hI:=Tryz.insNew hNx hlen hn hpl s5' NB
    rw [map_log hlen hsame] at hI
    have hrow:=NB.row
    have c0:=cell_blk hrow 0; have c1:=cell_blk hrow 1; have c2:=cell_blk hrow 2; have c3:=cell_blk hrow 3; have c4:=cell_blk hrow 4; have c5:=cell_blk hrow 5
    simp only [List.getElem?_toArray,List.getElem?_cons_zero,List.getElem?_cons_succ] at c0 c1 c2 c3 c4 c5
    have HP:=Lib.hid HC.out.2.2.2.2.1
    unfold bagO at hI
    clear ho' hs' hY NB hrow hlen hsame hNx HN HC hcl
    go_wp2_with fail
    refine hI.mono ?_
    rintro e w7 ⟨v',l',rfl,hm,hN'⟩
    have hfin:P (.returned (.tuple #[v',.int .i64 0])) w7:=by
     rw [HP.out]
     exact .inr ⟨rfl,v',l',rfl,by rw [hm]; unfold nextB; rw [if_pos hk],hN'⟩
    have HF:=Lib.hid hfin
    clear hfin hm hN' hI HP
    go_wp2
    exact HF.out
   ·have NB:=NB4 (x:=x) ho' hs'
    obtain⟨Y,hY⟩:∃Y,Y=(w'.alloc (bagO x (w'.heap.size+1) (.slice ac x.cands.length kc))).alloc (sealO x):=⟨_,rfl⟩
    rw [← hY] at NB
    unfold bagO sealO at hY
    rw [← hY]
    obtain⟨hlen,hsame,hNx⟩:=HN.out
    have hI:=Tryz.insNew hNx hlen hn hpl s5' NB
    rw [map_log hlen hsame] at hI
    have hrow:=NB.row
    have c0:=cell_blk hrow 0; have c1:=cell_blk hrow 1; have c2:=cell_blk hrow 2; have c3:=cell_blk hrow 3; have c4:=cell_blk hrow 4; have c5:=cell_blk hrow 5
    simp only [List.getElem?_toArray,List.getElem?_cons_zero,List.getElem?_cons_succ] at c0 c1 c2 c3 c4 c5
    have HP:=Lib.hid HC.out.2.2.2.2.1
    unfold bagO at hI
    clear ho' hs' hY NB hrow hlen hsame hNx HN HC hcl
    go_wp2_with fail
    refine hI.mono ?_
    rintro e w7 ⟨v',l',rfl,hm,hN'⟩
    have hfin:P (.returned (.tuple #[v',.int .i64 0])) w7:=by
     rw [HP.out]
     exact .inr ⟨rfl,v',l',rfl,by rw [hm]; unfold nextB; rw [if_pos hk],hN'⟩
    have HF:=Lib.hid hfin
    clear hfin hm hN' hI HP
    go_wp2
    exact HF.out
   ·have NB:=NB5 (x:=x) ho' hs'
    obtain⟨Y,hY⟩:∃Y,Y=sixW w' W6.heap.size (.int .i64 x.bag) (.int .i64 x.frm) (.bool false) (.slice (some ⟨W6.heap.size+1,0,none⟩) 1 1) (.slice ac x.cands.length kc) (.slice none 0 0):=⟨_,rfl⟩
    rw [← hY] at NB
    unfold sixW at hY
    rw [← hY]
    obtain⟨hlen,hsame,hNx⟩:=HN.out
    have hI:=Tryz.insNew hNx hlen hn hpl s5' NB
    rw [map_log hlen hsame] at hI
    have hrow:=NB.row
    have c0:=cell_blk hrow 0; have c1:=cell_blk hrow 1; have c2:=cell_blk hrow 2; have c3:=cell_blk hrow 3; have c4:=cell_blk hrow 4; have c5:=cell_blk hrow 5
    simp only [List.getElem?_toArray,List.getElem?_cons_zero,List.getElem?_cons_succ] at c0 c1 c2 c3 c4 c5
    have HP:=Lib.hid HC.out.2.2.2.2.1
    unfold bagO at hI
    clear ho' hs' hY NB hrow hlen hsame hNx HN HC hcl
    go_wp2_with fail
    refine hI.mono ?_
    rintro e w7 ⟨v',l',rfl,hm,hN'⟩
    have hfin:P (.returned (.tuple #[v',.int .i64 0])) w7:=by
     rw [HP.out]
     exact .inr ⟨rfl,v',l',rfl,by rw [hm]; unfold nextB; rw [if_pos hk],hN'⟩
    have HF:=Lib.hid hfin
    clear hfin hm hN' hI HP
    go_wp2
    exact HF.out
   ·have NB:=NB6 (x:=x) ho' hs'
    obtain⟨Y,hY⟩:∃Y,Y=(sixW w' W6.heap.size (.int .i64 x.bag) (.int .i64 x.frm) (.bool false) (.slice (some ⟨w'.heap.size,0,none⟩) 1 1) (.slice ac x.cands.length kc) (.slice none 0 0)).alloc (sealO x):=⟨_,rfl⟩
    rw [← hY] at NB
    unfold sealO sixW at hY
    rw [← hY]
    obtain⟨hlen,hsame,hNx⟩:=HN.out
    have hI:=Tryz.insNew hNx hlen hn hpl s5' NB
    rw [map_log hlen hsame] at hI
    have hrow:=NB.row
    have c0:=cell_blk hrow 0; have c1:=cell_blk hrow 1; have c2:=cell_blk hrow 2; have c3:=cell_blk hrow 3; have c4:=cell_blk hrow 4; have c5:=cell_blk hrow 5
    simp only [List.getElem?_toArray,List.getElem?_cons_zero,List.getElem?_cons_succ] at c0 c1 c2 c3 c4 c5
    have HP:=Lib.hid HC.out.2.2.2.2.1
    unfold bagO at hI
    clear ho' hs' hY NB hrow hlen hsame hNx HN HC hcl
    go_wp2_with fail
    refine hI.mono ?_
    rintro e w7 ⟨v',l',rfl,hm,hN'⟩
    have hfin:P (.returned (.tuple #[v',.int .i64 0])) w7:=by
     rw [HP.out]
     exact .inr ⟨rfl,v',l',rfl,by rw [hm]; unfold nextB; rw [if_pos hk],hN'⟩
    have HF:=Lib.hid hfin
    clear hfin hm hN' hI HP
    go_wp2
    exact HF.out
  ·have hne:(cd != 0)=true:=by simpa using hcd
   have HP:=Lib.hid hP
   clear hB hcs hX hs hP hth sA s5
   go_wp2
   rw [HP.out]
   exact .inl ⟨hcd,rfl,s5'⟩
end Go.Proofs
namespace Go.Proofs
open Go.RowKit Go.LS Go.Deep Go.Sort
set_option linter.all false
theorem putB_putB (L:List Bg) (p:Nat) (f g:Bg→Bg) (hp:p<L.length):putB (putB L p f) p g=putB L p (fun y=>g (f y)):=by
 unfold putB
 rw [List.set_set]
 congr 2
 rw [List.getD_eq_getElem?_getD,List.getElem?_set_self hp]
 rfl
theorem NextW.found {w W7 W8:World}{B g n c place:Nat}{l:List BagN}{v5:Value}{cs:List Int}(h:NextW w W7 B (.slice (some ⟨g,0,none⟩) n c) l 0) (hn:l.length=n) (hp:place<l.length) (o5:W8.ownsRow W7.heap.size 3 1 v5 cs.length (intZ cs)) (s8:W7.Since W7.heap.size W8) :
  NextW w (W8.setCell ⟨g,place*6+5,none⟩ v5) B (.slice (some ⟨g,0,none⟩) n c) (l.set place { l[place] with vf:=v5,found:=cs }) 0:=by
 have h8:=h.keep s8
 have o:=h8.own
 simp only [List.replicate_zero,List.append_nil,Nat.add_zero] at o
 rw [hn] at o
 have hl:famN l=(famN (l.take place)++[(l[place].vs,l[place].seals),(l[place].vp,l[place].packed)])++(l[place].vf,l[place].found) :: famN (l.drop (place+1)):=by rw [famN_split l place hp]; simp
 refine h8.row (q':=(v5,cs)) hn hp (by omega) rfl hl (by rw [famN_set l place hp]; simp) h8.since h8.le o (FamI.swap (by rw [← hl]; exact h8.fam) (own_base o5 h.le) fun p hp'=>?_) ?_
 ·refine apart_far (h.fam.own p ?_) fun k hk=>.inl (o5.lt k hk).1
  rw [hl]
  rcases List.mem_append.1 hp' with h1 | h1
  ·exact List.mem_append_left _ h1
  ·exact List.mem_append_right _ (List.mem_cons_of_mem _ h1)
 ·intro e
  have h1:=(o5.lt g e).1
  have h2:=(h.own.lt g rfl).2
  omega
theorem FamI.swap2 {w w':World}{B:Nat}{P S:List (Value×List Int)}{q q':Value×List Int}(h:FamI w B (P++q :: S)){row:Option Nat}(hg:w.grownBy w' row) (hrow:row=q.1.ownBlock) (ho:w'.ownsRow B 3 1 q'.1 q'.2.length (intZ q'.2)) (ha:∀p∈P++S,apart p.1 q'.1):FamI w' B (P++q' :: S):=by
 have h0:=h.ap
 rw [List.pairwise_append,List.pairwise_cons] at h0
 obtain⟨a1,⟨a2,a3⟩,a4⟩:=h0
 have hq:∀p∈P++S,apart p.1 q.1:=fun p hp=>by
  rcases List.mem_append.1 hp with h1 | h1
  ·exact a4 p h1 q (by simp)
  ·exact (a2 p h1).symm
 have hk:∀p∈P++S,w'.ownsRow B 3 1 p.1 p.2.length (intZ p.2):=fun p hp=>by
  refine (h.own p ?_).kept hg ?_
  ·rcases List.mem_append.1 hp with h1 | h1
   ·exact List.mem_append_left _ h1
   ·exact List.mem_append_right _ (List.mem_cons_of_mem _ h1)
  ·rw [hrow]
   rcases hq p hp with h1 | h1 | h1
   ·exact .inl h1
   ·rw [h1]; cases p.1.ownBlock <;> simp
   ·exact .inr h1
 refine⟨fun p hp=>?_,?_⟩
 ·rcases List.mem_append.1 hp with h1 | h1
  ·exact hk p (List.mem_append_left _ h1)
  ·rcases List.mem_cons.1 h1 with rfl | h1
   ·exact ho
   ·exact hk p (List.mem_append_right _ h1)
 ·rw [List.pairwise_append,List.pairwise_cons]
  refine⟨a1,⟨fun p hp=>(ha p (List.mem_append_right _ hp)).symm,a3⟩,fun p hp r hr=>?_⟩
  rcases List.mem_cons.1 hr with rfl | hr
  ·exact ha p (List.mem_append_left _ hp)
  ·exact a4 p hp r (List.mem_cons_of_mem _ hr)
theorem NextW.addSeal {w U wA:World}{B g n c place gg cap k:Nat}{l:List BagN}{s:Int}(h:NextW w U B (.slice (some ⟨g,0,none⟩) n c) l 0) (hn:l.length=n) (hp:place<l.length) (hk:k=l[place].seals.length){row:Option Nat}(hg:U.grownBy wA row) (hrow:row=l[place].vs.ownBlock)
  (hown:wA.ownsRow B 3 1 (.slice (some ⟨gg,0,none⟩) (k+1) cap) (k+1) (intZ l[place].seals++[.int .i64 s])) (hat:l[place].vs.ownBlock=some gg∨gg=U.heap.size) :
  NextW w (wA.setCell ⟨g,place*6+3,none⟩ (.slice (some ⟨gg,0,none⟩) (k+1) cap)) B (.slice (some ⟨g,0,none⟩) n c) (l.set place { l[place] with vs:=.slice (some ⟨gg,0,none⟩) (k+1) cap,seals:=l[place].seals++[s] }) 0:=by
 have o:=h.own
 simp only [List.replicate_zero,List.append_nil,Nat.add_zero] at o
 rw [hn] at o
 have hl:famN l=famN (l.take place)++(l[place].vs,l[place].seals) :: ((l[place].vp,l[place].packed) :: (l[place].vf,l[place].found) :: famN (l.drop (place+1))):=famN_split l place hp
 have hmem:(l[place].vs,l[place].seals)∈famN l:=by rw [hl]; simp
 have hva:=h.ap _ hmem
 have hvs:=h.fam.lt _ hmem
 have hgl:=o.lt g rfl
 have hsub:∀p∈famN (l.take place)++((l[place].vp,l[place].packed) :: (l[place].vf,l[place].found) :: famN (l.drop (place+1))),p∈famN l:=fun p hp'=>by
  rw [hl]
  rcases List.mem_append.1 hp' with h1 | h1
  ·exact List.mem_append_left _ h1
  ·exact List.mem_append_right _ (List.mem_cons_of_mem _ h1)
 have hap:=h.fam.ap
 rw [hl,List.pairwise_append,List.pairwise_cons] at hap
 obtain⟨a1,⟨a2,a3⟩,a4⟩:=hap
 have hq:∀p∈famN (l.take place)++((l[place].vp,l[place].packed) :: (l[place].vf,l[place].found) :: famN (l.drop (place+1))),apart l[place].vs p.1:=fun p hp'=>by
  rcases List.mem_append.1 hp' with h1 | h1
  ·exact (a4 p h1 (l[place].vs,l[place].seals) (by simp)).symm
  ·exact a2 p h1
 have hr:wA.ownsRow B 99 6 (.slice (some ⟨g,0,none⟩) n c) n (cellsN l):=o.kept hg (.inr (by
  rw [hrow]
  intro e
  exact apart_some hva e.symm))
 refine h.row (q':=(.slice (some ⟨gg,0,none⟩) (k+1) cap,l[place].seals++[s])) hn hp (by omega) rfl hl (by rw [famN_set l place hp]) (h.since.grown hg h.le fun j hj=>(hvs j (by rw [← hrow]; exact hj)).1) (Nat.le_trans h.le hg.size) hr (FamI.swap2 (by rw [← hl]; exact h.fam) hg hrow ?_ fun p hp'=>?_) ?_
 ·rw [List.length_append,List.length_singleton,← hk,intZ_app]; exact hown
 ·exact (apart_grown (hq p hp') rfl hat fun j hj=>(h.fam.lt p (hsub p hp') j hj).2).symm
 ·intro e
  have e:gg=g:=Option.some.inj e
  subst e
  rcases hat with h1 | h1
  ·exact apart_some hva h1
  ·omega
set_option maxHeartbeats 64000000 in
set_option maxRecDepth 100000 in
theorem Tryz.stepB_old (ao:Option Addr) (b o n cap place:Nat) (X:Nat→BagR) (x:BevR) (rng there:Bool) (w:World) (h:BagsW w ao b o n X) (hn:n≤250)
  (hX:∀i,i<n→(X i).sn≤1000∧(X i).pn≤1000∧(X i).fn≤1000) (hs:∀i,i<n→0<(X i).sn) (hc:SlW w x.ca x.cn x.cc x.cands) (hcn:x.cn≤1000) (hpl:place≤n) (hth:there=true→place<n) (hk:¬ x.kind=1)
  (hq:∀W,w.Since w.heap.size W→Calls Tryz.prog 64 #[x.val] W fun e w'=>e = .returned (.bool rng)∧W.Since W.heap.size w')
  (hb:∀W,w.Since w.heap.size W→Calls Tryz.prog 61 #[.slice ao n cap,.int .i64 x.bag,.func (.func 62) #[] #[]] W fun e w'=>e = .returned (.tuple #[.int .i64 (place:Int),.bool there])∧W.Since W.heap.size w') :
  Calls Tryz.prog 37 #[.slice ao n cap,x.val] w (StepBPost (codeB rng there place n X x) (nextB ((List.range n).map fun i=>(X i).log) place x) w):=by
 obtain⟨i0,hi0,hz00,hz01,hz02⟩:=info_parts Tryz.info130
 obtain⟨P,hP⟩:∃P,P=StepBPost (codeB rng there place n X x) (nextB ((List.range n).map fun i=>(X i).log) place x) w:=⟨_,rfl⟩
 rw [← hP]
 have hA0:EvC (w.alloc (.cells x.cells.toArray 44)) w.heap.size x:=by
  have hblk:=heap_alloc_new w (.cells x.cells.toArray 44)
  exact⟨cell_blk hblk 0,cell_blk hblk 1,cell_blk hblk 2,cell_blk hblk 3,cell_blk hblk 4,cell_blk hblk 5,cell_blk hblk 6,cell_blk hblk 7,cell_blk hblk 8⟩
 have hb0:=hb _ ((World.Since.refl _ _).alloc (Nat.le_refl _) (.cells x.cells.toArray 44))
 have s0:w.Since w.heap.size (w.alloc (.cells x.cells.toArray 44)):=(World.Since.refl _ _).alloc (Nat.le_refl _) _
 have l0:w.heap.size<(w.alloc (.cells x.cells.toArray 44)).heap.size:=by simp
 have hW0:∃W0,W0=w.alloc (.cells x.cells.toArray 44):=⟨_,rfl⟩
 obtain⟨W0,hW0⟩:=hW0
 rw [← hW0] at hA0 hb0 s0 l0
 have HC:=Lib.hid (And.intro h (And.intro hc (And.intro hX (And.intro hs (And.intro hq (And.intro hP hth))))))
 have HK:=Lib.hid hk
 clear h hc hX hs hq hb hP hth hk
 unfold BevR.val BevR.cells at *
 have ⟨a0,a1,a2,a3,a4,a5,a6,a7,a8⟩:=hA0
 go_enter Tryz.func37,Tryz.ntmps37
 go_wp2_with fail
 rw [← hW0]
 refine hb0.mono ?_
 rintro e W1 ⟨rfl,s1⟩
 clear hb0 a0 a1 a2 a3 a4 a5 a6 a7 a8 hW0
 have hA1:=hA0.since s1
 have s1':=s0.trans (zJ9 s1 (by omega))
 have l1:=Nat.lt_of_lt_of_le l0 s1.size
 clear hA0 s0 l0 s1
 have ⟨a0,a1,a2,a3,a4,a5,a6,a7,a8⟩:=hA1
 ·have hk:=HK.out
  have hk1:(x.kind==1)=false:=by simpa using hk
  have own2:=own_lit W1 (condZ w.heap.size).toArray 130 w.heap.size 2 2 (by omega) rfl (by unfold maxLen; omega)
  have s2:W1.Since W1.heap.size (W1.alloc (.cells (condZ w.heap.size).toArray 130)):=(World.Since.refl _ _).alloc (Nat.le_refl _) _
  have n2:(W1.alloc (.cells (condZ w.heap.size).toArray 130)).heap.size=W1.heap.size+1:=by simp
  have hN:=Tryz.oldC_walk ao n cap x place there (W1.alloc (.cells (condZ w.heap.size).toArray 130))
  unfold BevR.val at hN
  go_wp2_with fail
  change Calls Tryz.prog 67 _ (W1.alloc (.cells (condZ w.heap.size).toArray 130)) _
  generalize W1.alloc (.cells (condZ w.heap.size).toArray 130)=W2 at *
  refine hN.mono ?_
  rintro e W4 ⟨rfl,hW4⟩
  rw [n2]
  obtain⟨t1,t2,t3,t4,t5,t5',t6⟩:=oldW_facts W2 ao n cap x place there
  rw [← hW4] at t1 t2 t3 t4 t5 t5' t6
  clear hW4 hN
  have own4:=own_keep own2 t1
  have hA4:=(hA1.since s2).since t1
  have s4:w.Since w.heap.size W4:=(s1'.trans (zJ9 s2 (by omega))).trans (zJ9 t1 (by omega))
  clear own2 s2 hA1 a0 a1 a2 a3 a4 a5 a6 a7 a8
  rw [n2] at t2 t3 t4 t5 t5' t6
  clear n2
  have T:=Lib.hid (And.intro t1 (And.intro t3 (And.intro t4 (And.intro t5 (And.intro t5' (And.intro hA4 s4))))))
  have hnews:=newsO t6
  have hbase:w.heap.size≤W4.heap.size:=s4.size
  clear t1 t3 t4 t5 t5' t6 hA4 s4
  go_wp2_with (at_builtin; refine wpList_append_lies _ rfl (.tmp 33) (.tmp 38) 131 rfl w.heap.size 130 i0 (.agg #[.int .i64 0,.nilFunc]) 2 16 Tryz.underlying131 hi0 hz00 hz01 hz02 rfl (by decide) _ _ _ rfl own4 ⟨W1.heap.size+1+4,0,none⟩ 4 4 (oldZ (W1.heap.size+1)) rfl rfl hnews (oldZ_one _) (by omega) (by unfold maxLen; omega) (by omega) hbase _ rfl ?_; intro gg ncap wA hownA hgrow hat hlt2)
  obtain⟨t1,t3,t4,t5,t5',hA4,s4⟩:=T.out
  obtain⟨hB,hcs,hX,hs,hq,hP,hth⟩:=HC.out
  clear T HC hnews hbase own4
  have sA:w.Since w.heap.size wA:=s4.grown hgrow s4.size (fun k hk=>by cases hk; show w.heap.size≤W1.heap.size; omega)
  have hblk:∀k,k<W4.heap.size→k≠W1.heap.size→wA.heap[k]?=W4.heap[k]?:=fun k h1 h2=>hgrow.block k h1 (fun e=>h2 (Option.some.inj e))
  have hcnd:CndW wA w.heap.size (W1.heap.size+1) x ao b o n cap X:=
   ⟨hA4.of_block (hblk _ (by omega) (by omega)),zQ9 (hblk _ (by omega) (by omega)) t3,t4.of_block (hblk _ (by omega) (by omega)),hB.since sA,hcs.since (B:=0) sA⟩
  have hpp:=zQ9 (hblk (W1.heap.size+1+2) (by omega) (by omega)) t5
  have htt:=zQ9 (hblk (W1.heap.size+1+3) (by omega) (by omega)) t5'
  have hF:=Tryz.firstO_walk w.heap.size (W1.heap.size+1) gg ncap x ao b o n cap place X rng there wA hcnd hpp htt (by omega) (fun i hi=>⟨(hX i hi).1,(hX i hi).2.1⟩) hs hth hlt2 (condsO hownA) (fun W hW=>hq W (sA.trans (zJ9 hW sA.size)))
  have hcode:codeB rng there place n X x=firstP codeO (holdO rng there place n X x) 6 0:=if_neg hk
  have hplace:firstP codeO (holdO rng there place n X x) 6 0=0→place<n:=fun h0=>hth (by
   cases there with
   | true=>rfl
   | false=>
    exfalso
    simp only [firstP_succ,holdO,codeO] at h0
    revert h0
    cases rng <;> cases forP x <;> simp)
  rw [hcode] at hP
  clear hcode hownA hgrow hat hpp htt t1 t3 t4 t5 t5' hA4 s4 hblk hq
  generalize firstP codeO (holdO rng there place n X x) 6 0=cd at *
  refine hF.mono ?_
  rintro e W5 ⟨rfl,s5⟩
  have s5':=sA.trans (zJ9 s5 sA.size)
  have hA5:=hcnd.e.since s5
  clear hF hcnd
  by_cases hcd:cd=0
  ·subst hcd
   have hpn:=hplace rfl
   have hsl:(X place).seals.length≤1000:=by rw [(hB.ok place hpn).s.1]; exact (hX place hpn).1
   have hCl:=Tryz.cloneBags_walk ao b o n cap X W5 (hB.since s5') (by omega) hX
   have HC:=Lib.hid (And.intro hcs hP)
   clear hB hcs hX hs hP hth sA s5 hplace
   go_wp2_with fail
   refine hCl.mono ?_
   rintro e W6 ⟨v,l,rfl,hlen,hsame,hNx⟩
   obtain⟨gv,cv,rfl,-⟩:∃g c,v = .slice (some ⟨g,0,none⟩) n c∧True:=by
    have o:=hNx.own
    simp only [List.replicate_zero,List.append_nil,Nat.add_zero] at o
    rw [hlen] at o
    obtain⟨g,c,e,-⟩:=o.form (by omega)
    exact⟨g,c,e,trivial⟩
   have hA6:=hA5.since hNx.since
   have s6:=s5'.trans (zJ9 hNx.since s5'.size)
   have hl5:w.heap.size<W5.heap.size:=World.block_lt_of_cell? W5 _ hA5.c0
   have hm:=map_log hlen hsame
   have hsl2:∀h:place<l.length,l[place].seals.length≤1000:=fun h=>by rw [(hsame place h).2.2.2.1]; exact hsl
   have HN:=Lib.hid (And.intro hlen (And.intro hm hNx))
   clear hCl hA5 hlen hsame hNx hm
   have ⟨a0,a1,a2,a3,a4,a5,a6,a7,a8⟩:=hA6
   have hp0:(0:Int)≤(place:Int):=by omega
   have hp1:(place:Int)<(n:Int):=by omega
   by_cases k2:x.kind=2
   ·have k2':(x.kind==2)=true:=by simpa using k2
    obtain⟨hlen,hm,hNx⟩:=HN.out
    have hpl':place<l.length:=by omega
    have o:=hNx.own
    simp only [List.replicate_zero,List.append_nil,Nat.add_zero] at o
    rw [hlen] at o
    have e1:=(o.cellAt (place*6+1) (by omega)).trans (cellsN_at l place 1 hpl' (by omega))
    have f1:=o.frozenAt (place*6+1)
    have hNum:=hNx.num (place:=place) (j:=1) (y:={ l[place] with hold:=x.to' }) (u:=.int .i64 x.to') hlen hpl' (by omega) rfl rfl
    have hfin:P (.returned (.tuple #[.slice (some ⟨gv,0,none⟩) n cv,.int .i64 0])) (W6.setCell ⟨gv,place*6+1,none⟩ (.int .i64 x.to')):=by
     rw [HC.out.2]
     exact .inr ⟨rfl,_,_,rfl,by rw [map_put hpl' _ (fun y=>(y.1,x.to',y.2.2)) rfl,hm]; unfold nextB; rw [if_neg hk,if_pos k2],(hNum.base s5'.size).from' s5'⟩
    have HF:=Lib.hid hfin
    clear hfin hlen hm hNx HN HC o hNum
    simp only [BagN.cells,List.getElem?_cons_succ,List.getElem?_cons_zero] at e1
    generalize l[place]=y0 at *
    go_wp2
    exact HF.out
   ·have k2':(x.kind==2)=false:=by simpa using k2
    by_cases k3:x.kind=3
    ·have k3':(x.kind==3)=true:=by simpa using k3
     obtain⟨hlen,hm,hNx⟩:=HN.out
     have hpl':place<l.length:=by omega
     have o:=hNx.own
     simp only [List.replicate_zero,List.append_nil,Nat.add_zero] at o
     rw [hlen] at o
     have hgv:W5.heap.size≤gv:=(o.lt gv rfl).1
     have hw5:w.heap.size<gv:=by
      have:=World.block_lt_of_cell? W6 _ a0
      have h5:w.heap.size<W5.heap.size:=hl5
      omega
     have hgne:¬ gv=w.heap.size:=by omega
     have hgne':¬ w.heap.size=gv:=by omega
     have e2:=(o.cellAt (place*6+2) (by omega)).trans (cellsN_at l place 2 hpl' (by omega))
     have f2:=o.frozenAt (place*6+2)
     have hNum:=hNx.num (place:=place) (j:=2) (y:={ l[place] with opn:=true }) (u:=.bool true) hlen hpl' (by omega) rfl rfl
     have s7:w.Since w.heap.size (W6.setCell ⟨gv,place*6+2,none⟩ (.bool true)):=zE9 s6 _ _ _ (by omega)
     have hcl:=Tryz.CloneI_walk _ _ _ _ (W6.setCell ⟨gv,place*6+2,none⟩ (.bool true)) hcn (HC.out.1.since (B:=0) s7)
     have HN2:=Lib.hid (And.intro hlen (And.intro hm hNum))
     clear hlen hm hNx HN o hNum hgv
     simp only [BagN.cells,List.getElem?_cons_succ,List.getElem?_cons_zero] at e2
     go_wp2_with fail
     refine hcl.mono ?_
     rintro e W8 ⟨v5,rfl,o5,s8⟩
     obtain⟨a5',k5,rfl,-⟩:=own_form o5
     obtain⟨hlen,hm,hNum⟩:=HN2.out
     have hlen1:(l.set place { l[place] with opn:=true }).length=n:=by rw [List.length_set]; exact hlen
     have hpl1:place<(l.set place { l[place] with opn:=true }).length:=by omega
     have hm1:=map_put hpl' { l[place] with opn:=true } (fun y=>(y.1,y.2.1,true,y.2.2.2)) rfl
     generalize l.set place { l[place] with opn:=true }=l2 at *
     have hF:=hNum.found hlen1 hpl1 o5 s8
     have hm2:=map_put hpl1 { l2[place] with vf:=.slice a5' x.cands.length k5,found:=x.cands } (fun y=>(y.1,y.2.1,y.2.2.1,y.2.2.2.1,y.2.2.2.2.1,x.cands)) rfl
     have o8:=(hNum.keep s8).own
     simp only [List.replicate_zero,List.append_nil,Nat.add_zero] at o8
     rw [hlen1] at o8
     have e5:=(o8.cellAt (place*6+5) (by omega)).trans (cellsN_at l2 place 5 hpl1 (by omega))
     have f5:=o8.frozenAt (place*6+5)
     have hfin:P (.returned (.tuple #[.slice (some ⟨gv,0,none⟩) n cv,.int .i64 0])) (W8.setCell ⟨gv,place*6+5,none⟩ (.slice a5' x.cands.length k5)):=by
      rw [HC.out.2]
      refine .inr ⟨rfl,_,_,rfl,?_,(hF.base s5'.size).from' s5'⟩
      rw [hm2,hm1,hm,putB_putB _ _ _ _ (by simp; omega)]
      unfold nextB; rw [if_neg hk,if_neg k2,if_pos k3]
     have HF:=Lib.hid hfin
     simp only [BagN.cells,List.getElem?_cons_succ,List.getElem?_cons_zero] at e5
     clear hfin hF hm hm1 hm2 hNum HN2 HC o8 o5 s8 hcl e2 f2
     go_wp2
     exact HF.out
    ·have k3':(x.kind==3)=false:=by simpa using k3
     by_cases k4:x.kind=4
     ·have k4':(x.kind==4)=true:=by simpa using k4
      obtain⟨i3,hi3,hz30,hz31,hz32⟩:=info_parts Tryz.info3
      obtain⟨hlen,hm,hNx⟩:=HN.out
      have hpl':place<l.length:=by omega
      have hsl3:=hsl2 hpl'
      have o:=hNx.own
      simp only [List.replicate_zero,List.append_nil,Nat.add_zero] at o
      rw [hlen] at o
      have hgv:=o.lt gv rfl
      have e3:=(o.cellAt (place*6+3) (by omega)).trans (cellsN_at l place 3 hpl' (by omega))
      simp only [BagN.cells,List.getElem?_cons_succ,List.getElem?_cons_zero] at e3
      have f3:=o.frozenAt (place*6+3)
      have hmem:(l[place].vs,l[place].seals)∈famN l:=by rw [famN_split l place hpl']; simp
      have os:=hNx.fam.own _ hmem
      have hva:=hNx.ap _ hmem
      obtain⟨sa,sk,hvs,-⟩:=own_form os
      have hvs:l[place].vs = .slice sa l[place].seals.length sk:=hvs
      have hneM:some gv≠(Value.slice sa l[place].seals.length sk).ownBlock:=by rw [← hvs]; exact fun e=>apart_some hva e.symm
      have hU:NextW W5 (W6.alloc (.cells #[.int .i64 x.sealQ] 3)).drew W5.heap.size (.slice (some ⟨gv,0,none⟩) n cv) l 0:=hNx.keep ((World.Since.refl _ W6).alloc (Nat.le_refl _) (.cells #[.int .i64 x.sealQ] 3)).drew
      have hadd:∀ (wA:World) (gg cap:Nat),(W6.alloc (.cells #[.int .i64 x.sealQ] 3)).drew.grownBy wA (Value.slice sa l[place].seals.length sk).ownBlock→wA.ownsRow W5.heap.size 3 1 (.slice (some ⟨gg,0,none⟩) (l[place].seals.length+1) cap) (l[place].seals.length+1) (intZ l[place].seals++[.int .i64 x.sealQ])→((Value.slice sa l[place].seals.length sk).ownBlock=some gg∨gg=W6.heap.size+1) →
        P (.returned (.tuple #[.slice (some ⟨gv,0,none⟩) n cv,.int .i64 0])) (wA.setCell ⟨gv,place*6+3,none⟩ (.slice (some ⟨gg,0,none⟩) (l[place].seals.length+1) cap)):=fun wA gg cap h1 h2 h3=>by
       have hF:=hU.addSeal (s:=x.sealQ) hlen hpl' rfl h1 (by rw [hvs]) h2 (by rw [hvs]; rcases h3 with h | h; exact .inl h; exact .inr (h.trans (by show _=(W6.alloc _).heap.size; simp)))
       rw [HC.out.2]
       refine .inr ⟨rfl,_,_,rfl,?_,(hF.base s5'.size).from' s5'⟩
       rw [map_put hpl' _ (fun y=>(y.1,y.2.1,y.2.2.1,y.2.2.2.1++[x.sealQ],y.2.2.2.2)) rfl,hm]
       unfold nextB; rw [if_neg hk,if_neg k2,if_neg k3,if_pos k4]
      have HA:=Lib.hid hadd
      rw [hvs] at e3
      have os:W6.ownsRow W5.heap.size 3 1 l[place].vs l[place].seals.length (intZ l[place].seals):=os
      rw [hvs] at os
      have osA:(W6.alloc (.cells #[.int .i64 x.sealQ] 3)).drew.ownsRow W5.heap.size 3 1 (.slice sa l[place].seals.length sk) l[place].seals.length (intZ l[place].seals):=own_alloc os _
      have hbase:W5.heap.size≤(W6.alloc (.cells #[.int .i64 x.sealQ] 3)).drew.heap.size:=hU.le
      have sU:W6.Since W6.heap.size (W6.alloc (.cells #[.int .i64 x.sealQ] 3)).drew:=((World.Since.refl _ W6).alloc (Nat.le_refl _) _).drew
      have eU:=cell_since sU e3
      have fU:=(sU.frozen (a:=⟨gv,place*6+3,none⟩) hgv.2).trans f3
      have hgU:gv<(W6.alloc (.cells #[.int .i64 x.sealQ] 3)).drew.heap.size:=Nat.lt_of_lt_of_le hgv.2 sU.size
      clear hadd hU hlen hm hNx HN HC o hva os hmem hvs hsl2 hsl
      generalize l[place].seals=sl at *
      go_wp2_with fail
      go_region_law (first
       | (refine step_append_lies _ (by rfl) _ _ _ (by rfl) W5.heap.size 3 i3 (.int .i64 0) 1 8 Tryz.underlying22 hi3 hz30 hz31 hz32 rfl (by omega) (.slice sa sl.length sk) sl.length (intZ sl) (by rfl) osA ⟨W6.heap.size,0,none⟩ 1 1 [.int .i64 x.sealQ] (by rfl) (by rfl) (World.news_of_block (cs := #[.int .i64 x.sealQ]) (t:=3) (fr:=(0,0)) (heap_alloc_new W6 _)) (by simp [Value.oneCell']) (by omega) (by unfold maxLen; omega) (by omega) hbase _ rfl ?_; intro gg2 cap2 wA2 hownA2 hgrow2 hat2 hlt3; have hfA:=(hgrow2.cell_far ⟨gv,place*6+3,none⟩ hgU hneM).trans eU; have hfB:=(hgrow2.frozen_far ⟨gv,place*6+3,none⟩ hgU hneM).trans fU))
      all_goals
       have HF:=Lib.hid (HA.out wA2 gg2 cap2 hgrow2 hownA2 (hat2.imp id fun h=>h.trans (by show (W6.alloc _).heap.size=_; simp)))
       clear hgrow2 hownA2 hat2 HA hfA hfB eU fU osA
       go_wp2
       exact HF.out
     ·have k4':(x.kind==4)=false:=by simpa using k4
      obtain⟨hlen,hm,hNx⟩:=HN.out
      have hfin:P (.returned (.tuple #[.slice (some ⟨gv,0,none⟩) n cv,.int .i64 0])) W6:=by
       rw [HC.out.2]
       exact .inr ⟨rfl,_,l,rfl,by rw [hm]; unfold nextB; rw [if_neg hk,if_neg k2,if_neg k3,if_neg k4],(hNx.base s5'.size).from' s5'⟩
      have HF:=Lib.hid hfin
      clear hfin hlen hm hNx HN HC
      go_wp2
      exact HF.out
  ·have hne:(cd != 0)=true:=by simpa using hcd
   have HP:=Lib.hid hP
   clear hB hcs hX hs hP hth sA s5 hplace
   go_wp2
   rw [HP.out]
   exact .inl ⟨hcd,rfl,s5'⟩
theorem Tryz.stepB_walk (ao:Option Addr) (b o n cap place:Nat) (X:Nat→BagR) (x:BevR) (rng there:Bool) (w:World) (h:BagsW w ao b o n X) (hn:n≤250)
  (hX:∀i,i<n→(X i).sn≤1000∧(X i).pn≤1000∧(X i).fn≤1000) (hs:∀i,i<n→0<(X i).sn) (hc:SlW w x.ca x.cn x.cc x.cands) (hcn:x.cn≤1000) (hpl:place≤n) (hth:there=true→place<n)
  (hq:∀W,w.Since w.heap.size W→Calls Tryz.prog 64 #[x.val] W fun e w'=>e = .returned (.bool rng)∧W.Since W.heap.size w')
  (hb:∀W,w.Since w.heap.size W→Calls Tryz.prog 61 #[.slice ao n cap,.int .i64 x.bag,.func (.func 62) #[] #[]] W fun e w'=>e = .returned (.tuple #[.int .i64 (place:Int),.bool there])∧W.Since W.heap.size w') :
  Calls Tryz.prog 37 #[.slice ao n cap,x.val] w (StepBPost (codeB rng there place n X x) (nextB ((List.range n).map fun i=>(X i).log) place x) w):=by
 by_cases hk:x.kind=1
 ·exact Tryz.stepB_new ao b o n cap place X x rng there w h hn hX hs hc hcn hpl hth hk hq hb
 ·exact Tryz.stepB_old ao b o n cap place X x rng there w h hn hX hs hc hcn hpl hth hk hq hb
end Go.Proofs
