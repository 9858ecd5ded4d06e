/-
  Walks of slices.Insert and slices.Delete. No condition but those that each theorem names.
-/
import Derived.Test.YtmgjidfafnajnaaGreatZXA
import Derived.Lib.Hide
import Derived.Deep.RegionLaw
import Derived.Laws.CopyOwn
import Derived.Lib.AppendZeros
import Derived.Lib.AppendZerosOnto
import Derived.Lib.Overlaps
import Derived.Lib.SliceRun
import Derived.Lib.JoinLaws
import Derived.Laws.Externs
import Derived.Laws.NewBlocks
namespace Go.Proofs
open Go.RowKit Go.LS Go.Deep
set_option linter.all false
section
variable {P:Program}
theorem run_copy_rowZ (w:World) (dT sT ty elem:TypeId) (g o dLen dCap:Nat) (a:Addr) (sLen sCap:Nat) (cur:Array Value) (t:TypeId) (cs:List Value) (z m:Nat)
  (hu:P.underlying dT=some (.slice elem)) (hs:(P.info? elem).map (·.size)=some z)
  (hg:w.heap[g]?=some (.cells cur t (0,0))) (hm:m=Nat.min sLen dLen) (hn:cs.length=m*z)
  (hsrc:∀j v,cs[j]?=some v→w.cell? (a.add j)=some v) (hfit:o+cs.length≤cur.size) (h1:∀v∈cs,v.oneCell'=true) :
  (Builtin.copy_ #[dT,sT] ty #[.slice (some ⟨g,o,none⟩) dLen dCap,.slice (some a) sLen sCap]).run P w =
   .ok (goInt m) (w.setRow g (cur.toList.take o++cs++cur.toList.drop (o+cs.length)).toArray):=by
 have hl:=run_loadCells_list (P:=P) w a cs hsrc
 have hst:=run_storeCells_at P g o t cs 0 cur w hg (by simpa using hfit) h1
 cases hq:P.info? elem with
 | none=>simp [hq] at hs
 | some i=>
  have hi:i.size=z:=by simpa [hq] using hs
  simp [Builtin.copy_,run_underlying hu,Builtin.lenOf,Builtin.firstCells,sizeOf,typeInfo,hq,hi,← hm,← hn,hl,hst]
theorem wpList_copy_rowZ {w:World}{ops:Array Oper}{rest:List Oper}{o:Oper}{a:Act}{Q:Exit→Act→World→Prop}(hgd:o.guard=none) (d s:Operand) (dT sT:TypeId)
  (ho:o.op = .call { callee:=.builtin .copy,args := #[d,s],argTypes := #[dT,sT] }) (elem:TypeId) (z m:Nat) (hu:P.underlying dT=some (.slice elem)) (hsz:(P.info? elem).map (·.size)=some z)
  (g off dLen dCap:Nat) (ad:Addr) (sLen sCap:Nat) (hd:a.eval d = .slice (some ⟨g,off,none⟩) dLen dCap) (hs:a.eval s = .slice (some ad) sLen sCap)
  (cur:Array Value) (t:TypeId) (hg:w.heap[g]?=some (.cells cur t (0,0))) (cs:List Value) (hm:m=Nat.min sLen dLen) (hn:cs.length=m*z)
  (hsrc:∀j v,cs[j]?=some v→w.cell? (ad.add j)=some v) (hfit:off+cs.length≤cur.size) (h1:∀v∈cs,v.oneCell'=true)
  (h:wpList P ops Q rest (a.put o.dst (goInt m)) (w.setRow g (cur.toList.take off++cs++cur.toList.drop (off+cs.length)).toArray)):wpList P ops Q (o :: rest) a w:=by
 refine wpList_plain hgd fun K hK=>?_
 have hrun:=run_copy_rowZ (P:=P) w dT sT o.type elem g off dLen dCap ad sLen sCap cur t cs z m hu hsz hg hm hn hsrc hfit h1
 unfold Oper.wp
 simp [execOp,ho,resolve,invoke,builtin,hd,hs,hrun,Result.andThen]
 have:=hK _ _ h
 simp only [List.append_assoc] at this
 exact this
theorem step_copy_rowZ {ops:Array Oper}{o:Oper}{a:Act}{w:World}{K:Act→World→Prop}{Q:Exit→Act→World→Prop}{E:Prop}(hgd:o.guard=none) (d s:Operand) (dT sT:TypeId)
  (ho:o.op = .call { callee:=.builtin .copy,args := #[d,s],argTypes := #[dT,sT] }) (elem:TypeId) (z m:Nat) (hu:P.underlying dT=some (.slice elem)) (hsz:(P.info? elem).map (·.size)=some z)
  (g off dLen dCap:Nat) (ad:Addr) (sLen sCap:Nat) (hd:a.eval d = .slice (some ⟨g,off,none⟩) dLen dCap) (hs:a.eval s = .slice (some ad) sLen sCap)
  (cur:Array Value) (t:TypeId) (hg:w.heap[g]?=some (.cells cur t (0,0))) (cs:List Value) (hm:m=Nat.min sLen dLen) (hn:cs.length=m*z)
  (hsrc:∀j v,cs[j]?=some v→w.cell? (ad.add j)=some v) (hfit:off+cs.length≤cur.size) (h1:∀v∈cs,v.oneCell'=true)
  (h:∀w',w'=w.setRow g (cur.toList.take off++cs++cur.toList.drop (off+cs.length)).toArray→K (a.put o.dst (goInt m)) w') :
  if Region.wanted o (yielded ops a.tmps)=true then Oper.wp P o a w K Q else E:=by
 have hw:Region.wanted o (yielded ops a.tmps)=true:=by simp [Region.wanted,hgd]
 rw [if_pos hw]
 have hrun:=run_copy_rowZ (P:=P) w dT sT o.type elem g off dLen dCap ad sLen sCap cur t cs z m hu hsz hg hm hn hsrc hfit h1
 unfold Oper.wp
 simp [execOp,ho,resolve,invoke,builtin,hd,hs,hrun,Result.andThen]
 have:=h _ rfl
 simp only [List.append_assoc] at this
 exact this
end
end Go.Proofs
namespace Go.Proofs
open Go.RowKit Go.LS Go.Deep
set_option linter.all false
theorem size_setRow (w:World) (g:Nat) (c:Array Value):(w.setRow g c).heap.size=w.heap.size:=by simp [World.setRow]
theorem rowIns (xs ys rest:List Value) (i n z:Nat) (hl:xs.length=n*z) (hin:i<n) (hy:ys.length=z) (hr:z≤rest.length) :
  (((xs++rest).take ((i+1)*z)++xs.drop (i*z)++(xs++rest).drop ((i+1)*z+(xs.drop (i*z)).length)).take (i*z)++ys ++
   ((xs++rest).take ((i+1)*z)++xs.drop (i*z)++(xs++rest).drop ((i+1)*z+(xs.drop (i*z)).length)).drop (i*z+ys.length)).take ((n+1)*z)=xs.take (i*z)++ys++xs.drop (i*z):=by
 have e1:(i+1)*z=i*z+z:=Nat.succ_mul i z
 have e2:(n+1)*z=n*z+z:=Nat.succ_mul n z
 have hiz:(i+1)*z≤n*z:=Nat.mul_le_mul_right z hin
 have hd:(xs.drop (i*z)).length=n*z - i*z:=by rw [List.length_drop,hl]
 rw [e2,hy,hd]
 rw [e1] at hiz ⊢
 have h1:((xs++rest).take (i*z+z)).length=i*z+z:=by rw [List.length_take,List.length_append]; omega
 have h2:((xs++rest).take (i*z+z)++xs.drop (i*z)++(xs++rest).drop (i*z+z+(n*z - i*z))).take (i*z)=xs.take (i*z):=by
  rw [List.append_assoc,List.take_append_of_le_length (by omega),List.take_take,Nat.min_eq_left (by omega),List.take_append_of_le_length (by omega)]
 have h3:((xs++rest).take (i*z+z)++xs.drop (i*z)++(xs++rest).drop (i*z+z+(n*z - i*z))).drop (i*z+z)=xs.drop (i*z)++(xs++rest).drop (i*z+z+(n*z - i*z)):=by
  rw [List.append_assoc,List.drop_append_of_le_length (by omega),List.drop_of_length_le (by omega),List.nil_append]
 rw [h2,h3,← List.append_assoc,List.take_append_of_le_length (by simp only [List.length_append,List.length_take,hd,hy,hl]; omega)]
 exact List.take_of_length_le (by simp only [List.length_append,List.length_take,hd,hy,hl]; omega)
theorem rowIns2 (xs ys Z1 Z2:List Value) (i n z:Nat) (hl:xs.length=n*z) (hin:i<n) (hy:ys.length=z) (h1:Z1.length=(n+1 - i)*z) :
  (((xs.take (i*z)++Z1++Z2).take (i*z)++ys++(xs.take (i*z)++Z1++Z2).drop (i*z+ys.length)).take ((i+1)*z)++xs.drop (i*z) ++
   ((xs.take (i*z)++Z1++Z2).take (i*z)++ys++(xs.take (i*z)++Z1++Z2).drop (i*z+ys.length)).drop ((i+1)*z+(xs.drop (i*z)).length)).take ((n+1)*z)=xs.take (i*z)++ys++xs.drop (i*z):=by
 have e1:(i+1)*z=i*z+z:=Nat.succ_mul i z
 have e2:(n+1)*z=n*z+z:=Nat.succ_mul n z
 have hiz:(i+1)*z≤n*z:=Nat.mul_le_mul_right z hin
 have hd:(xs.drop (i*z)).length=n*z - i*z:=by rw [List.length_drop,hl]
 rw [e1] at hiz
 have ht:(xs.take (i*z)).length=i*z:=by rw [List.length_take]; omega
 have h2:(xs.take (i*z)++Z1++Z2).take (i*z)=xs.take (i*z):=by
  rw [List.append_assoc,List.take_append_of_le_length (by omega),List.take_of_length_le (by omega)]
 rw [h2,e1,e2]
 have h3:(xs.take (i*z)++ys++(xs.take (i*z)++Z1++Z2).drop (i*z+ys.length)).take (i*z+z)=xs.take (i*z)++ys:=by
  rw [List.take_append_of_le_length (by simp only [List.length_append,ht,hy]; omega),List.take_of_length_le (by simp only [List.length_append,ht,hy]; omega)]
 rw [h3,List.take_append_of_le_length (by simp only [List.length_append,ht,hd,hy]; omega)]
 exact List.take_of_length_le (by simp only [List.length_append,ht,hd,hy]; omega)
theorem Tryz.info91:(Tryz.prog.info? 91).map (fun i=>(i.zero,i.size,i.bytes))=some (some (.agg #[.int .i64 0,.int .i64 0,.int .i64 0,.bool false]),4,32):=by kernel_rfl
def InsE (B:Nat) (v:Value) (n:Nat) (xs ys:List Value) (i:Nat) (w:World) (e:Ending) (w':World):Prop:=
 ∃g cap,e = .returned (.slice (some ⟨g,0,none⟩) (n+1) cap)∧w'.ownsRow B 91 4 (.slice (some ⟨g,0,none⟩) (n+1) cap) (n+1) (xs.take (i*4)++ys++xs.drop (i*4))∧w.grownBy w' v.ownBlock∧(v.ownBlock=some g∨g=w.heap.size)
set_option maxHeartbeats 8000000 in
set_option maxRecDepth 100000 in
theorem Tryz.InsertE_walk (B:Nat) (v:Value) (n:Nat) (xs:List Value) (vb:Nat) (ys:List Value) (i:Nat) (w:World) (hn:n≤1000) (hin:i≤n) (hown:w.ownsRow B 91 4 v n xs) (hB:B≤w.heap.size)
  (hne:v.ownBlock≠some vb) (hvb:w.heap[vb]?=some (.cells ys.toArray 91 (0,0))) (hy:ys.length=4) (h1:∀x∈xs,x.oneCell'=true) (h1y:∀y∈ys,y.oneCell'=true) :
  Calls Tryz.prog 48 #[v,.int .i64 i,.slice (some ⟨vb,0,none⟩) 1 1] w (InsE B v n xs ys i w):=by
 obtain⟨i9,hi9,hz90,hz91,hz92⟩:=info_parts Tryz.info91
 have hsz:(Tryz.prog.info? 91).map (·.size)=some 4:=by rw [hi9]; simp [hz91]
 have hvw:vb<w.heap.size:=(Array.getElem?_eq_some_iff.1 hvb).1
 have hyc:∀j u,ys[j]?=some u→w.cell? ((⟨vb,0,none⟩:Addr).add j)=some u:=fun j u hj=>by
  rw [Addr.add_lit,World.cell?,hvb]; simpa using hj
 by_cases hi:i=n
 ·subst hi
  rcases hown.2 with⟨rfl,h0⟩ | ⟨g,cap,cur,rfl,hb,hcur,hcap,hmax,hcs,htake⟩
  ·subst h0
   go_enter Tryz.func48,Tryz.ntmps48
   go_wp2_with (at_builtin; refine wpList_append_lies _ rfl (.tmp 23) (.tmp 24) 45 rfl B 91 i9 _ 4 32 Tryz.underlying45 hi9 hz90 hz91 hz92 rfl (by decide) _ _ _ rfl hown ⟨vb,0,none⟩ 1 1 ys rfl (by simpa using hy) hyc h1y (by omega) (by unfold maxLen; omega) (by omega) hB _ rfl ?_; intro gg ncap wA hownA hgrow hat hlt2)
   go_ret
   refine⟨gg,ncap,rfl,?_,hgrow,hat⟩
   have hx:xs=[]:=List.eq_nil_of_length_eq_zero (by rw [hown.1])
   subst hx
   simpa using hownA
  ·go_enter Tryz.func48,Tryz.ntmps48
   go_wp2_with (at_builtin; refine wpList_append_lies _ rfl (.tmp 23) (.tmp 24) 45 rfl B 91 i9 _ 4 32 Tryz.underlying45 hi9 hz90 hz91 hz92 rfl (by decide) _ _ _ rfl hown ⟨vb,0,none⟩ 1 1 ys rfl (by simpa using hy) hyc h1y (by omega) (by unfold maxLen; omega) (by omega) hB _ rfl ?_; intro gg ncap wA hownA hgrow hat hlt2)
   all_goals
    go_ret
    refine⟨gg,ncap,rfl,?_,hgrow,hat⟩
    have hx:xs.take (i*4)=xs:=List.take_of_length_le (Nat.le_of_eq hown.1)
    have hx2:xs.drop (i*4)=[]:=List.drop_of_length_le (Nat.le_of_eq hown.1)
    rw [hx,hx2,List.append_nil]
    exact hownA
 ·have hi:i<n:=by omega
  rcases hown.2 with⟨rfl,h0⟩ | ⟨g,cap,cur,rfl,hb,hcur,hcap,hmax,hcs,htake⟩
  ·omega
  have hgl:g<w.heap.size:=(Array.getElem?_eq_some_iff.1 hcur).1
  have hxl:xs.length=n*4:=hown.1
  have hgv:g≠vb:=fun e=>hne (by rw [e]; rfl)
  have hcurx:∃rest,cur.toList=xs++rest:=⟨cur.toList.drop (n*4),by rw [← htake,List.take_append_drop]⟩
  obtain⟨rest,hrest⟩:=hcurx
  have hcur_len:cur.size=xs.length+rest.length:=by rw [← Array.length_toList,hrest,List.length_append]
  have hxc:∀j u,(xs.drop (i*4))[j]?=some u→w.cell? ((⟨g,i*4,none⟩:Addr).add j)=some u:=fun j u hj=>by
   rw [Addr.add_lit,World.cell?,hcur]
   rw [List.getElem?_drop] at hj
   have:cur.toList[i*4+j]?=some u:=by rw [hrest,List.getElem?_append_left (List.getElem?_eq_some_iff.1 hj).1]; exact hj
   simpa using this
  have hdl:(xs.drop (i*4)).length=(n - i)*4:=by rw [List.length_drop,hxl]; omega
  have h1d:∀x∈xs.drop (i*4),x.oneCell'=true:=fun x hx=>h1 x (List.mem_of_mem_drop hx)
  have hw1:IntKind.i64.wrap ((i:Int)+1)=(i:Int)+1:=by rw [IntKind.wrap_i64]; omega
  have hw2:IntKind.i64.wrap ((n:Int)+1)=(n:Int)+1:=by rw [IntKind.wrap_i64]; omega
  have hz2:¬ ((i:Int)=(n:Int)):=by omega
  by_cases hroom:n+1≤cap
  ·have hov:∀lb cb,(callFunc 76 #[.slice (some ⟨vb,0,none⟩) 1 1,.slice (some ⟨g,(i+1)*4,none⟩) lb cb]).run Tryz.prog w = .ok (.value (.bool false)) w:=fun lb cb=>by
    rw [run_callFunc_extern Tryz.func76 (by kernel_rfl) (by kernel_rfl) (by kernel_rfl) (e:=Extern.SlicesOverlaps.overlaps #[45,45] #[4]) (by kernel_rfl),
     Lib.run_overlaps_apart w 45 4 91 Tryz.underlying45 4 Tryz.sizeOf91 ⟨vb,0,none⟩ ⟨g,(i+1)*4,none⟩ 1 1 lb cb (fun e=>hgv e.symm) 91 91 ys.toArray.size cur.size (by simp [World.shape?,hvb]) (by simp [World.shape?,hcur]) (by omega) (by simp [World.frozen?,hvb]) (by simp [World.frozen?,hvb])]
    rfl
   have hb1:(0:Int)≤(i:Int)+1:=by omega
   have hin':i≤n:=by omega
   have htn:((i:Int)+1).toNat=i+1:=by omega
   have htn2:((n:Int)+1).toNat=n+1:=by omega
   have hb2:¬ (cap=i+1):=by omega
   have hb3:(i:Int)≤(n:Int)+1:=by omega
   have hb4:¬ (cap=i):=by omega
   have hb5:¬ ((cap:Int)<(n:Int)+1):=by omega
   obtain⟨C1,hC1⟩:∃C1:Array Value,C1=(cur.toList.take ((i+1)*4)++xs.drop (i*4)++cur.toList.drop ((i+1)*4+(xs.drop (i*4)).length)).toArray:=⟨_,rfl⟩
   obtain⟨C2,hC2⟩:∃C2:Array Value,C2=(C1.toList.take (i*4)++ys++C1.toList.drop (i*4+ys.length)).toArray:=⟨_,rfl⟩
   have hC1s:C1.size=cap*4:=by
    rw [hC1]; simp only [List.size_toArray,List.length_append,List.length_take,List.length_drop,Array.length_toList,hdl,hcs,hxl]; omega
   have hC2s:C2.size=cap*4:=by
    rw [hC2]; simp only [List.size_toArray,List.length_append,List.length_take,List.length_drop,Array.length_toList,hy,hC1s]; omega
   have hfin:C2.toList.take ((n+1)*4)=xs.take (i*4)++ys++xs.drop (i*4):=by
    rw [hC2,hC1,hrest]
    exact rowIns xs ys rest i n 4 hxl hi hy (by rw [hcs,hxl] at hcur_len; omega)
   have HC1:=Lib.hid hC1
   have HC2:=Lib.hid hC2
   have HF:=Lib.hid hfin
   have HR:=Lib.hid hrest
   have hycd:∀j u,ys[j]?=some u→(w.drew.setRow g C1).cell? ((⟨vb,0,none⟩:Addr).add j)=some u:=fun j u hj=>by
    rw [Addr.add_lit,World.cell?_of_block (w:=w.drew) (setRow_other w.drew g vb C1 (fun e=>hgv e.symm))]
    have:=hyc j u hj
    rw [Addr.add_lit] at this
    exact this
   clear hC1 hC2 hfin hrest hyc
   go_enter Tryz.func48,Tryz.ntmps48
   go_wp2_with (simp only [hov])
   go_region_law (refine step_copy_rowZ rfl (.tmp 73) (.tmp 76) 45 45 rfl 91 4 (n - i) Tryz.underlying45 hsz g ((i+1)*4) (n+1 - (i+1)) (cap - (i+1)) ⟨g,i*4,none⟩ (n+1 - i) (cap - i) (by simp [Act.eval,Act.put]) (by simp [Act.eval,Act.put]) cur 91 hcur (xs.drop (i*4)) (by simp only [Nat.min_def]; split <;> omega) hdl hxc (by rw [hdl,hcur_len,hxl]; omega) h1d ?_; rw [← HC1.out]; intro w1 hw1')
   have hg1:(w.drew.setRow g C1).heap[g]?=some (.cells C1 91 (0,0)):=setRow_heap w.drew g cur _ 91 _ hcur
   go_wp2_with (refine wpList_copy_rowZ rfl (.tmp 80) (.tmp 81) 45 45 rfl 91 4 1 Tryz.underlying45 hsz g (i*4) (n+1 - i) (cap - i) ⟨vb,0,none⟩ 1 1 (by simp [Act.eval,Act.put]) (by simp [Act.eval,Act.put]) C1 91 hg1 ys (by simp only [Nat.min_def]; split <;> omega) (by omega) hycd (by rw [hy,hC1s]; omega) h1y ?_; rw [← HC2.out])
   go_ret
   refine⟨g,cap,rfl,⟨?_,.inr ⟨g,cap,C2,rfl,hb,setRow_heap _ g C1 C2 91 _ hg1,hroom,hmax,hC2s,HF.out⟩⟩,⟨rfl,rfl,rfl,by simp [World.setRow],fun k hk hne=>?_⟩,.inl rfl⟩
   ·rw [← HF.out,List.length_take,Array.length_toList,hC2s]; omega
   ·have hkg:k≠g:=fun e=>hne (by rw [e]; rfl)
    rw [setRow_other _ _ _ _ hkg,setRow_other _ _ _ _ hkg]; rfl
  ·have hik:i+(n+1 - i)=n+1:=by omega
   have hkk:(n:Int)+1 - (i:Int)=((n+1 - i:Nat):Int):=by omega
   have hold:(Builtin.firstCells i9.size i (.slice (some ⟨g,0,none⟩) i cap)).run Tryz.prog w.drew = .ok (xs.take (i*4)).toArray w.drew:=by
    rw [hz91]
    exact run_firstCells_some w.drew 4 i ⟨g,0,none⟩ i cap (xs.take (i*4)) (by rw [List.length_take,hxl]; omega) (fun j u hj=>by
     rw [Addr.add_lit]
     rw [List.getElem?_take] at hj
     split at hj
     ·show w.cell? _=_
      rw [World.cell?,hcur]
      have:cur.toList[j]?=some u:=by rw [hrest,List.getElem?_append_left (List.getElem?_eq_some_iff.1 hj).1]; exact hj
      simpa using this
     ·cases hj)
   obtain⟨zv,hzv⟩:∃zv:Value,zv = .agg #[.int .i64 0,.int .i64 0,.int .i64 0,.bool false]:=⟨_,rfl⟩
   have hzc:zv.cells.size=4:=by rw [hzv]; rfl
   rw [← hzv] at hz90
   have hrz:∀ty,(Builtin.append_ #[45,3] ty #[.slice (some ⟨g,0,none⟩) i cap,.int .i64 ((n:Int)+1 - (i:Int))]).run Tryz.prog w =
     .ok (.slice (some ⟨w.heap.size,0,none⟩) (n+1) (grownCap w (n+1) cap 91)) (w.drew.alloc (.cells ((xs.take (i*4)).toArray++Builtin.zeroCells zv.cells (n+1 - i)++Builtin.zeroCells zv.cells (grownCap w (n+1) cap 91 - (n+1))) 91)):=fun ty=>by
    have h:=Lib.run_append_grow_zeros w 45 3 ty 91 i9 _ .i64 .i64 Tryz.underlying45 Tryz.underlying3 hi9 hz90 (some ⟨g,0,none⟩) i cap (xs.take (i*4)) hold (n+1 - i) (by omega) (by omega) (by omega) (by omega) (by rw [hz92]; omega) (by rw [hz92,hik]; exact growslice_fits (by omega) (by omega))
    rw [hik] at h
    rw [hkk]
    exact h
   obtain⟨G,hG⟩:∃G,G=grownCap w (n+1) cap 91:=⟨_,rfl⟩
   have hGn:n+1≤G:=by rw [hG]; exact grownCap_ge w _ _ _
   have hG63:G≤maxLen:=by rw [hG]; exact grownCap_le_maxLen w (n+1) cap 91 (by unfold maxLen; omega)
   obtain⟨Z1,hZ1⟩:∃Z1:List Value,Z1=(Builtin.zeroCells zv.cells (n+1 - i)).toList:=⟨_,rfl⟩
   obtain⟨Z2,hZ2⟩:∃Z2:List Value,Z2=(Builtin.zeroCells zv.cells (G - (n+1))).toList:=⟨_,rfl⟩
   have hZ1l:Z1.length=(n+1 - i)*4:=by rw [hZ1]; simp [Builtin.zeroCells,hzc,Nat.mul_comm]
   have hZ2l:Z2.length=(G - (n+1))*4:=by rw [hZ2]; simp [Builtin.zeroCells,hzc,Nat.mul_comm]
   obtain⟨ROW,hROW⟩:∃ROW:Array Value,ROW=(xs.take (i*4)).toArray++Builtin.zeroCells zv.cells (n+1 - i)++Builtin.zeroCells zv.cells (G - (n+1)):=⟨_,rfl⟩
   rw [← hG,← hROW] at hrz
   have hRL:ROW.toList=xs.take (i*4)++Z1++Z2:=by rw [hROW,hZ1,hZ2]; simp
   have hRs:ROW.size=G*4:=by
    rw [← Array.length_toList,hRL]; simp only [List.length_append,List.length_take,hxl,hZ1l,hZ2l]; omega
   obtain⟨C1,hC1⟩:∃C1:Array Value,C1=(ROW.toList.take (i*4)++ys++ROW.toList.drop (i*4+ys.length)).toArray:=⟨_,rfl⟩
   obtain⟨C2,hC2⟩:∃C2:Array Value,C2=(C1.toList.take ((i+1)*4)++xs.drop (i*4)++C1.toList.drop ((i+1)*4+(xs.drop (i*4)).length)).toArray:=⟨_,rfl⟩
   have hC1s:C1.size=G*4:=by
    rw [hC1]; simp only [List.size_toArray,List.length_append,List.length_take,List.length_drop,Array.length_toList,hy,hRs]; omega
   have hC2s:C2.size=G*4:=by
    rw [hC2]; simp only [List.size_toArray,List.length_append,List.length_take,List.length_drop,Array.length_toList,hdl,hxl,hC1s]; omega
   have hfin:C2.toList.take ((n+1)*4)=xs.take (i*4)++ys++xs.drop (i*4):=by
    rw [hC2,hC1,hRL]
    exact rowIns2 xs ys Z1 Z2 i n 4 hxl hi hy hZ1l
   have HC1:=Lib.hid hC1
   have HC2:=Lib.hid hC2
   have HF:=Lib.hid hfin
   obtain⟨W1,hW1⟩:∃W1,W1=w.drew.alloc (.cells ROW 91):=⟨_,rfl⟩
   have hg0:W1.heap[w.heap.size]?=some (.cells ROW 91 (0,0)):=by rw [hW1]; exact heap_alloc_new w.drew _
   have hold1:∀k,k<w.heap.size→W1.heap[k]?=w.heap[k]?:=fun k hk=>by rw [hW1]; exact blk_alloc_lt w.drew _ _ hk
   have hW1s:W1.os=w.os∧W1.tape=w.tape∧W1.output=w.output∧W1.heap.size=w.heap.size+1:=by rw [hW1]; exact⟨rfl,rfl,rfl,by show (w.drew.alloc _).heap.size=w.drew.heap.size+1; simp⟩
   rw [← hW1] at hrz
   have hyc1:∀j u,ys[j]?=some u→W1.cell? ((⟨vb,0,none⟩:Addr).add j)=some u:=fun j u hj=>by
    have:=hyc j u hj
    rw [Addr.add_lit] at this ⊢
    exact (World.cell?_of_block (a:=⟨vb,0+j,none⟩) (hold1 vb hvw)).trans this
   have hg1:(W1.setRow w.heap.size C1).heap[w.heap.size]?=some (.cells C1 91 (0,0)):=setRow_heap W1 _ ROW _ 91 _ hg0
   have hxc1:∀j u,(xs.drop (i*4))[j]?=some u→(W1.setRow w.heap.size C1).drew.cell? ((⟨g,i*4,none⟩:Addr).add j)=some u:=fun j u hj=>by
    have:=hxc j u hj
    rw [Addr.add_lit] at this ⊢
    have e:(W1.setRow w.heap.size C1).heap[g]?=w.heap[g]?:=(setRow_other W1 w.heap.size g C1 (by omega)).trans (hold1 g hgl)
    exact (World.cell?_of_block (a:=⟨g,i*4+j,none⟩) e).trans this
   have hGi:¬ (G=i):=by omega
   have hGim:¬ (G=i+1):=by omega
   have hci:¬ (cap=i):=by omega
   have hb1:(0:Int)≤(i:Int)+1:=by omega
   have htn:((i:Int)+1).toNat=i+1:=by omega
   have hb3:(i:Int)≤(n:Int):=by omega
   have hb5:(cap:Int)<(n:Int)+1:=by omega
   have hG630:G≤9223372036854775807:=by unfold maxLen at hG63; omega
   clear hC1 hC2 hfin hrest hyc hROW hRL hG hZ1 hZ2 hzv hold hkk hxc hW1
   go_enter Tryz.func48,Tryz.ntmps48
   go_wp2_with (first
    | (at_builtin; refine Lib.wpList_append_run _ rfl _ _ _ _ rfl _ _ rfl rfl _ _ (hrz _) ?_)
    | (refine wpList_copy_rowZ rfl (.tmp 43) (.tmp 44) 45 45 rfl 91 4 1 Tryz.underlying45 hsz w.heap.size (i*4) (n+1 - i) (G - i) ⟨vb,0,none⟩ 1 1 (by simp [Act.eval,Act.put]) (by simp [Act.eval,Act.put]) ROW 91 hg0 ys (by simp only [Nat.min_def]; split <;> omega) (by omega) hyc1 (by rw [hy,hRs]; omega) h1y ?_; rw [← HC1.out]))
   go_region_law (refine step_copy_rowZ rfl (.tmp 50) (.tmp 53) 45 45 rfl 91 4 (n - i) Tryz.underlying45 hsz w.heap.size ((i+1)*4) (n+1 - (i+1)) (G - (i+1)) ⟨g,i*4,none⟩ (n - i) (cap - i) (by simp [Act.eval,Act.put]) (by simp [Act.eval,Act.put]) C1 91 hg1 (xs.drop (i*4)) (by simp only [Nat.min_def]; split <;> omega) hdl hxc1 (by rw [hdl,hC1s]; omega) h1d ?_; rw [← HC2.out]; intro w1 hw1')
   go_wp2
   go_ret
   obtain⟨q1,q2,q3,q4⟩:=hW1s
   refine⟨w.heap.size,G,rfl,⟨?_,.inr ⟨w.heap.size,G,C2,rfl,hB,setRow_heap (W1.setRow w.heap.size C1).drew _ C1 C2 91 _ hg1,hGn,hG63,hC2s,HF.out⟩⟩,⟨q1,q2,q3,by rw [size_setRow]; show _≤(W1.setRow _ _).heap.size; rw [size_setRow]; omega,fun k hk hne=>?_⟩,.inr rfl⟩
   ·rw [← HF.out,List.length_take,Array.length_toList,hC2s]; omega
   ·have hkg:k≠w.heap.size:=by omega
    rw [setRow_other _ _ _ _ hkg]
    show (W1.setRow w.heap.size C1).heap[k]?=_
    rw [setRow_other _ _ _ _ hkg]
    exact hold1 k hk
theorem Tryz.info99:(Tryz.prog.info? 99).map (fun i=>(i.zero,i.size,i.bytes))=some (some (.agg #[.int .i64 0,.int .i64 0,.bool false,.slice none 0 0,.slice none 0 0,.slice none 0 0]),6,96):=by kernel_rfl
def InsB (B:Nat) (v:Value) (n:Nat) (xs ys:List Value) (i:Nat) (w:World) (e:Ending) (w':World):Prop:=
 ∃g cap,e = .returned (.slice (some ⟨g,0,none⟩) (n+1) cap)∧w'.ownsRow B 99 6 (.slice (some ⟨g,0,none⟩) (n+1) cap) (n+1) (xs.take (i*6)++ys++xs.drop (i*6))∧w.grownBy w' v.ownBlock∧(v.ownBlock=some g∨g=w.heap.size)
set_option maxHeartbeats 8000000 in
set_option maxRecDepth 100000 in
theorem Tryz.InsertB_walk (B:Nat) (v:Value) (n:Nat) (xs:List Value) (vb:Nat) (ys:List Value) (i:Nat) (w:World) (hn:n≤1000) (hin:i≤n) (hown:w.ownsRow B 99 6 v n xs) (hB:B≤w.heap.size)
  (hne:v.ownBlock≠some vb) (hvb:w.heap[vb]?=some (.cells ys.toArray 99 (0,0))) (hy:ys.length=6) (h1:∀x∈xs,x.oneCell'=true) (h1y:∀y∈ys,y.oneCell'=true) :
  Calls Tryz.prog 70 #[v,.int .i64 i,.slice (some ⟨vb,0,none⟩) 1 1] w (InsB B v n xs ys i w):=by
 obtain⟨i9,hi9,hz90,hz91,hz92⟩:=info_parts Tryz.info99
 have hsz:(Tryz.prog.info? 99).map (·.size)=some 6:=by rw [hi9]; simp [hz91]
 have hvw:vb<w.heap.size:=(Array.getElem?_eq_some_iff.1 hvb).1
 have hyc:∀j u,ys[j]?=some u→w.cell? ((⟨vb,0,none⟩:Addr).add j)=some u:=fun j u hj=>by
  rw [Addr.add_lit,World.cell?,hvb]; simpa using hj
 by_cases hi:i=n
 ·subst hi
  rcases hown.2 with⟨rfl,h0⟩ | ⟨g,cap,cur,rfl,hb,hcur,hcap,hmax,hcs,htake⟩
  ·subst h0
   go_enter Tryz.func70,Tryz.ntmps70
   go_wp2_with (at_builtin; refine wpList_append_lies _ rfl (.tmp 23) (.tmp 24) 54 rfl B 99 i9 _ 6 96 Tryz.underlying54 hi9 hz90 hz91 hz92 rfl (by decide) _ _ _ rfl hown ⟨vb,0,none⟩ 1 1 ys rfl (by simpa using hy) hyc h1y (by omega) (by unfold maxLen; omega) (by omega) hB _ rfl ?_; intro gg ncap wA hownA hgrow hat hlt2)
   go_ret
   refine⟨gg,ncap,rfl,?_,hgrow,hat⟩
   have hx:xs=[]:=List.eq_nil_of_length_eq_zero (by rw [hown.1])
   subst hx
   simpa using hownA
  ·go_enter Tryz.func70,Tryz.ntmps70
   go_wp2_with (at_builtin; refine wpList_append_lies _ rfl (.tmp 23) (.tmp 24) 54 rfl B 99 i9 _ 6 96 Tryz.underlying54 hi9 hz90 hz91 hz92 rfl (by decide) _ _ _ rfl hown ⟨vb,0,none⟩ 1 1 ys rfl (by simpa using hy) hyc h1y (by omega) (by unfold maxLen; omega) (by omega) hB _ rfl ?_; intro gg ncap wA hownA hgrow hat hlt2)
   all_goals
    go_ret
    refine⟨gg,ncap,rfl,?_,hgrow,hat⟩
    have hx:xs.take (i*6)=xs:=List.take_of_length_le (Nat.le_of_eq hown.1)
    have hx2:xs.drop (i*6)=[]:=List.drop_of_length_le (Nat.le_of_eq hown.1)
    rw [hx,hx2,List.append_nil]
    exact hownA
 ·have hi:i<n:=by omega
  rcases hown.2 with⟨rfl,h0⟩ | ⟨g,cap,cur,rfl,hb,hcur,hcap,hmax,hcs,htake⟩
  ·omega
  have hgl:g<w.heap.size:=(Array.getElem?_eq_some_iff.1 hcur).1
  have hxl:xs.length=n*6:=hown.1
  have hgv:g≠vb:=fun e=>hne (by rw [e]; rfl)
  have hcurx:∃rest,cur.toList=xs++rest:=⟨cur.toList.drop (n*6),by rw [← htake,List.take_append_drop]⟩
  obtain⟨rest,hrest⟩:=hcurx
  have hcur_len:cur.size=xs.length+rest.length:=by rw [← Array.length_toList,hrest,List.length_append]
  have hxc:∀j u,(xs.drop (i*6))[j]?=some u→w.cell? ((⟨g,i*6,none⟩:Addr).add j)=some u:=fun j u hj=>by
   rw [Addr.add_lit,World.cell?,hcur]
   rw [List.getElem?_drop] at hj
   have:cur.toList[i*6+j]?=some u:=by rw [hrest,List.getElem?_append_left (List.getElem?_eq_some_iff.1 hj).1]; exact hj
   simpa using this
  have hdl:(xs.drop (i*6)).length=(n - i)*6:=by rw [List.length_drop,hxl]; omega
  have h1d:∀x∈xs.drop (i*6),x.oneCell'=true:=fun x hx=>h1 x (List.mem_of_mem_drop hx)
  have hw1:IntKind.i64.wrap ((i:Int)+1)=(i:Int)+1:=by rw [IntKind.wrap_i64]; omega
  have hw2:IntKind.i64.wrap ((n:Int)+1)=(n:Int)+1:=by rw [IntKind.wrap_i64]; omega
  have hz2:¬ ((i:Int)=(n:Int)):=by omega
  by_cases hroom:n+1≤cap
  ·have hov:∀lb cb,(callFunc 105 #[.slice (some ⟨vb,0,none⟩) 1 1,.slice (some ⟨g,(i+1)*6,none⟩) lb cb]).run Tryz.prog w = .ok (.value (.bool false)) w:=fun lb cb=>by
    rw [run_callFunc_extern Tryz.func105 (by kernel_rfl) (by kernel_rfl) (by kernel_rfl) (e:=Extern.SlicesOverlaps.overlaps #[54,54] #[4]) (by kernel_rfl),
     Lib.run_overlaps_apart w 54 4 99 Tryz.underlying54 6 Tryz.sizeOf99 ⟨vb,0,none⟩ ⟨g,(i+1)*6,none⟩ 1 1 lb cb (fun e=>hgv e.symm) 99 99 ys.toArray.size cur.size (by simp [World.shape?,hvb]) (by simp [World.shape?,hcur]) (by omega) (by simp [World.frozen?,hvb]) (by simp [World.frozen?,hvb])]
    rfl
   have hb1:(0:Int)≤(i:Int)+1:=by omega
   have hin':i≤n:=by omega
   have htn:((i:Int)+1).toNat=i+1:=by omega
   have htn2:((n:Int)+1).toNat=n+1:=by omega
   have hb2:¬ (cap=i+1):=by omega
   have hb3:(i:Int)≤(n:Int)+1:=by omega
   have hb4:¬ (cap=i):=by omega
   have hb5:¬ ((cap:Int)<(n:Int)+1):=by omega
   obtain⟨C1,hC1⟩:∃C1:Array Value,C1=(cur.toList.take ((i+1)*6)++xs.drop (i*6)++cur.toList.drop ((i+1)*6+(xs.drop (i*6)).length)).toArray:=⟨_,rfl⟩
   obtain⟨C2,hC2⟩:∃C2:Array Value,C2=(C1.toList.take (i*6)++ys++C1.toList.drop (i*6+ys.length)).toArray:=⟨_,rfl⟩
   have hC1s:C1.size=cap*6:=by
    rw [hC1]; simp only [List.size_toArray,List.length_append,List.length_take,List.length_drop,Array.length_toList,hdl,hcs,hxl]; omega
   have hC2s:C2.size=cap*6:=by
    rw [hC2]; simp only [List.size_toArray,List.length_append,List.length_take,List.length_drop,Array.length_toList,hy,hC1s]; omega
   have hfin:C2.toList.take ((n+1)*6)=xs.take (i*6)++ys++xs.drop (i*6):=by
    rw [hC2,hC1,hrest]
    exact rowIns xs ys rest i n 6 hxl hi hy (by rw [hcs,hxl] at hcur_len; omega)
   have HC1:=Lib.hid hC1
   have HC2:=Lib.hid hC2
   have HF:=Lib.hid hfin
   have HR:=Lib.hid hrest
   have hycd:∀j u,ys[j]?=some u→(w.drew.setRow g C1).cell? ((⟨vb,0,none⟩:Addr).add j)=some u:=fun j u hj=>by
    rw [Addr.add_lit,World.cell?_of_block (w:=w.drew) (setRow_other w.drew g vb C1 (fun e=>hgv e.symm))]
    have:=hyc j u hj
    rw [Addr.add_lit] at this
    exact this
   clear hC1 hC2 hfin hrest hyc
   go_enter Tryz.func70,Tryz.ntmps70
   go_wp2_with (simp only [hov])
   go_region_law (refine step_copy_rowZ rfl (.tmp 73) (.tmp 76) 54 54 rfl 99 6 (n - i) Tryz.underlying54 hsz g ((i+1)*6) (n+1 - (i+1)) (cap - (i+1)) ⟨g,i*6,none⟩ (n+1 - i) (cap - i) (by simp [Act.eval,Act.put]) (by simp [Act.eval,Act.put]) cur 99 hcur (xs.drop (i*6)) (by simp only [Nat.min_def]; split <;> omega) hdl hxc (by rw [hdl,hcur_len,hxl]; omega) h1d ?_; rw [← HC1.out]; intro w1 hw1')
   have hg1:(w.drew.setRow g C1).heap[g]?=some (.cells C1 99 (0,0)):=setRow_heap w.drew g cur _ 99 _ hcur
   go_wp2_with (refine wpList_copy_rowZ rfl (.tmp 80) (.tmp 81) 54 54 rfl 99 6 1 Tryz.underlying54 hsz g (i*6) (n+1 - i) (cap - i) ⟨vb,0,none⟩ 1 1 (by simp [Act.eval,Act.put]) (by simp [Act.eval,Act.put]) C1 99 hg1 ys (by simp only [Nat.min_def]; split <;> omega) (by omega) hycd (by rw [hy,hC1s]; omega) h1y ?_; rw [← HC2.out])
   go_ret
   refine⟨g,cap,rfl,⟨?_,.inr ⟨g,cap,C2,rfl,hb,setRow_heap _ g C1 C2 99 _ hg1,hroom,hmax,hC2s,HF.out⟩⟩,⟨rfl,rfl,rfl,by simp [World.setRow],fun k hk hne=>?_⟩,.inl rfl⟩
   ·rw [← HF.out,List.length_take,Array.length_toList,hC2s]; omega
   ·have hkg:k≠g:=fun e=>hne (by rw [e]; rfl)
    rw [setRow_other _ _ _ _ hkg,setRow_other _ _ _ _ hkg]; rfl
  ·have hik:i+(n+1 - i)=n+1:=by omega
   have hkk:(n:Int)+1 - (i:Int)=((n+1 - i:Nat):Int):=by omega
   have hold:(Builtin.firstCells i9.size i (.slice (some ⟨g,0,none⟩) i cap)).run Tryz.prog w.drew = .ok (xs.take (i*6)).toArray w.drew:=by
    rw [hz91]
    exact run_firstCells_some w.drew 6 i ⟨g,0,none⟩ i cap (xs.take (i*6)) (by rw [List.length_take,hxl]; omega) (fun j u hj=>by
     rw [Addr.add_lit]
     rw [List.getElem?_take] at hj
     split at hj
     ·show w.cell? _=_
      rw [World.cell?,hcur]
      have:cur.toList[j]?=some u:=by rw [hrest,List.getElem?_append_left (List.getElem?_eq_some_iff.1 hj).1]; exact hj
      simpa using this
     ·cases hj)
   obtain⟨zv,hzv⟩:∃zv:Value,zv = .agg #[.int .i64 0,.int .i64 0,.bool false,.slice none 0 0,.slice none 0 0,.slice none 0 0]:=⟨_,rfl⟩
   have hzc:zv.cells.size=6:=by rw [hzv]; rfl
   rw [← hzv] at hz90
   have hrz:∀ty,(Builtin.append_ #[54,3] ty #[.slice (some ⟨g,0,none⟩) i cap,.int .i64 ((n:Int)+1 - (i:Int))]).run Tryz.prog w =
     .ok (.slice (some ⟨w.heap.size,0,none⟩) (n+1) (grownCap w (n+1) cap 99)) (w.drew.alloc (.cells ((xs.take (i*6)).toArray++Builtin.zeroCells zv.cells (n+1 - i)++Builtin.zeroCells zv.cells (grownCap w (n+1) cap 99 - (n+1))) 99)):=fun ty=>by
    have h:=Lib.run_append_grow_zeros w 54 3 ty 99 i9 _ .i64 .i64 Tryz.underlying54 Tryz.underlying3 hi9 hz90 (some ⟨g,0,none⟩) i cap (xs.take (i*6)) hold (n+1 - i) (by omega) (by omega) (by omega) (by omega) (by rw [hz92]; omega) (by rw [hz92,hik]; exact growslice_fits (by omega) (by omega))
    rw [hik] at h
    rw [hkk]
    exact h
   obtain⟨G,hG⟩:∃G,G=grownCap w (n+1) cap 99:=⟨_,rfl⟩
   have hGn:n+1≤G:=by rw [hG]; exact grownCap_ge w _ _ _
   have hG63:G≤maxLen:=by rw [hG]; exact grownCap_le_maxLen w (n+1) cap 99 (by unfold maxLen; omega)
   obtain⟨Z1,hZ1⟩:∃Z1:List Value,Z1=(Builtin.zeroCells zv.cells (n+1 - i)).toList:=⟨_,rfl⟩
   obtain⟨Z2,hZ2⟩:∃Z2:List Value,Z2=(Builtin.zeroCells zv.cells (G - (n+1))).toList:=⟨_,rfl⟩
   have hZ1l:Z1.length=(n+1 - i)*6:=by rw [hZ1]; simp [Builtin.zeroCells,hzc,Nat.mul_comm]
   have hZ2l:Z2.length=(G - (n+1))*6:=by rw [hZ2]; simp [Builtin.zeroCells,hzc,Nat.mul_comm]
   obtain⟨ROW,hROW⟩:∃ROW:Array Value,ROW=(xs.take (i*6)).toArray++Builtin.zeroCells zv.cells (n+1 - i)++Builtin.zeroCells zv.cells (G - (n+1)):=⟨_,rfl⟩
   rw [← hG,← hROW] at hrz
   have hRL:ROW.toList=xs.take (i*6)++Z1++Z2:=by rw [hROW,hZ1,hZ2]; simp
   have hRs:ROW.size=G*6:=by
    rw [← Array.length_toList,hRL]; simp only [List.length_append,List.length_take,hxl,hZ1l,hZ2l]; omega
   obtain⟨C1,hC1⟩:∃C1:Array Value,C1=(ROW.toList.take (i*6)++ys++ROW.toList.drop (i*6+ys.length)).toArray:=⟨_,rfl⟩
   obtain⟨C2,hC2⟩:∃C2:Array Value,C2=(C1.toList.take ((i+1)*6)++xs.drop (i*6)++C1.toList.drop ((i+1)*6+(xs.drop (i*6)).length)).toArray:=⟨_,rfl⟩
   have hC1s:C1.size=G*6:=by
    rw [hC1]; simp only [List.size_toArray,List.length_append,List.length_take,List.length_drop,Array.length_toList,hy,hRs]; omega
   have hC2s:C2.size=G*6:=by
    rw [hC2]; simp only [List.size_toArray,List.length_append,List.length_take,List.length_drop,Array.length_toList,hdl,hxl,hC1s]; omega
   have hfin:C2.toList.take ((n+1)*6)=xs.take (i*6)++ys++xs.drop (i*6):=by
    rw [hC2,hC1,hRL]
    exact rowIns2 xs ys Z1 Z2 i n 6 hxl hi hy hZ1l
   have HC1:=Lib.hid hC1
   have HC2:=Lib.hid hC2
   have HF:=Lib.hid hfin
   obtain⟨W1,hW1⟩:∃W1,W1=w.drew.alloc (.cells ROW 99):=⟨_,rfl⟩
   have hg0:W1.heap[w.heap.size]?=some (.cells ROW 99 (0,0)):=by rw [hW1]; exact heap_alloc_new w.drew _
   have hold1:∀k,k<w.heap.size→W1.heap[k]?=w.heap[k]?:=fun k hk=>by rw [hW1]; exact blk_alloc_lt w.drew _ _ hk
   have hW1s:W1.os=w.os∧W1.tape=w.tape∧W1.output=w.output∧W1.heap.size=w.heap.size+1:=by rw [hW1]; exact⟨rfl,rfl,rfl,by show (w.drew.alloc _).heap.size=w.drew.heap.size+1; simp⟩
   rw [← hW1] at hrz
   have hyc1:∀j u,ys[j]?=some u→W1.cell? ((⟨vb,0,none⟩:Addr).add j)=some u:=fun j u hj=>by
    have:=hyc j u hj
    rw [Addr.add_lit] at this ⊢
    exact (World.cell?_of_block (a:=⟨vb,0+j,none⟩) (hold1 vb hvw)).trans this
   have hg1:(W1.setRow w.heap.size C1).heap[w.heap.size]?=some (.cells C1 99 (0,0)):=setRow_heap W1 _ ROW _ 99 _ hg0
   have hxc1:∀j u,(xs.drop (i*6))[j]?=some u→(W1.setRow w.heap.size C1).drew.cell? ((⟨g,i*6,none⟩:Addr).add j)=some u:=fun j u hj=>by
    have:=hxc j u hj
    rw [Addr.add_lit] at this ⊢
    have e:(W1.setRow w.heap.size C1).heap[g]?=w.heap[g]?:=(setRow_other W1 w.heap.size g C1 (by omega)).trans (hold1 g hgl)
    exact (World.cell?_of_block (a:=⟨g,i*6+j,none⟩) e).trans this
   have hGi:¬ (G=i):=by omega
   have hGim:¬ (G=i+1):=by omega
   have hci:¬ (cap=i):=by omega
   have hb1:(0:Int)≤(i:Int)+1:=by omega
   have htn:((i:Int)+1).toNat=i+1:=by omega
   have hb3:(i:Int)≤(n:Int):=by omega
   have hb5:(cap:Int)<(n:Int)+1:=by omega
   have hG630:G≤9223372036854775807:=by unfold maxLen at hG63; omega
   clear hC1 hC2 hfin hrest hyc hROW hRL hG hZ1 hZ2 hzv hold hkk hxc hW1
   go_enter Tryz.func70,Tryz.ntmps70
   go_wp2_with (first
    | (at_builtin; refine Lib.wpList_append_run _ rfl _ _ _ _ rfl _ _ rfl rfl _ _ (hrz _) ?_)
    | (refine wpList_copy_rowZ rfl (.tmp 43) (.tmp 44) 54 54 rfl 99 6 1 Tryz.underlying54 hsz w.heap.size (i*6) (n+1 - i) (G - i) ⟨vb,0,none⟩ 1 1 (by simp [Act.eval,Act.put]) (by simp [Act.eval,Act.put]) ROW 99 hg0 ys (by simp only [Nat.min_def]; split <;> omega) (by omega) hyc1 (by rw [hy,hRs]; omega) h1y ?_; rw [← HC1.out]))
   go_region_law (refine step_copy_rowZ rfl (.tmp 50) (.tmp 53) 54 54 rfl 99 6 (n - i) Tryz.underlying54 hsz w.heap.size ((i+1)*6) (n+1 - (i+1)) (G - (i+1)) ⟨g,i*6,none⟩ (n - i) (cap - i) (by simp [Act.eval,Act.put]) (by simp [Act.eval,Act.put]) C1 99 hg1 (xs.drop (i*6)) (by simp only [Nat.min_def]; split <;> omega) hdl hxc1 (by rw [hdl,hC1s]; omega) h1d ?_; rw [← HC2.out]; intro w1 hw1')
   go_wp2
   go_ret
   obtain⟨q1,q2,q3,q4⟩:=hW1s
   refine⟨w.heap.size,G,rfl,⟨?_,.inr ⟨w.heap.size,G,C2,rfl,hB,setRow_heap (W1.setRow w.heap.size C1).drew _ C1 C2 99 _ hg1,hGn,hG63,hC2s,HF.out⟩⟩,⟨q1,q2,q3,by rw [size_setRow]; show _≤(W1.setRow _ _).heap.size; rw [size_setRow]; omega,fun k hk hne=>?_⟩,.inr rfl⟩
   ·rw [← HF.out,List.length_take,Array.length_toList,hC2s]; omega
   ·have hkg:k≠w.heap.size:=by omega
    rw [setRow_other _ _ _ _ hkg]
    show (W1.setRow w.heap.size C1).heap[k]?=_
    rw [setRow_other _ _ _ _ hkg]
    exact hold1 k hk
end Go.Proofs
namespace Go.Proofs
open Go.RowKit Go.LS Go.Deep
set_option linter.all false
theorem setCells_setRow (w:World) (g o:Nat) (t:TypeId) (vs:List Value) (cur:Array Value) (hg:w.heap[g]?=some (.cells cur t (0,0))) (hfit:o+vs.length≤cur.size) (h1:∀v∈vs,v.oneCell'=true) :
  w.setCells g o vs=w.setRow g (cur.toList.take o++vs++cur.toList.drop (o+vs.length)).toArray:=by
 have a:=run_storeCells_at Tryz.prog g o t vs 0 cur w hg (by simpa using hfit) h1
 have b:=run_storeCells_cells (P:=Tryz.prog) g o vs 0 w (fun j hj=>by simp [World.cell?,hg]; omega) (fun j hj=>by simp [World.frozen?,hg]) h1
 rw [a] at b
 simp only [Nat.add_zero] at b
 injection b with _ b
 exact b.symm
theorem run_clear_rowZ {P:Program}(w:World) (t e ty:TypeId) (zv:Value) (z:Nat) (ht:P.underlying t=some (.slice e)) (hv:∀w,(zeroValue e).run P w = .ok zv w) (hz:zv.cells.size=z) (g o c:Nat) (cur:Array Value) (tt:TypeId) (hg:w.heap[g]?=some (.cells cur tt (0,0)))
  (h1:∀v∈zv.cells.toList,v.oneCell'=true) (hz0:0<z) (hfit:o+z≤cur.size) :
  (Builtin.clear_ #[t] ty #[.slice (some ⟨g,o,none⟩) 1 c]).run P w = .ok (.tuple #[]) (w.setRow g (cur.toList.take o++zv.cells.toList++cur.toList.drop (o+z)).toArray):=by
 have hzc:(Builtin.zeroCells zv.cells 1).toList=zv.cells.toList:=by
  simp [Builtin.zeroCells]
  apply List.ext_getElem
  ·simp
  ·intro i h1 h2
   have hi:i<zv.cells.size:=by simpa using h1
   simp [Nat.mod_eq_of_lt hi,hi]
 have hst:=run_storeCells_at P g o tt zv.cells.toList 0 cur w hg (by simpa [hz] using hfit) h1
 simp only [Nat.add_zero,Array.length_toList,hz] at hst
 simp [Builtin.clear_,run_underlying ht,hv,hzc,hst]
theorem wpList_clear_run {P:Program}{w:World}{ops:Array Oper}{rest:List Oper}{o:Oper}{a:Act}{Q:Exit→Act→World→Prop}(hgd:o.guard=none) (d:Operand) (t:TypeId)
  (ho:o.op = .call { callee:=.builtin .clear,args := #[d],argTypes := #[t] }) (v:Value) (hd:a.eval d=v) {v':Value} {w':World}
  (hr:(Builtin.clear_ #[t] o.type #[v]).run P w = .ok v' w') (h:wpList P ops Q rest (a.put o.dst v') w'):wpList P ops Q (o :: rest) a w:=by
 refine wpList_plain hgd fun _ hK=>?_
 unfold Oper.wp execOp
 simp only [ho,resolve,invoke,builtin,Sem.run_bind,Sem.run_pure,Result.andThen_ok,List.map_toArray,List.map_cons,List.map_nil,hd,hr]
 exact hK _ _ h
theorem delRow (xs rest zs:List Value) (i n z:Nat) (hl:xs.length=n*z) (hin:i<n) (hz:zs.length=z) :
  (((xs++rest).take (i*z)++xs.drop ((i+1)*z)++(xs++rest).drop (i*z+(xs.drop ((i+1)*z)).length)).take ((n - 1)*z)++zs ++
   ((xs++rest).take (i*z)++xs.drop ((i+1)*z)++(xs++rest).drop (i*z+(xs.drop ((i+1)*z)).length)).drop ((n - 1)*z+z)).take ((n - 1)*z)=xs.take (i*z)++xs.drop ((i+1)*z):=by
 have e1:(i+1)*z=i*z+z:=Nat.succ_mul i z
 obtain⟨m,rfl⟩:∃m,n=m+1:=⟨n - 1,by omega⟩
 have e2:(m+1)*z=m*z+z:=Nat.succ_mul m z
 have hiz:i*z≤m*z:=Nat.mul_le_mul_right z (by omega)
 rw [e2] at hl
 rw [e1,Nat.add_sub_cancel]
 have hd:(xs.drop (i*z+z)).length=m*z - i*z:=by rw [List.length_drop,hl]; omega
 have ht:((xs++rest).take (i*z)).length=i*z:=by rw [List.length_take,List.length_append]; omega
 have h2:((xs++rest).take (i*z)++xs.drop (i*z+z)++(xs++rest).drop (i*z+(xs.drop (i*z+z)).length)).take (m*z)=xs.take (i*z)++xs.drop (i*z+z):=by
  rw [List.take_append_of_le_length (by simp only [List.length_append,ht,hd]; omega),List.take_of_length_le (by simp only [List.length_append,ht,hd]; omega),List.take_append_of_le_length (by omega)]
 rw [h2,List.append_assoc,List.take_append_of_le_length (by simp only [List.length_append,List.length_take,hd,hl]; omega)]
 exact List.take_of_length_le (by simp only [List.length_append,List.length_take,hd,hl]; omega)
set_option maxHeartbeats 8000000 in
set_option maxRecDepth 100000 in
theorem Tryz.DeleteE_walk (B g:Nat) (cap n:Nat) (xs:List Value) (i:Nat) (w:World) (hn:n≤1000) (hin:i<n) (hown:w.ownsRow B 91 4 (.slice (some ⟨g,0,none⟩) n cap) n xs) (h1:∀x∈xs,x.oneCell'=true) :
  Calls Tryz.prog 49 #[.slice (some ⟨g,0,none⟩) n cap,.int .i64 i,.int .i64 ((i:Int)+1)] w fun e w'=>e = .returned (.slice (some ⟨g,0,none⟩) (n - 1) cap)∧w'.ownsRow B 91 4 (.slice (some ⟨g,0,none⟩) (n - 1) cap) (n - 1) (xs.take (i*4)++xs.drop ((i+1)*4))∧w.grownBy w' (some g):=by
 obtain⟨i9,hi9,hz90,hz91,hz92⟩:=info_parts Tryz.info91
 rcases hown.2 with⟨h0,_⟩ | ⟨g',cap',cur,hgg,hb,hcur,hcap,hmax,hcs,htake⟩
 ·cases h0
 cases hgg
 have hgl:g<w.heap.size:=(Array.getElem?_eq_some_iff.1 hcur).1
 have hxl:xs.length=n*4:=hown.1
 obtain⟨rest,hrest⟩:∃rest,cur.toList=xs++rest:=⟨cur.toList.drop (n*4),by rw [← htake,List.take_append_drop]⟩
 have hcur_len:cur.size=xs.length+rest.length:=by rw [← Array.length_toList,hrest,List.length_append]
 obtain⟨news,hnews⟩:∃news,news=xs.drop ((i+1)*4):=⟨_,rfl⟩
 have hdl:news.length=(n - (i+1))*4:=by rw [hnews,List.length_drop,hxl]; omega
 have h1d:∀x∈news,x.oneCell'=true:=fun x hx=>h1 x (by rw [hnews] at hx; exact List.mem_of_mem_drop hx)
 obtain⟨A,hA,hsrc⟩:∃A:Addr,(if cap=i+1 then some (⟨g,0,none⟩:Addr) else some ⟨g,(i+1)*4,none⟩)=some A∧Hid (∀j u,news[j]?=some u→w.drew.cell? (A.add j)=some u):=by
  by_cases h:cap=i+1
  ·refine⟨⟨g,0,none⟩,by simp [h],fun t u hu=>?_⟩
   have h0:news.length=0:=by rw [hdl]; omega
   rw [List.length_eq_zero_iff.1 h0] at hu
   simp at hu
  ·refine⟨⟨g,(i+1)*4,none⟩,by simp [h],fun t u hu=>?_⟩
   rw [Addr.add_lit]
   show w.cell? _=_
   rw [World.cell?,hcur]
   rw [hnews,List.getElem?_drop] at hu
   have:cur.toList[(i+1)*4+t]?=some u:=by rw [hrest,List.getElem?_append_left (List.getElem?_eq_some_iff.1 hu).1]; exact hu
   simpa using this
 have s3:Hid (∀t,t<news.length→(w.drew.cell? ⟨g,0+i*4+t,none⟩).isSome=true∧w.drew.frozen? ⟨g,0+i*4+t,none⟩=false):=by
  intro t ht
  rw [hdl] at ht
  refine⟨?_,?_⟩
  ·show (w.cell? _).isSome=true
   simp [World.cell?,hcur]
   omega
  ·show w.frozen? _=false
   simp [World.frozen?,hcur]
 obtain⟨C1,hC1⟩:∃C1:Array Value,C1=(cur.toList.take (i*4)++news++cur.toList.drop (i*4+news.length)).toArray:=⟨_,rfl⟩
 obtain⟨zs,hzs⟩:∃zs:List Value,zs=(Value.agg #[.int .i64 0,.int .i64 0,.int .i64 0,.bool false]).cells.toList:=⟨_,rfl⟩
 have hzl:zs.length=4:=by rw [hzs]; rfl
 obtain⟨C2,hC2⟩:∃C2:Array Value,C2=(C1.toList.take ((n - 1)*4)++zs++C1.toList.drop ((n - 1)*4+4)).toArray:=⟨_,rfl⟩
 have hC1s:C1.size=cap*4:=by
  rw [hC1]; simp only [List.size_toArray,List.length_append,List.length_take,List.length_drop,Array.length_toList,hdl,hcs]; omega
 have hC2s:C2.size=cap*4:=by
  rw [hC2]; simp only [List.size_toArray,List.length_append,List.length_take,List.length_drop,Array.length_toList,hzl,hC1s]; omega
 have hfin:C2.toList.take ((n - 1)*4)=xs.take (i*4)++xs.drop ((i+1)*4):=by
  rw [hC2,hC1,hrest,hnews]
  exact delRow xs rest zs i n 4 hxl hin hzl
 obtain⟨W1,hW1⟩:∃W1,W1=w.drew.setCells g (0+i*4) news:=⟨_,rfl⟩
 have hW1':W1=w.drew.setRow g C1:=by
  rw [hW1,Nat.zero_add,hC1]
  exact setCells_setRow w.drew g (i*4) 91 news cur hcur (by rw [hdl]; omega) h1d
 have hg1:W1.heap[g]?=some (.cells C1 91 (0,0)):=by rw [hW1']; exact setRow_heap w.drew g cur _ 91 _ hcur
 have hcl:∀ty,(Builtin.clear_ #[45] ty #[.slice (some ⟨g,(n - 1)*4,none⟩) 1 (cap - (n - 1))]).run Tryz.prog W1 = .ok (.tuple #[]) (W1.setRow g C2):=fun ty=>by
  have:=run_clear_rowZ (P:=Tryz.prog) W1 45 91 ty (.agg #[.int .i64 0,.int .i64 0,.int .i64 0,.bool false]) 4 Tryz.underlying45 Tryz.zeroValue91 rfl g ((n - 1)*4) (cap - (n - 1)) C1 91 hg1 (by intro v hv; simp [Value.cells] at hv; rcases hv with rfl | rfl | rfl | rfl <;> rfl) (by omega) (by rw [hC1s]; omega)
  rw [this,hC2,hzs]
 have HC1:=Lib.hid hC1
 have HF:=Lib.hid hfin
 have HW:=Lib.hid hW1
 have HW':=Lib.hid hW1'
 have hic:i≤cap:=by omega
 have hjc:i+1≤cap:=by omega
 have hn1:i+(n - (i+1))=n - 1:=by omega
 have hn2:n - (n - 1)=1:=by omega
 have hb1:(0:Int)≤(i:Int)+1:=by omega
 have htn:((i:Int)+1).toNat=i+1:=by omega
 have hin2:(i:Int)+1≤(n:Int):=by omega
 have hne:¬ ((i:Int)=(i:Int)+1):=by omega
 clear hC1 hC2 hfin hW1 hW1' hrest hnews hzs
 go_enter Tryz.func49,Tryz.ntmps49
 go_wp2_with fail
 go_region_law (refine step_append_room rfl (.tmp 22) (.tmp 25) 45 rfl 91 i9 4 Tryz.underlying45 hi9 hz91 g 0 i cap (by simp [Act.eval,Act.put]) A (n - (i+1)) (cap - (i+1)) news (by simp [Act.eval,Act.put,hA]) hdl hsrc.out h1d (by omega) s3.out ?_; rw [← HW.out])
 go_wp2_with (refine wpList_clear_run rfl (.tmp 31) 45 rfl _ rfl (hcl _) ?_)
 go_ret
 have hW:=HW'.out
 refine⟨rfl,⟨?_,.inr ⟨g,cap,C2,rfl,hb,setRow_heap W1 g C1 C2 91 _ hg1,by omega,hmax,hC2s,HF.out⟩⟩,⟨by rw [hW]; rfl,by rw [hW]; rfl,by rw [hW]; rfl,by rw [hW,size_setRow,size_setRow]; exact Nat.le_refl _,fun k hk hne=>?_⟩⟩
 ·rw [← HF.out,List.length_take,Array.length_toList,hC2s]; omega
 ·have hkg:k≠g:=fun e=>hne (by rw [e])
  rw [setRow_other _ _ _ _ hkg,hW,setRow_other _ _ _ _ hkg]; rfl
end Go.Proofs
