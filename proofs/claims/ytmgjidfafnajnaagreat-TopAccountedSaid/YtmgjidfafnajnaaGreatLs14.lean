/-
  The framework LS, part 14: calls by contract that get logical blocks.
  No condition: lemmas.
-/
import Derived.Test.YtmgjidfafnajnaaGreatLs13
namespace Go.LS
set_option linter.all false
set_option linter.unusedSimpArgs false
set_option linter.unusedVariables false
section
variable {P:Program} {o:Oper} {a:Act} {w w' w0:World} {B:List Nat} {S S' S0:Seen} {ρ ρ':Place} {R0:Home} {st:LState} {h h':Heap}
theorem refs_killL (K:List Nat) (c:CV):∀i∈refsC (killL K c),i∉K∧i∈refsC c:=by
 intro i hi
 cases c <;> simp only [killL] at hi
 case vw k=>split at hi <;> simp_all [refsC]
 case ptr k o=>split at hi <;> simp_all [refsC]
 case ap k x y=>split at hi <;> simp_all [refsC]
 case fn f ids=>
  split at hi
  ·simp [refsC] at hi
  ·rename_i hne
   simp only [refsC] at hi ⊢
   refine⟨fun hK=>hne ?_,hi⟩
   rw [List.any_eq_true]; exact⟨i,hi,by simpa using hK⟩
 all_goals simp_all [refsC]
theorem RepC.killL {K:List Nat}{v:Value}{c:CV}(r:RepC w S ρ h v c)
  (hm:∀b o,S b o→S' b o∧w'.cell? ⟨b,o,none⟩=w.cell? ⟨b,o,none⟩) (hk:∀i,i∉K→i∈refsC c→Keeps w w' ρ ρ' h h' i):RepC w' S' ρ' h' v (LS.killL K c):=by
 by_cases hd:LS.killL K c = .dead
 ·rw [hd]; exact .dead r.plain
 ·have hc:LS.killL K c=c:=by
   cases c <;> simp only [LS.killL] at hd ⊢
   all_goals (try (split at hd <;> simp_all))
  rw [hc]
  exact r.mono hm fun i hi=>hk i (refs_killL K c i (by rw [hc]; exact hi)).1 hi
theorem RepCs.killL {K:List Nat}{vs:List Value}{cs:List CV}(r:RepCs w S ρ h vs cs)
  (hm:∀b o,S b o→S' b o∧w'.cell? ⟨b,o,none⟩=w.cell? ⟨b,o,none⟩) (hk:∀i,i∉K→i∈cs.flatMap refsC→Keeps w w' ρ ρ' h h' i):RepCs w' S' ρ' h' vs (cs.map (LS.killL K)):=
 ⟨by simpa using r.1,fun i hv hc=>by
  have hc':i<cs.length:=by simpa using hc
  simp only [List.getElem_map]; exact (r.2 i hv hc').killL hm fun k h1 h2=>hk k h1 (List.mem_flatMap.2 ⟨cs[i],List.getElem_mem hc',h2⟩)⟩
theorem RepL.killL {K:List Nat}{v:Value}{l:LV}(r:RepL w S ρ h v l)
  (hm:∀b o,S b o→S' b o∧w'.cell? ⟨b,o,none⟩=w.cell? ⟨b,o,none⟩) (hk:∀i,i∉K→i∈refsL l→Keeps w w' ρ ρ' h h' i):RepL w' S' ρ' h' v (l.map (LS.killL K)):=by
 cases l with
 | one c=>exact RepC.killL r hm hk
 | agg cs=>obtain⟨vs,rfl,r⟩:=r; exact⟨vs,rfl,r.killL hm hk⟩
theorem RepS.killL {K:List Nat}{v:Value}{s:SV}(r:RepS w S ρ h v s)
  (hm:∀b o,S b o→S' b o∧w'.cell? ⟨b,o,none⟩=w.cell? ⟨b,o,none⟩) (hk:∀i,i∉K→i∈refsS s→Keeps w w' ρ ρ' h h' i):RepS w' S' ρ' h' v (s.map (LS.killL K)):=by
 cases s with
 | dead=>trivial
 | x l=>exact RepL.killL r hm hk
 | tup ls=>
  obtain⟨vs,rfl,r⟩:=r
  exact⟨vs,rfl,by simpa using r.1,fun i hv hc=>by
   have hc':i<ls.length:=by simpa using hc
   simp only [List.getElem_map]; exact (r.2 i hv hc').killL hm fun k h1 h2=>hk k h1 (List.mem_flatMap.2 ⟨ls[i],List.getElem_mem hc',h2⟩)⟩
 | wh g l=>exact⟨fun hg=>(r.1 hg).killL hm hk,r.2⟩
theorem addRefs_nodup:∀ {acc l:List Nat},acc.Nodup→(addRefs acc l).Nodup
 | acc,[],h=>h
 | acc,x :: l,h=>by
  simp only [addRefs]
  split
  ·exact addRefs_nodup h
  ·rename_i hx
   refine addRefs_nodup ?_
   rw [List.nodup_append]
   exact⟨h,by simp,fun a ha b hb=>by simp at hb; subst hb; rintro rfl; exact hx ha⟩
theorem addRefs_mem:∀ {acc l:List Nat}{x:Nat},x∈acc∨x∈l→x∈addRefs acc l
 | acc,[],x,h=>by simpa [addRefs] using h
 | acc,y :: l,x,h=>by
  simp only [addRefs]
  split
  ·rename_i hy
   refine addRefs_mem ?_
   rcases h with h | h
   ·exact .inl h
   ·rcases List.mem_cons.1 h with rfl | h
    ·exact .inl hy
    ·exact .inr h
  ·refine addRefs_mem ?_
   rcases h with h | h
   ·exact .inl (by simp [h])
   ·rcases List.mem_cons.1 h with rfl | h
    ·exact .inl (by simp)
    ·exact .inr h
theorem idsOf_nodup (h:Heap) (args:List LV):(idsOf h args).Nodup:=addRefs_nodup (addRefs_nodup List.nodup_nil)
theorem idsOf_mem {args:List LV}{x:Nat}(hx:x∈args.flatMap refsL):x∈idsOf h args:=addRefs_mem (.inl (addRefs_mem (.inr hx)))
theorem putBlks_at {h:Heap}:∀ {l:List (Nat×Option Blk)}{k:Nat},(l.map (·.1)).Nodup→∀b,(k,b)∈l→putBlks h l k=b
 | [],k,_,b,hb=>by cases hb
 | (i,c) :: l,k,hn,b,hb=>by
  simp only [putBlks,upd]
  simp only [List.map_cons,List.nodup_cons] at hn
  rcases List.mem_cons.1 hb with hb1 | hb1
  ·cases hb1; simp
  ·have:k≠i:=fun e=>hn.1 (by subst e; exact List.mem_map.2 ⟨(k,b),hb1,rfl⟩)
   simp [this]; exact putBlks_at hn.2 b hb1
theorem putBlks_not {h:Heap}:∀ {l:List (Nat×Option Blk)}{k:Nat},k∉l.map (·.1)→putBlks h l k=h k
 | [],k,_=>rfl
 | (i,c) :: l,k,hn=>by
  simp only [List.map_cons,List.mem_cons,not_or] at hn
  simp only [putBlks,upd,hn.1,if_false]
  exact putBlks_not hn.2
theorem back_inj {L:List Nat}{d:Option Nat}{N:Nat}(hL:L.Nodup) (hnew:((List.range (N - L.length)).all fun j => !L.contains (newId d j))=true) :
  ∀i j,i<N→j<N→backId L d i=backId L d j→i=j:=by
 simp only [List.all_eq_true,List.mem_range,Bool.not_eq_true',List.contains_eq_mem,decide_eq_false_iff_not] at hnew
 intro i j hi hj he
 unfold backId at he
 by_cases h1:i<L.length <;> by_cases h2:j<L.length
 ·simp only [h1,h2,if_true] at he
  have e1:L.getD i 0=L[i]:=by simp [List.getD,h1]
  have e2:L.getD j 0=L[j]:=by simp [List.getD,h2]
  rw [e1,e2] at he
  exact (List.getElem_inj hL).1 he
 ·simp only [h1,h2,if_true,if_false] at he
  have e1:L.getD i 0=L[i]:=by simp [List.getD,h1]
  rw [e1] at he
  exact absurd (he ▸ List.getElem_mem h1) (hnew (j - L.length) (by omega))
 ·simp only [h1,h2,if_true,if_false] at he
  have e2:L.getD j 0=L[j]:=by simp [List.getD,h2]
  rw [e2] at he
  exact absurd (he ▸ List.getElem_mem h2) (hnew (i - L.length) (by omega))
 ·simp only [h1,h2,if_false,newId] at he
  omega
theorem RepC.ren' {f:Nat→Nat}{v:Value}{c:CV}(r:RepC w S ρ h v c) (hdom:∀id,h id=none→ρ id=none) (hp:∀id,h id≠none→ρ' (f id)=ρ id) (ha:∀id e xs,h id=some (.arr e xs)→h' (f id)=some (.arr e xs)):RepC w S ρ' h' v (renC f c):=by
 have hd:∀ {id:Nat} {p:Nat×Nat},ρ id=some p→ρ' (f id)=some p:=fun {id p} hq=>(hp id fun hn=>by rw [hdom id hn] at hq; cases hq).trans hq
 cases r with
 | p r=>exact .p r
 | fl r=>exact .fl r
 | @vw id e b o cap xs c el hb hpl hrow hcap hroom hmx=>exact .vw (ha id _ _ hb) (hd hpl) hrow hcap hroom hmx
 | @vwnil id e hb=>exact .vwnil (ha id _ _ hb)
 | @ptr id off b o hpl=>exact .ptr (hd hpl)
 | @ap id e i j b o xs hb hpl=>exact .ap (ha id _ _ hb) (hd hpl)
 | ep r=>exact .ep r
 | @fn g ids vs hn hv=>
  refine .fn (by simpa using hn) fun i hi=>?_
  have hi':i<ids.length:=by simpa using hi
  obtain⟨b,o,h1,h2⟩:=hv i hi'
  exact⟨b,o,by simp only [List.getElem_map]; exact hd h1,h2⟩
 | dead hv=>exact .dead hv
theorem RepCs.ren' {f:Nat→Nat}{vs:List Value}{cs:List CV}(r:RepCs w S ρ h vs cs) (hdom:∀id,h id=none→ρ id=none) (hp:∀id,h id≠none→ρ' (f id)=ρ id) (ha:∀id e xs,h id=some (.arr e xs)→h' (f id)=some (.arr e xs)) :
  RepCs w S ρ' h' vs (cs.map (renC f)):=
 ⟨by simpa using r.1,fun i hv hc=>by simp only [List.getElem_map]; exact (r.2 i hv (by simpa using hc)).ren' hdom hp ha⟩
theorem RepL.ren' {f:Nat→Nat}{v:Value}{l:LV}(r:RepL w S ρ h v l) (hdom:∀id,h id=none→ρ id=none) (hp:∀id,h id≠none→ρ' (f id)=ρ id) (ha:∀id e xs,h id=some (.arr e xs)→h' (f id)=some (.arr e xs)):RepL w S ρ' h' v (l.map (renC f)):=by
 cases l with
 | one c=>exact RepC.ren' r hdom hp ha
 | agg cs=>obtain⟨vs,rfl,r⟩:=r; exact⟨vs,rfl,r.ren' hdom hp ha⟩
theorem keepAll_at' {h:Heap}{blks:List (Option Blk)}:∀ {L:List Nat}{j:Nat},keepAll h blks j L→∀k (hk:k<L.length),keepB (h L[k]) (blks.getD (j+k) none)
 | [],_,_,k,hk=>absurd hk (by simp)
 | id :: L,j,q,0,_=>q.1
 | id :: L,j,q,k+1,hk=>by
  have:=keepAll_at' q.2 k (by simpa using hk)
  rw [show j+(k+1)=j+1+k by omega]
  exact this
theorem keepAll_at {h:Heap}{blks:List (Option Blk)}{L:List Nat}(q:keepAll h blks 0 L) (k:Nat) (hk:k<L.length):keepB (h L[k]) (blks.getD k none):=by
 have:=keepAll_at' q k hk
 rwa [Nat.zero_add] at this
theorem callB_core (E:Env P) (i:InvAt w0 B S ρ st a w) (hR:Vars w0 R0 ρ st.h){f:FuncId}{xs:List Operand}{ts:List TypeId}{caps:List LV}{cvs:List Value}{d:Option Nat}{m:List Bool}
  (hcr:RepLs w S ρ st.h cvs caps) (hq:(evCallB P (E.Γ d) m st d f xs ts caps).2) :
  CallF P f (xs.map a.eval++cvs).toArray w fun e w'=>∃v S' ρf,e = .returned v∧InvAt w0 B S' ρf (evCallB P (E.Γ d) m st d f xs ts caps).1 (a.put d v) w'∧(∀b o,S b o→S' b o)∧(∀b o,S' b o→S b o∨w.heap.size≤b) ∧
   Vars w0 R0 ρf (evCallB P (E.Γ d) m st d f xs ts caps).1.h:=by
 simp only [evCallB] at hq ⊢
 obtain⟨q1,q2,q3,q4,q5,q6,q7,q8,q9,q10⟩:=hq
 have hok:=E.okΓ d f _ _ q4
 change CallOK P f _ _ (callR P (E.Γ d) m st f xs ts caps).rets (callR P (E.Γ d) m st f xs ts caps).blks at hok
 generalize hr:callR P (E.Γ d) m st f xs ts caps=r at *
 have hLd:(callL P m st xs ts caps).Nodup:=idsOf_nodup _ _
 have hLm:∀x∈(argsOf P st m xs ts++caps).flatMap refsL,x∈callL P m st xs ts caps:=fun x hx=>idsOf_mem hx
 generalize hL:callL P m st xs ts caps=L at *
 have hbi:=back_inj (d:=d) hLd q7
 have hidx:∀id∈L,L.idxOf id<L.length∧L[L.idxOf id]?=some id:=fun id hid=>by
  have h1:=List.idxOf_lt_length_iff.2 hid
  exact⟨h1,by rw [List.getElem?_eq_getElem h1,List.getElem_idxOf]⟩
 have hpres:∀id∈L,∃b,st.h id=some b∧∀x∈refsB b,x∈L:=fun id hid=>by
  simp only [closedL,List.all_eq_true] at q3
  have:=q3 id hid
  cases hb:st.h id with
  | none=>rw [hb] at this; cases this
  | some b=>rw [hb] at this; exact⟨b,rfl,fun x hx=>by simpa using (List.all_eq_true.1 this) x hx⟩
 let idx:Nat→Nat:=fun id=>L.idxOf id
 let ρc:Place:=fun k=>(L[k]?).bind ρ
 let blks:List Blk:=L.map fun id=>((st.h id).getD (.var [])).map (renC idx)
 let B':List Nat:=L.filterMap fun id=>(ρ id).map (·.1)
 have hρc:∀id∈L,ρc (idx id)=ρ id:=fun id hid=>by simp only [ρc,idx,(hidx id hid).2,Option.bind_some]
 have hhc:∀id∈L,∀b,st.h id=some b→heapOf blks (idx id)=some (b.map (renC idx)):=fun id hid b hb=>by
  simp only [heapOf,blks,idx,List.getElem?_map,(hidx id hid).2,Option.map_some,hb,Option.getD_some]
 have hB':∀b,b∈B'↔∃id∈L,∃o,ρ id=some (b,o):=fun b=>by
  simp only [B',List.mem_filterMap,Option.map_eq_some_iff]
  constructor
  ·rintro⟨id,h1,⟨b',o'⟩,h2,rfl⟩; exact⟨id,h1,o',h2⟩
  ·rintro⟨id,h1,o,h2⟩; exact⟨id,h1,(b,o),h2,rfl⟩
 have hat:∀k b o,ρc k=some (b,o)→∃id∈L,L[k]?=some id∧ρ id=some (b,o):=fun k b o hk=>by
  simp only [ρc,Option.bind_eq_some_iff] at hk
  obtain⟨id,h1,h2⟩:=hk
  exact⟨id,List.mem_of_getElem? h1,h1,h2⟩
 have hmem:Mem w B' w S ρc (heapOf blks):=by
  refine⟨fun k b hb=>?_,fun k hk=>?_,fun k b o hk=>?_,fun k1 k2 b o o' h1 h2=>?_,fun b o hs=>⟨(i.mem.sep b o hs).1,fun k o' hk=>?_⟩,Nat.le_refl _,fun _ _ _=>rfl,Calm.refl w,RowsKept.refl w,i.mem.tabAt (fun b hb=>by obtain⟨id,_,o,h⟩:=(hB' b).1 hb; exact⟨id,o,h⟩)⟩
  ·simp only [heapOf,blks,List.getElem?_map,Option.map_eq_some_iff] at hb
   obtain⟨id,h1,rfl⟩:=hb
   have hid:=List.mem_of_getElem? h1
   obtain⟨b0,hb0,hcl⟩:=hpres id hid
   simp only [hb0,Option.getD_some]
   have hk:k=idx id:=by
    obtain⟨g1,g2⟩:=hidx id hid
    have hkl:k<L.length:=(List.getElem?_eq_some_iff.1 h1).1
    have:L[k]=L[L.idxOf id]:=by rw [List.getElem_idxOf g1]; exact (List.getElem?_eq_some_iff.1 h1).2
    exact (List.getElem_inj hLd).1 this
   subst hk
   have r0:=i.mem.blocks id b0 hb0
   cases b0 with
   | var cs=>
    obtain⟨b,c,el,hp,hrow,hc⟩:=r0
    refine⟨b,c,el,by rw [hρc id hid]; exact hp,hrow,hc.ren (fun x hx=>hρc x (hcl x hx)) fun x hx e ys hy=>?_⟩
    have:=hhc x (hcl x hx) _ hy
    exact this
   | arr e ys=>
    obtain⟨g1,g2,g3,g4⟩:=r0
    refine⟨g1,g2,g3,?_⟩
    rcases g4 with⟨g4,g5⟩ | ⟨b,o,c,el,hp,rest⟩
    ·exact .inl ⟨by rw [hρc id hid]; exact g4,g5⟩
    ·exact .inr ⟨b,o,c,el,by rw [hρc id hid]; exact hp,rest⟩
  ·simp only [heapOf,blks,List.getElem?_map,Option.map_eq_none_iff] at hk
   simp only [ρc,hk,Option.bind_none]
  ·obtain⟨id,hid,_,hp⟩:=hat k b o hk
   exact⟨(i.mem.place id b o hp).1,.inr ((hB' b).2 ⟨id,hid,o,hp⟩)⟩
  ·obtain⟨id1,hid1,g1,hp1⟩:=hat k1 b o h1
   obtain⟨id2,hid2,g2,hp2⟩:=hat k2 b o' h2
   have:=i.mem.inj id1 id2 b o o' hp1 hp2
   subst this
   obtain⟨a1,a2⟩:=List.getElem?_eq_some_iff.1 g1
   obtain⟨b1,b2⟩:=List.getElem?_eq_some_iff.1 g2
   exact (List.getElem_inj hLd).1 (a2.trans b2.symm)
  ·obtain⟨id,_,_,hp⟩:=hat k b o' hk
   exact (i.mem.sep b o hs).2 id o' hp
 have hargs:RepLs w S ρ st.h (xs.map a.eval++cvs) (argsOf P st m xs ts++caps):=by
  have h1:=args_rep (P:=P) i m xs ts q2 q1 q6
  refine⟨by simp only [List.length_append]; rw [h1.1,hcr.1],fun k hv hc=>?_⟩
  by_cases hk:k<(xs.map a.eval).length
  ·have hk2:k<(argsOf P st m xs ts).length:=by rw [← h1.1]; exact hk
   rw [List.getElem_append_left hk,List.getElem_append_left hk2]
   exact h1.2 k hk hk2
  ·have hk2:(argsOf P st m xs ts).length≤k:=by rw [← h1.1]; omega
   rw [List.getElem_append_right (by omega),List.getElem_append_right hk2]
   have e1:k - (xs.map a.eval).length=k - (argsOf P st m xs ts).length:=by rw [h1.1]
   have hk3:k - (argsOf P st m xs ts).length<caps.length:=by simp only [List.length_append] at hc; omega
   have:=hcr.2 (k - (argsOf P st m xs ts).length) (by rw [hcr.1]; exact hk3) hk3
   simpa only [e1] using this
 have hargs':=hargs.ren (ρ':=ρc) (h':=heapOf blks) (f:=idx) (fun x hx=>hρc x (hLm x hx)) (fun x hx e ys hy=>by
  have:=hhc x (hLm x hx) _ hy
  exact this)
 have mono:∀ {R R':Ending→World→Prop},CallF P f (xs.map a.eval++cvs).toArray w R→(∀e w',R e w'→R' e w')→CallF P f (xs.map a.eval++cvs).toArray w R':=by
  intro R R' hc hm
  unfold CallF at *
  split at hc
  ·exact hc.mono hm
  ·exact hm _ _ hc
  ·exact hc
 refine mono (hok w _ S ρc B' hmem (by simpa using hargs')) ?_
 rintro e w' ⟨v,S',ρ',rfl,hm',hsub,hnew,hvar,hsame,hret⟩
 let bk:Nat→Nat:=backId L d
 let N:=r.blks.length
 let K:=killsOf L d r.blks
 let hf:Heap:=putBlks (killHL K st.h) (newsOf L d r.blks)
 have hnid:(newsOf L d r.blks).map (·.1)=(List.range N).map bk:=by simp [newsOf,bk,N]
 have hnd:((newsOf L d r.blks).map (·.1)).Nodup:=by
  rw [hnid]
  refine List.Pairwise.map bk (R:=fun x y=>x<N∧y<N∧x≠y) (fun x y ⟨h1,h2,h3⟩ he=>h3 (hbi x y h1 h2 he)) ?_
  rw [List.pairwise_iff_getElem]
  intro x y hx hy hxy
  simp at hx hy ⊢
  omega
 have hf1:∀k,k<N→hf (bk k)=(r.blks.getD k none).map (Blk.map (renC bk)):=fun k hk=>
  putBlks_at hnd _ (List.mem_map.2 ⟨k,by simpa using hk,rfl⟩)
 have hKn:∀j∈K,∃k,k<N∧bk k=j:=fun j hj=>by
  simp only [K,killsOf,List.mem_map,List.mem_filter,List.mem_range] at hj
  obtain⟨k,⟨h1,_⟩,h2⟩:=hj
  exact⟨k,h1,h2⟩
 have hf2:∀id,(¬ ∃k,k<N∧bk k=id)→hf id=(st.h id).map (Blk.map (LS.killL K)):=fun id hn=>by
  have h1:id∉(newsOf L d r.blks).map (·.1):=by
   rw [hnid,List.mem_map]; rintro⟨k,hk,rfl⟩; exact hn ⟨k,by simpa using hk,rfl⟩
  have h2:id∉K:=fun hk=>hn (hKn id hk)
  simp only [hf,putBlks_not h1,killHL,h2,if_false]
 let ρf:Place:=fun id=>if hn:∃k,k<N∧bk k=id then ρ' hn.choose else ρ id
 have hρ1:∀k,k<N→ρf (bk k)=ρ' k:=fun k hk=>by
  have hn:∃k',k'<N∧bk k'=bk k:=⟨k,hk,rfl⟩
  simp only [ρf,hn,dif_pos]
  have:=hn.choose_spec
  rw [hbi _ _ this.1 hk this.2]
 have hρ2:∀id,(¬ ∃k,k<N∧bk k=id)→ρf id=ρ id:=fun id hn=>by simp only [ρf,hn,dif_neg,not_false_eq_true]
 have hh':∀k,heapOf' r.blks k≠none→k<N:=fun k hk=>by
  rcases Nat.lt_or_ge k N with h | h
  ·exact h
  ·exact absurd (by simp [heapOf',List.getElem?_eq_none h]) hk
 have hh2:∀k,k<N→heapOf' r.blks k=r.blks.getD k none:=fun k hk=>by
  have hk':k<r.blks.length:=hk
  simp [heapOf',List.getD,List.getElem?_eq_getElem hk']
 have hLnew:∀id∈L,∃k,k<N∧bk k=id:=fun id hid=>by
  obtain⟨g1,g2⟩:=hidx id hid
  refine⟨L.idxOf id,Nat.lt_of_lt_of_le g1 q5,?_⟩
  simp only [bk,backId,g1,if_true,List.getD,g2,Option.getD_some]
 have hnB:∀id b o,(¬ ∃k,k<N∧bk k=id)→ρ id=some (b,o)→b∉B':=fun id b o hn hp hb=>by
  obtain⟨l,hl,o',hp'⟩:=(hB' b).1 hb
  have:=i.mem.inj id l b o o' hp hp'
  subst this; exact hn (hLnew id hl)
 have hSB:∀b o,S b o→b∉B':=fun b o hs hb=>by
  obtain⟨l,_,o',hp'⟩:=(hB' b).1 hb
  exact (i.mem.sep b o hs).2 l o' hp'
 have hseen:∀b o,S b o→S' b o∧w'.cell? ⟨b,o,none⟩=w.cell? ⟨b,o,none⟩:=fun b o hs=>
  ⟨hsub b o hs,by simp only [World.cell?,hm'.frame b (i.mem.sep b o hs).1 (hSB b o hs)]⟩
 have hkeep:∀j,j∉K→Keeps w w' ρ ρf st.h hf j:=fun j hj=>by
  by_cases hn:∃k,k<N∧bk k=j
  ·obtain⟨k,hk,rfl⟩:=hn
   have k1:k<L.length:=by
    rcases Nat.lt_or_ge k L.length with h | h
    ·exact h
    ·exact absurd (List.mem_map.2 ⟨k,List.mem_filter.2 ⟨by simpa using hk,by simp [Nat.not_lt.2 h]⟩,rfl⟩) hj
   have ebk:bk k=L[k]:=by simp [bk,backId,k1,List.getD]
   have hpl:ρf (bk k)=ρ (bk k):=by
    rw [hρ1 k hk,hvar k (by simpa using k1),ebk]
    simp [ρc,List.getElem?_eq_getElem k1]
   have hkb:=keepAll_at q9 k k1
   refine⟨hpl,fun e ys hy=>?_,fun e ys b o c el hy hp hrow=>hm'.rows b c el hrow⟩
   rw [ebk] at hy
   rw [hy] at hkb
   have hkb:(match r.blks.getD k none with | some (.arr e' zs)=>e'=e∧zs.length=ys.length | _=>False):=hkb
   rw [hf1 k hk]
   cases hb:r.blks.getD k none with
   | none=>rw [hb] at hkb; exact hkb.elim
   | some b=>cases b with
    | var cs=>rw [hb] at hkb; exact hkb.elim
    | arr e' zs=>
     rw [hb] at hkb
     obtain⟨rfl,h2⟩:e'=e∧zs.length=ys.length:=hkb
     exact⟨zs,rfl,h2⟩
  ·refine⟨hρ2 j hn,fun e ys hy=>⟨ys,by rw [hf2 j hn,hy]; rfl,rfl⟩,fun e ys b o c el _ hp hrow=>⟨c,?_,rfl⟩⟩
   unfold Row at *
   rw [hm'.frame b (i.mem.place j b o hp).1 (hnB j b o hn hp)]; exact hrow
 have hren1:∀k,heapOf' r.blks k≠none→ρf (bk k)=ρ' k:=fun k hk=>hρ1 k (hh' k hk)
 have hren2:∀k e ys,heapOf' r.blks k=some (.arr e ys)→hf (bk k)=some (.arr e ys):=fun k e ys hk=>by
  have hkN:=hh' k (by rw [hk]; simp)
  rw [hf1 k hkN,← hh2 k hkN,hk]; rfl
 have hmemf:Mem w0 B w' S' ρf hf:=by
  refine⟨fun id b hb=>?_,fun id hid=>?_,fun id b o hp=>?_,fun x y b o o' h1 h2=>?_,fun b o hs=>⟨(hm'.sep b o hs).1,fun id o' hp=>?_⟩,Nat.le_trans i.mem.size hm'.size,fun b h1 h2=>?_,i.mem.calm.trans hm'.calm,i.mem.rows.trans hm'.rows,i.mem.tab⟩
  ·by_cases hn:∃k,k<N∧bk k=id
   ·obtain⟨k,hk,rfl⟩:=hn
    rw [hf1 k hk] at hb
    obtain⟨b0,hb0,rfl⟩:=Option.map_eq_some_iff.1 hb
    rw [← hh2 k hk] at hb0
    have r0:=hm'.blocks k b0 hb0
    cases b0 with
    | var cs=>
     obtain⟨b,c,el,hp,hrow,hc⟩:=r0
     exact⟨b,c,el,by rw [hρ1 k hk]; exact hp,hrow,hc.ren' hm'.dom hren1 hren2⟩
    | arr e ys=>
     obtain⟨g1,g2,g3,g4⟩:=r0
     refine⟨g1,g2,g3,?_⟩
     rcases g4 with⟨g4,g5⟩ | ⟨b,o,c,el,hp,rest⟩
     ·exact .inl ⟨by rw [hρ1 k hk]; exact g4,g5⟩
     ·exact .inr ⟨b,o,c,el,by rw [hρ1 k hk]; exact hp,rest⟩
   ·rw [hf2 id hn] at hb
    obtain⟨b0,hb0,rfl⟩:=Option.map_eq_some_iff.1 hb
    have r0:=i.mem.blocks id b0 hb0
    cases b0 with
    | var cs=>
     obtain⟨b,c,el,hp,hrow,hc⟩:=r0
     refine⟨b,c,el,by rw [hρ2 id hn]; exact hp,?_,hc.killL hseen fun j hj _=>hkeep j hj⟩
     unfold Row at *
     rw [hm'.frame b (i.mem.place id b 0 hp).1 (hnB id b 0 hn hp)]; exact hrow
    | arr e ys=>
     obtain⟨g1,g2,g3,g4⟩:=r0
     refine⟨g1,g2,g3,?_⟩
     rcases g4 with⟨g4,g5⟩ | ⟨b,o,c,el,hp,hrow,hz,hc⟩
     ·exact .inl ⟨by rw [hρ2 id hn]; exact g4,g5⟩
     ·refine .inr ⟨b,o,c,el,by rw [hρ2 id hn]; exact hp,?_,hz,fun k j hk hj=>?_⟩
      ·unfold Row at *
       rw [hm'.frame b (i.mem.place id b o hp).1 (hnB id b o hn hp)]; exact hrow
      ·obtain⟨u,hu,hru⟩:=hc k j hk hj
       exact⟨u,hu,hru.mono hseen⟩
  ·by_cases hn:∃k,k<N∧bk k=id
   ·obtain⟨k,hk,rfl⟩:=hn
    rw [hf1 k hk] at hid
    rw [hρ1 k hk]
    exact hm'.dom k (by rw [hh2 k hk]; simpa using hid)
   ·rw [hf2 id hn] at hid
    rw [hρ2 id hn]; exact i.mem.dom id (by simpa using hid)
  ·by_cases hn:∃k,k<N∧bk k=id
   ·obtain⟨k,hk,rfl⟩:=hn
    rw [hρ1 k hk] at hp
    obtain⟨h1,h2⟩:=hm'.place k b o hp
    refine⟨h1,?_⟩
    rcases h2 with h2 | h2
    ·exact .inl (Nat.le_trans i.mem.size h2)
    ·obtain⟨l,_,o',hp'⟩:=(hB' b).1 h2
     exact (i.mem.place l b o' hp').2
   ·rw [hρ2 id hn] at hp
    exact⟨Nat.lt_of_lt_of_le (i.mem.place id b o hp).1 hm'.size,(i.mem.place id b o hp).2⟩
  ·have mix:∀k id b o o',k<N→ρ' k=some (b,o)→(¬ ∃k,k<N∧bk k=id)→ρ id=some (b,o')→False:=fun k id b o o' hk hp hn hp'=>by
    rcases (hm'.place k b o hp).2 with h | h
    ·have:=(i.mem.place id b o' hp').1; omega
    ·exact hnB id b o' hn hp' h
   by_cases hx:∃k,k<N∧bk k=x <;> by_cases hy:∃k,k<N∧bk k=y
   ·obtain⟨k,hk,rfl⟩:=hx
    obtain⟨k2,hk2,rfl⟩:=hy
    rw [hρ1 k hk] at h1
    rw [hρ1 k2 hk2] at h2
    rw [hm'.inj k k2 b o o' h1 h2]
   ·obtain⟨k,hk,rfl⟩:=hx
    rw [hρ1 k hk] at h1
    rw [hρ2 y hy] at h2
    exact (mix k y b o o' hk h1 hy h2).elim
   ·obtain⟨k,hk,rfl⟩:=hy
    rw [hρ1 k hk] at h2
    rw [hρ2 x hx] at h1
    exact (mix k x b o' o hk h2 hx h1).elim
   ·rw [hρ2 x hx] at h1
    rw [hρ2 y hy] at h2
    exact i.mem.inj x y b o o' h1 h2
  ·by_cases hn:∃k,k<N∧bk k=id
   ·obtain⟨k,hk,rfl⟩:=hn
    rw [hρ1 k hk] at hp
    exact (hm'.sep b o hs).2 k o' hp
   ·rw [hρ2 id hn] at hp
    rcases hnew b o hs with h | h
    ·exact (i.mem.sep b o h).2 id o' hp
    ·have:=(i.mem.place id b o' hp).1; omega
  ·have hb:b∉B':=fun hb=>by
    obtain⟨l,_,o',hp'⟩:=(hB' b).1 hb
    rcases (i.mem.place l b o' hp').2 with h | h
    ·omega
    ·exact h2 h
   rw [hm'.frame b (Nat.lt_of_lt_of_le h1 i.mem.size) hb]
   exact i.mem.frame b h1 h2
 have hvars:Vars w0 R0 ρf hf:=by
  refine⟨fun id p hp=>?_,fun id b o hid hp=>?_⟩
  ·obtain⟨g1,g2,g3⟩:=hR.1 id p hp
   have hidK:id∉K:=fun hk=>by
    simp only [K,killsOf,List.mem_map,List.mem_filter,List.mem_range] at hk
    obtain⟨k,⟨h1,h2⟩,h3⟩:=hk
    have hkl:¬ k<L.length:=by simpa using h2
    simp only [List.all_eq_true,List.mem_range,decide_eq_true_eq] at q10
    have h4:=q10 (k - L.length) (by omega)
    simp only [backId,hkl,if_false] at h3
    omega
   refine⟨g1,by rw [(hkeep id hidK).place]; exact g2,?_⟩
   by_cases hn:∃k,k<N∧bk k=id
   ·obtain⟨k,hk,rfl⟩:=hn
    have k1:k<L.length:=by
     rcases Nat.lt_or_ge k L.length with h | h
     ·exact h
     ·exact absurd (List.mem_map.2 ⟨k,List.mem_filter.2 ⟨by simpa using hk,by simp [Nat.not_lt.2 h]⟩,rfl⟩) hidK
    have hkb:=keepAll_at q9 k k1
    rw [hf1 k hk]
    cases hb:r.blks.getD k none with
    | none=>
     rw [hb] at hkb
     cases hb2:st.h L[k] with
     | none=>rw [hb2] at hkb; exact hkb.elim
     | some b=>rw [hb2] at hkb; cases b <;> exact hkb.elim
    | some b=>rfl
   ·rw [hf2 id hn]
    cases hb:st.h id with
    | none=>rw [hb] at g3; cases g3
    | some b=>rfl
  ·by_cases hn:∃k,k<N∧bk k=id
   ·obtain⟨k,hk,rfl⟩:=hn
    rw [hρ1 k hk] at hp
    rcases hsame k b o hp with h | ⟨o',h⟩
    ·exact Nat.le_trans i.mem.size h
    ·obtain⟨l,hl,hlk,hp'⟩:=hat k b o' h
     have hkl:k<L.length:=(List.getElem?_eq_some_iff.1 hlk).1
     have:bk k=l:=by
      have h9:=(List.getElem?_eq_some_iff.1 hlk).2
      simp only [bk,backId,hkl,if_true,List.getD,hlk,Option.getD_some]
     rw [this] at hid
     exact hR.2 l b o' hid hp'
   ·rw [hρ2 id hn] at hp
    exact hR.2 id b o hid hp
 have hslot:∀t,RepS w' S' ρf hf (a.tmps.getD t undef) ((killSL K st.s) t):=fun t=>(i.slots t).killL hseen fun j hj _=>hkeep j hj
 have hmark:Marks w0 ρf w' a.defers:=i.defers.mono (fun b hb hn=>hm'.frame b hb (fun hB=>by obtain⟨l,_,o',hp'⟩:=(hB' b).1 hB; exact hn l o' hp')) (fun id b o hp=>by
  by_cases hn:∃k,k<N∧bk k=id
  ·obtain⟨k,hk,rfl⟩:=hn
   rw [hρ1 k hk] at hp
   rcases (hm'.place k b o hp).2 with h | h
   ·exact .inr h
   ·obtain⟨l,_,o',hp'⟩:=(hB' b).1 h
    exact .inl ⟨l,o',hp'⟩
  ·rw [hρ2 id hn] at hp
   exact .inl ⟨id,o,hp⟩)
 cases d with
 | none=>exact⟨v,S',ρf,rfl,⟨hmemf,i.tmps,hmark,hslot⟩,hsub,hnew,hvars⟩
 | some d=>
  have hd:d<st.n:=q8
  refine⟨v,S',ρf,rfl,⟨hmemf,by simp [Act.put,setRets,i.tmps],hmark,fun t=>?_⟩,hsub,hnew,hvars⟩
  rw [getD_put a d t v (by rw [i.tmps]; exact hd)]
  simp only [setRets,upd]
  split
  ·refine retS_rep ?_
   exact repR_map (ρ':=ρf) (h':=hf) _ (fun u l _ hu=>hu.ren' hm'.dom hren1 hren2) hret
  ·exact hslot t
end
end Go.LS
