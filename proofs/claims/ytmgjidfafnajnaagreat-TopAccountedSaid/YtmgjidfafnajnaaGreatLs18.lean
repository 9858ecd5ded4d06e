/-
  The framework LS, part 18: from a body to a contract.
  No condition: lemmas.
-/
import Derived.Test.YtmgjidfafnajnaaGreatLs17
import Derived.RangeFuncLeaves
import Derived.RangeFuncRecord
namespace Go.LS
set_option linter.all false
set_option linter.unusedSimpArgs false
set_option linter.unusedVariables false
def enumS:Nat→List LV→List (Nat×SV)
 | _,[]=>[]
 | k,l :: ls=>(k,.x l) :: enumS (k+1) ls
def enumB:Nat→List Blk→List (Nat×Blk)
 | _,[]=>[]
 | k,l :: ls=>(k,l) :: enumB (k+1) ls
def entry (n:Nat) (args:List LV) (blks:List Blk):LState:=⟨n,mkS (enumS 0 args),mkH (enumB 0 blks)⟩
theorem mkS_enum:∀ (ls:List LV) (k t:Nat),mkS (enumS k ls) t=if k≤t then (match ls[t - k]? with | some l=>.x l | none=>.dead) else .dead
 | [],k,t=>by simp [enumS,mkS]
 | l :: ls,k,t=>by
  simp only [enumS,mkS]
  by_cases h:t=k
  ·subst h; simp
  ·rw [if_neg h,mkS_enum ls (k+1) t]
   by_cases h2:k≤t
   ·obtain⟨j,hj⟩:∃j,t - k=j+1:=⟨t - k - 1,by omega⟩
    rw [if_pos h2,if_pos (by omega),hj,List.getElem?_cons_succ,show t - (k+1)=j by omega]
   ·rw [if_neg h2,if_neg (by omega)]
theorem mkH_enum:∀ (ls:List Blk) (k t:Nat),mkH (enumB k ls) t=if k≤t then ls[t - k]? else none
 | [],k,t=>by simp [enumB,mkH]
 | l :: ls,k,t=>by
  simp only [enumB,mkH]
  by_cases h:t=k
  ·subst h; simp
  ·rw [if_neg h,mkH_enum ls (k+1) t]
   by_cases h2:k≤t
   ·obtain⟨j,hj⟩:∃j,t - k=j+1:=⟨t - k - 1,by omega⟩
    rw [if_pos h2,if_pos (by omega),hj,List.getElem?_cons_succ,show t - (k+1)=j by omega]
   ·rw [if_neg h2,if_neg (by omega)]
theorem mkH_heapOf (blks:List Blk):mkH (enumB 0 blks)=heapOf blks:=by funext k; simp [mkH_enum,heapOf]
def evRes (P:Program) (st:LState):ResultVar→LV×Prop
 | .tmp t=>ev st (.tmp t)
 | .cell a t=>((evLoad (tyOf P t) st.h (ev st (.tmp a)).1).1,(ev st (.tmp a)).2∧(tyOf P t).size≠0∧((tyOf P t).agg=true∨(tyOf P t).size=1)∧(evLoad (tyOf P t) st.h (ev st (.tmp a)).1).2)
def evRess (P:Program) (st:LState):List ResultVar→List LV×Prop
 | []=>([],True)
 | r :: rs=>((evRes P st r).1 :: (evRess P st rs).1,(evRes P st r).2∧(evRess P st rs).2)
def Ret (P:Program) (rs:List ResultVar) (nb:Nat) (V:List Nat) (rets:List LV) (blks':List (Option Blk)) (st:LState):Prop:=
 ∃ (st':LState) (news:List Nat),Imp V st st'∧(evRess P st' rs).2∧(news.all fun i=>decide (100≤i))=true∧news.Nodup ∧
  rets=(evRess P st' rs).1.map (LV.map (renC fun i=>(List.range nb++news).idxOf i)) ∧
  blks'=(List.range nb++news).map (fun i=>(st'.h i).map (Blk.map (renC fun i=>(List.range nb++news).idxOf i))) ∧
  ((evRess P st' rs).1.all fun l=>(refsL l).all fun i=>(List.range nb++news).contains i)=true ∧
  ((List.range nb++news).all fun i=>match st'.h i with | some b=>(refsB b).all fun i=>(List.range nb++news).contains i | none=>true)=true
section
variable {P:Program} {w w0:World} {B:List Nat} {S:Seen} {ρ:Place} {st:LState} {a:Act}
theorem evRes_run (i:InvAt w0 B S ρ st a w){r:ResultVar}(hq:(evRes P st r).2) :
  ∃v,(match r with | .tmp t=>pure (a.tmps.getD t undef) | .cell x t=>do loadVar t (← asAddr (a.tmps.getD x undef)):Sem Value).run P w = .ok v w∧RepL w S ρ st.h v (evRes P st r).1:=by
 cases r with
 | tmp t=>exact⟨_,rfl,ev_rep i (x:=.tmp t) hq⟩
 | cell x t=>
  obtain⟨q1,q2,q3,q4⟩:=hq
  have rx:=ev_rep i q1
  obtain⟨u,hu,hr⟩:=evLoad_run (P:=P) i q2 q3 rx q4
  refine⟨u,?_,hr⟩
  have he:a.eval (.tmp x)=a.tmps.getD x undef:=rfl
  rw [he] at hu
  have:∃ad,a.tmps.getD x undef = .pointer (some ad):=by
   rw [he] at rx
   generalize a.tmps.getD x undef=v at *
   generalize (ev st (.tmp x)).1=X at *
   unfold evLoad at q4
   split at q4
   ·obtain⟨b,o',_,rfl⟩:=repC_ptr rx; exact⟨_,rfl⟩
   ·obtain⟨b,o',_,_,_,_,rfl⟩:=repC_ap rx; exact⟨_,rfl⟩
   ·obtain⟨b,o',rfl,_⟩:=repC_ep rx; exact⟨_,rfl⟩
   ·exact q4.elim
  obtain⟨ad,had⟩:=this
  rw [had] at hu
  simp only [had,asAddr,Sem.run_bind,Sem.run_pure,Result.andThen]
  simpa [Instr.loadAt,Instr.sureAddr] using hu
theorem evRess_run (i:InvAt w0 B S ρ st a w):∀ (rs:List ResultVar),(evRess P st rs).2 →
  ∃vs:List Value,(rs.mapM (fun r=>match r with | .tmp t=>pure (a.tmps.getD t undef) | .cell x t=>do loadVar t (← asAddr (a.tmps.getD x undef))):Sem (List Value)).run P w = .ok vs w∧RepLs w S ρ st.h vs (evRess P st rs).1
 | [],_=>⟨[],by simp,rfl,fun k hk=>absurd hk (by simp)⟩
 | r :: rs,hq=>by
  obtain⟨v,h1,h2⟩:=evRes_run i hq.1
  obtain⟨vs,h3,h4,h5⟩:=evRess_run i rs hq.2
  refine⟨v :: vs,?_,by simp [evRess,h4],fun k hk1 hk2=>?_⟩
  ·rw [List.mapM_cons,Sem.run_bind,h1]
   simp only [Result.andThen,Sem.run_bind,h3,Sem.run_pure]
  ·cases k with
   | zero=>exact h2
   | succ k=>exact h5 k (by simpa using hk1) (by simpa [evRess] using hk2)
theorem run_callFunc {f : FuncId} {fn : Func} {c : Code} (hf : P.funcs[f]? = some fn) (hb : fn.body = some c) (hname : (fn.name == "runtime.NumGoroutine") = false) (vs : Array Value) (w : World) :
  (callFunc f vs).run P w = .ok (.enter f vs) w:=by
 have hne : ¬ fn.name = "runtime.NumGoroutine" := by simpa using hname
 simp [callFunc,program,Sem.run,hf,hb,hne]
theorem Inv.take {w0:World}{B:List Nat}{S0:Seen}{R0:Home}{st:LState}{fn:Func}{t:Array Value}{R:Ending→World→Prop}:∀ (ds:List Deferred) (w:World),Inv w0 B S0 R0 st { tmps:=t,defers:=ds } w →
  (∀w',Inv w0 B S0 R0 st { tmps:=t,defers:=[] } w'→∃v,(results fn t).run P w' = .ok v w'∧R (.returned v) w')→LeavesInM Fence.wide 0 P fn t R ds .returning w
 | [],w,hi,h=>h w hi
 | d :: ds,w,hi,h=>by
  obtain⟨S,ρ,i,h1,h2,h3⟩:=hi
  obtain⟨hnd,hm⟩:=i.defers
  obtain⟨D,rfl,g0,g1,g2⟩:=hm d (List.mem_cons_self ..)
  have hlt:D<w.heap.size:=(Array.getElem?_eq_some_iff.1 g1).1
  refine⟨fun e=>(nomatch e),.inl ⟨D,_,rfl,run_takeDeferred g1,Inv.take ds _ ?_ h⟩⟩
  have hsz:(w.putObj D (.deferred none)).heap.size=w.heap.size:=by simp [World.putObj]
  obtain⟨m1,m2,m3⟩:=i.mem.other (w':=w.putObj D (.deferred none)) hsz (fun b hb=>World.putObj_heap_other hb) g2 g0 g1 (World.putObj_heap_same hlt) ⟨rfl,rfl,rfl⟩
  refine⟨S,ρ,⟨m1,i.tmps,⟨(List.nodup_cons.1 hnd).2,fun d' hd'=>?_⟩,fun k=>(i.slots k).mono (fun b o hs=>⟨hs,m2 b o⟩) fun id _=>m3 id⟩,h1,h2,h3⟩
  obtain⟨D',e,k0,k1,k2⟩:=hm d' (List.mem_cons_of_mem _ hd')
  have hne:D'≠D:=by
   rintro rfl
   exact (List.nodup_cons.1 hnd).1 (e ▸ hd')
  exact⟨D',e,k0,by rw [World.putObj_heap_other hne]; exact k1,k2⟩
theorem callOK_of {f:FuncId}{fn:Func}{c:Code}{args:List LV}{blks:List Blk}{rets:List LV}{blks':List (Option Blk)}(hf:P.funcs[f]?=some fn) (hb:fn.body=some c)
  (hname : (fn.name == "runtime.NumGoroutine") = false) (hn : args.length ≤ fn.ntmps) (hnb : blks.length ≤ 100)
  (h:LOK P (List.range blks.length) c (entry fn.ntmps args blks) fun e s=>(e = .normal∨e = .ret)∧Ret P fn.results.toList blks.length (List.range blks.length) rets blks' s):CallOK P f args blks rets blks':=by
 intro w vs S ρ B hm hr
 unfold CallF
 rw [run_callFunc hf hb hname]
 refine callsIn_wide.1 (callsIn_of_wp_marks (F:=Fence.wide) (n:=0) hf hb trivial ?_)
 refine wpIn_wide.2 ?_
 have hsz:vs.size=args.length:=by have:=hr.1; simpa using this
 let a0:Act:={ tmps:=vs++Array.replicate (fn.ntmps - vs.size) undef,defers:=[] }
 let R0:Home:=fun k=>if k<blks.length then some (ρ k) else none
 have hinv:Inv w B S R0 (entry fn.ntmps args blks) a0 w:=by
  refine⟨S,ρ,⟨by simp only [entry]; rw [mkH_heapOf]; exact hm,by simp [a0,entry]; omega,Marks.nil,fun t=>?_⟩,fun _ _ h=>h,fun _ _ h=>.inl h,fun k p hp=>?_,fun k b o hk hp=>?_⟩
  ·simp only [entry]
   rw [mkS_enum,mkH_heapOf]
   simp only [Nat.zero_le,if_true,Nat.sub_zero]
   cases ht:args[t]? with
   | none=>trivial
   | some l=>
    obtain⟨h1,h2⟩:=List.getElem?_eq_some_iff.1 ht
    have hv:t<vs.size:=by omega
    have:a0.tmps.getD t undef=vs[t]:=by
     simp [a0,Array.getD,Array.getElem_append_left hv,show t<vs.size+(fn.ntmps - vs.size) by omega]
    show RepL w S ρ (heapOf blks) (a0.tmps.getD t undef) l
    rw [this,← h2]
    have:=hr.2 t (by simpa using hv) h1
    simpa using this
  ·simp only [R0] at hp
   split at hp
   ·rename_i hk
    exact⟨by omega,by simpa using hp,by simp only [entry]; rw [mkH_heapOf]; simp [heapOf,hk]⟩
   ·cases hp
  ·have:=hm.dom k (by simp only [heapOf]; exact List.getElem?_eq_none (by omega))
   rw [this] at hp; cases hp
 have hbody:=h w B S R0 a0 w (fun k p hp=>by
  simp only [R0] at hp
  split at hp
  ·rename_i hk; exact List.mem_range.2 hk
  ·cases hp) hinv
 refine wp_mono hbody ?_
 rintro e a' w' ⟨s,⟨he,s',news,himp,hq,hn100,hnd,hrets,hblks,hrefs,hbrefs⟩,hi⟩
 have hi':=himp w B S R0 a' w' (fun k p hp=>by
  simp only [R0] at hp
  split at hp
  ·rename_i hk; exact List.mem_range.2 hk
  ·cases hp) hi
 suffices hkey:∀w',Inv w B S R0 s' { tmps:=a'.tmps,defers:=[] } w'→∃v,(results fn a'.tmps).run P w' = .ok v w'∧(fun (e:Ending) (w':World)=>∃v S' ρ',e = .returned v∧Mem w B w' S' ρ' (heapOf' blks') ∧
   (∀b o,S b o→S' b o)∧(∀b o,S' b o→S b o∨w.heap.size≤b)∧(∀k,k<blks.length→ρ' k=ρ k)∧(∀k b o,ρ' k=some (b,o)→w.heap.size≤b∨∃o',ρ k=some (b,o'))∧RepR w' S' ρ' (heapOf' blks') v rets) (.returned v) w' by
  rcases he with rfl | rfl
  ·show LeavesInM Fence.wide 0 P fn a'.tmps _ a'.defers .returning w'
   exact Inv.take a'.defers w' hi' hkey
  ·show LeavesInM Fence.wide 0 P fn a'.tmps _ a'.defers .returning w'
   exact Inv.take a'.defers w' hi' hkey
 clear hi hi'
 intro w' hi'
 obtain⟨S',ρ',i',hS,hS',hR⟩:=hi'
 obtain⟨us,hrun,hrep⟩:=evRess_run (P:=P) i' fn.results.toList hq
 let ids:=List.range blks.length++news
 let idx:Nat→Nat:=fun i=>ids.idxOf i
 let ρ'':Place:=fun k=>(ids[k]?).bind ρ'
 have hidn:ids.Nodup:=by
  rw [List.nodup_append]
  refine⟨List.nodup_range,hnd,fun x hx y hy=>?_⟩
  simp at hx
  have:=List.all_eq_true.1 hn100 y hy
  simp at this
  omega
 have hidx:∀id∈ids,ids.idxOf id<ids.length∧ids[ids.idxOf id]?=some id:=fun id hid=>by
  have h1:=List.idxOf_lt_length_iff.2 hid
  exact⟨h1,by rw [List.getElem?_eq_getElem h1,List.getElem_idxOf]⟩
 have hρ:∀id∈ids,ρ'' (idx id)=ρ' id:=fun id hid=>by simp only [ρ'',idx,(hidx id hid).2,Option.bind_some]
 have hh:∀id∈ids,heapOf' blks' (idx id)=(s'.h id).map (Blk.map (renC idx)):=fun id hid=>by
  have h1:=(hidx id hid).2
  simp only [heapOf',hblks,List.getElem?_map]
  show ((ids[idx id]?).map _).join=_
  simp only [idx,h1,Option.map_some,Option.join_some]
  rfl
 have hat:∀k b o,ρ'' k=some (b,o)→∃id∈ids,ids[k]?=some id∧ρ' id=some (b,o):=fun k b o hk=>by
  simp only [ρ'',Option.bind_eq_some_iff] at hk
  obtain⟨id,h1,h2⟩:=hk
  exact⟨id,List.mem_of_getElem? h1,h1,h2⟩
 have hkidx:∀k id,ids[k]?=some id→k=idx id:=fun k id hk=>by
  have hid:=List.mem_of_getElem? hk
  obtain⟨g1,g2⟩:=hidx id hid
  obtain⟨k1,k2⟩:=List.getElem?_eq_some_iff.1 hk
  have:ids[k]=ids[ids.idxOf id]:=by rw [List.getElem_idxOf g1]; exact k2
  exact (List.getElem_inj hidn).1 this
 have hnone:∀k,ids[k]?=none→heapOf' blks' k=none:=fun k hk=>by
  simp only [heapOf',hblks,List.getElem?_map]
  show ((ids[k]?).map _).join=_
  rw [hk]; rfl
 have hmem:Mem w B w' S' ρ'' (heapOf' blks'):=by
  refine⟨fun k b hb=>?_,fun k hk=>?_,fun k b o hk=>?_,fun k1 k2 b o o' h1 h2=>?_,fun b o hs=>⟨(i'.mem.sep b o hs).1,fun k o' hk=>?_⟩,i'.mem.size,i'.mem.frame,i'.mem.calm,i'.mem.rows,i'.mem.tab⟩
  ·cases hk:ids[k]? with
   | none=>rw [hnone k hk] at hb; cases hb
   | some id=>
    have hid:=List.mem_of_getElem? hk
    obtain rfl:=hkidx k id hk
    rw [hh id hid] at hb
    obtain⟨b0,hb0,rfl⟩:=Option.map_eq_some_iff.1 hb
    have hcl:∀x∈refsB b0,x∈ids:=fun x hx=>by
     have:=List.all_eq_true.1 hbrefs id hid
     simp only [hb0] at this
     show x∈List.range blks.length++news
     simpa using (List.all_eq_true.1 this) x hx
    have r0:=i'.mem.blocks id b0 hb0
    cases b0 with
    | var cs=>
     obtain⟨b,c,el,hp,hrow,hc⟩:=r0
     refine⟨b,c,el,by rw [hρ id hid]; exact hp,hrow,hc.ren (fun x hx=>hρ x (hcl x hx)) fun x hx e ys hy=>?_⟩
     show heapOf' blks' (idx x)=_
     rw [hh x (hcl x hx),hy]; rfl
    | arr e ys=>
     obtain⟨g1,g2,g3,g4⟩:=r0
     refine⟨g1,g2,g3,?_⟩
     rcases g4 with⟨g4,g5⟩ | ⟨b,o,c,el,hp,rest⟩
     ·exact .inl ⟨by rw [hρ id hid]; exact g4,g5⟩
     ·exact .inr ⟨b,o,c,el,by rw [hρ id hid]; exact hp,rest⟩
  ·cases hkk:ids[k]? with
   | none=>simp only [ρ'',hkk,Option.bind_none]
   | some id=>
    have hid:=List.mem_of_getElem? hkk
    obtain rfl:=hkidx k id hkk
    rw [hh id hid] at hk
    rw [hρ id hid]; exact i'.mem.dom id (by simpa using hk)
  ·obtain⟨id,hid,_,hp⟩:=hat k b o hk
   exact i'.mem.place id b o hp
  ·obtain⟨id1,hid1,g1,hp1⟩:=hat k1 b o h1
   obtain⟨id2,hid2,g2,hp2⟩:=hat k2 b o' h2
   have:=i'.mem.inj id1 id2 b o o' hp1 hp2
   subst this
   rw [hkidx k1 id1 g1,hkidx k2 id1 g2]
  ·obtain⟨id,_,_,hp⟩:=hat k b o' hk
   exact (i'.mem.sep b o hs).2 id o' hp
 have hret:RepLs w' S' ρ'' (heapOf' blks') us rets:=by
  rw [hrets]
  refine hrep.ren (fun x hx=>?_) fun x hx e ys hy=>?_
  ·obtain⟨l,hl,hxl⟩:=List.mem_flatMap.1 hx
   have:=List.all_eq_true.1 (List.all_eq_true.1 hrefs l hl) x hxl
   exact hρ x (by show x∈List.range blks.length++news; simpa using this)
  ·obtain⟨l,hl,hxl⟩:=List.mem_flatMap.1 hx
   have:=List.all_eq_true.1 (List.all_eq_true.1 hrefs l hl) x hxl
   have hxi:x∈ids:=by show x∈List.range blks.length++news; simpa using this
   show heapOf' blks' (idx x)=_
   rw [hh x hxi,hy]; rfl
 have hval:∃v,(results fn a'.tmps).run P w' = .ok v w'∧RepR w' S' ρ'' (heapOf' blks') v rets:=by
  have hrun':(fn.results.mapM (fun r=>match r with | .tmp t=>pure (a'.tmps.getD t undef) | .cell x t=>do loadVar t (← asAddr (a'.tmps.getD x undef))):Sem (Array Value)).run P w' = .ok us.toArray w':=by
   rw [Array.mapM_eq_mapM_toList,Sem.run_map,hrun]; rfl
  refine⟨if h:us.toArray.size=1 then us.toArray[0] else .tuple us.toArray,?_,?_⟩
  ·have h0:results fn a'.tmps=(do
     let vs ← (fn.results.mapM (fun r=>match r with | .tmp t=>pure (a'.tmps.getD t undef) | .cell x t=>do loadVar t (← asAddr (a'.tmps.getD x undef))):Sem (Array Value))
     pure (if h:vs.size=1 then vs[0] else .tuple vs)):=rfl
   rw [h0,Sem.run_bind,hrun']
   rfl
  ·have hl:=hret.1
   match rets,hl,hret with
   | [l],hl,hret=>
    have h1:us.length=1:=by simpa using hl
    obtain⟨u,rfl⟩:∃u,us=[u]:=List.length_eq_one_iff.1 h1
    exact hret.2 0 (by simp) (by simp)
   | [],hl,hret=>
    have h1:us.length=0:=by simpa using hl
    simp only [List.size_toArray,h1]
    exact⟨us.toArray,rfl,by simpa using hret⟩
   | l1 :: l2 :: ls,hl,hret=>
    have h1:us.length≠1:=by simp at hl; omega
    simp only [List.size_toArray,h1,dif_neg,not_false_eq_true]
    exact⟨us.toArray,rfl,by simpa using hret⟩
 obtain⟨v,hv1,hv2⟩:=hval
 have hfin:∃v,(results fn a'.tmps).run P w' = .ok v w'∧(fun (e:Ending) (w':World)=>∃v S' ρ',e = .returned v∧Mem w B w' S' ρ' (heapOf' blks') ∧
   (∀b o,S b o→S' b o)∧(∀b o,S' b o→S b o∨w.heap.size≤b)∧(∀k,k<blks.length→ρ' k=ρ k)∧(∀k b o,ρ' k=some (b,o)→w.heap.size≤b∨∃o',ρ k=some (b,o'))∧RepR w' S' ρ' (heapOf' blks') v rets) (.returned v) w':=by
  refine⟨v,hv1,v,S',ρ'',rfl,hmem,hS,hS',fun k hkl=>?_,fun k b o hk=>?_,hv2⟩
  ·have hidk:ids[k]?=some k:=by
    simp only [ids]
    rw [List.getElem?_append_left (by simpa using hkl)]
    simp [hkl]
   simp only [ρ'',hidk,Option.bind_some]
   exact (hR.1 k (ρ k) (by simp [R0,hkl])).2.1
  ·obtain⟨id,hid,hik,hp⟩:=hat k b o hk
   rcases List.mem_append.1 hid with h1 | h1
   ·have hidl:id<blks.length:=by simpa using h1
    have hkid:k=id:=by
     have e1:ids[id]?=some id:=by
      simp only [ids]
      rw [List.getElem?_append_left (by simpa using hidl)]
      simp [hidl]
     rw [hkidx k id hik,← hkidx id id e1]
    subst hkid
    have:=(hR.1 k (ρ k) (by simp [R0,hidl])).2.1
    rw [hp] at this
    exact .inr ⟨_,this.symm⟩
   ·have h100:=List.all_eq_true.1 hn100 id h1
    exact .inl (hR.2 id b o (by simpa using h100) hp)
 exact hfin
end
end Go.LS
