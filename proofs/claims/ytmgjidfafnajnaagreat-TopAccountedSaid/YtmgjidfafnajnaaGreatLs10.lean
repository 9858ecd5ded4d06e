/-
  The framework LS, part 10: operations that change logical blocks: new variables, stores, make.
  No condition: lemmas.
-/
import Derived.Test.YtmgjidfafnajnaaGreatLs9
namespace Go.LS
set_option linter.all false
set_option linter.unusedSimpArgs false
set_option linter.unusedVariables false
section
variable {P:Program} {o:Oper} {a:Act} {w w' w0:World} {B:List Nat} {S S' S0:Seen} {ρ:Place} {R0:Home} {st:LState} {h:Heap}
theorem one_of_plain {v:Value}(hv:plain v=true):v.oneCell'=true:=by cases v <;> simp_all [plain,Value.oneCell']
theorem Inv.bind {id d:Nat}{pl:Option (Nat×Nat)}{blk:Blk}{v:Value}{l:LV}(i:InvAt w0 B S ρ st a w) (hS:∀b o,S0 b o→S b o) (hS':∀b o,S b o→S0 b o∨w0.heap.size≤b) (hR:Vars w0 R0 ρ st.h)
  (t:Turn w w' S S' ρ id pl) (hd:d<st.n) (hid:100≤id)
  (rb:RepB w' S' (upd ρ id pl) (upd (killH id st.h) id (some blk)) id blk) (rv:RepL w' S' (upd ρ id pl) (upd (killH id st.h) id (some blk)) v l) :
  Inv w0 B S0 R0 (bindB st id blk d l) (a.put (some d) v) w':=
 ⟨S',upd ρ id pl,i.bind t hd rb rv,fun b o h=>t.sub b o (hS b o h),fun b o h=>by
  rcases t.new b o h with h | ⟨h,_⟩
  ·exact hS' b o h
  ·exact .inr (Nat.le_trans i.mem.size h),⟨(fun k p hk=>by
  obtain⟨h1,h2,h3⟩:=hR.1 k p hk
  have hne:k≠id:=by omega
  refine⟨h1,by simp [upd,hne]; exact h2,?_⟩
  simp only [bindB,upd,hne,if_false,killH]
  cases hb:st.h k with
  | none=>rw [hb] at h3; cases h3
  | some b=>rfl),fun k b o hk hp=>by
  by_cases hki:k=id
  ·subst hki
   simp [upd] at hp
   rcases (t.place b o hp).2.1 with h | ⟨o',h⟩
   ·exact Nat.le_trans i.mem.size h
   ·exact hR.2 k b o' hk h
  ·simp [upd,hki] at hp; exact hR.2 k b o hk hp⟩⟩
theorem l_assignNil (E:Env P) (inv:Inv w0 B S0 R0 st a w){x:Operand}(ho:o.op = .assign x) (hx:isNilConst x=true){d:Nat}(hdst:o.dst=some d){el:TypeId}(hz:1≤(tyOf P el).size) (hd:d<st.n){Q:Exit→Act→World→Prop} :
  o.wp P a w (fun a' w'=>Inv w0 B S0 R0 (bindB st (d+100) (.arr (tyOf P el).size []) d (.one (.vw (d+100)))) a' w') Q:=by
 obtain⟨S,ρ,i,hS,hS',hR⟩:=inv
 have hxe:x = .const (.slice none 0 0):=by
  cases x with
  | const v=>unfold isNilConst at hx; split at hx <;> simp_all
  | _=>simp [isNilConst] at hx
 subst hxe
 unfold Oper.wp
 simp only [execOp,ho,Sem.run_pure,Oper.upon,hdst]
 refine Inv.bind i hS hS' hR (pl:=none) (Turn.ofGrow (Grow.refl w S) (fun b o h=>by cases h)) hd (by omega) ?_ ?_
 ·exact⟨hz,by simp,by simp,.inl ⟨by simp [upd],rfl⟩⟩
 ·exact RepC.vwnil (e:=(tyOf P el).size) (by simp [upd])
theorem repB_newVar {id:Nat}{c:Array Value}{cs:List CV}{el:TypeId}(m:Mem w0 B w S ρ h) (r:RepCs w S ρ h c.toList cs) (hid:id∉cs.flatMap refsC) :
  RepB (w.alloc (.cells c el)) S (upd ρ id (some (w.heap.size,0))) (upd (killH id h) id (some (.var cs))) id (.var cs):=by
 refine⟨w.heap.size,c,el,by simp [upd],alloc_new w _,r.mono ((grow_alloc' w S (.cells c el)).seen fun b o h=>(m.sep b o h).1) fun i hi=>?_⟩
 have hne:i≠id:=fun e=>hid (e ▸ hi)
 refine⟨by simp [upd,hne],fun e xs hx=>⟨xs,by simp [upd,hne,killH,hx,Blk.map],rfl⟩,fun _ _ b o c' el' _ hp hr=>⟨c',?_,rfl⟩⟩
 unfold Row at *
 rw [alloc_old w _ b (m.place i b o hp).1]; exact hr
theorem turn_alloc (m:Mem w0 B w S ρ h) (ob:Obj) (id:Nat):Turn w (w.alloc ob) S S ρ id (some (w.heap.size,0)):=
 Turn.ofGrow (grow_alloc' w S ob) fun b o hp=>by
  simp at hp
  obtain⟨rfl,rfl⟩:=hp
  exact⟨by simp,.inl (Nat.le_refl _),fun o' hs=>by have:=(m.sep _ _ hs).1; omega⟩
theorem l_alloc (inv:Inv w0 B S0 R0 st a w){t:TypeId}(ho:o.op = .alloc t){d:Nat}(hdst:o.dst=some d) (hd:d<st.n) (hz:zeroOk P t=true){Q:Exit→Act→World→Prop} :
  o.wp P a w (fun a' w'=>Inv w0 B S0 R0 (bindB st (d+100) (.var ((tyOf P t).zero.map fun v=>.p (toP v))) d (.one (.ptr (d+100) 0))) a' w') Q:=by
 obtain⟨S,ρ,i,hS,hS',hR⟩:=inv
 obtain⟨z,inf,dd,hz1,hz2,_,_,_,_,_,_,hz3⟩:=zero_run hz w
 have hrun:(execOp a.eval o).run P w = .ok (.value (.pointer (some ⟨w.heap.size,0,none⟩))) (w.alloc (.cells z.cells t)):=by
  simp [execOp,ho,Instr.alloc,hz1,newVar,newRow,newObj,Sem.run]
 unfold Oper.wp
 rw [hrun]
 simp only [Oper.upon,hdst]
 refine Inv.bind i hS hS' hR (turn_alloc i.mem _ _) hd (by omega) (repB_newVar i.mem (by rw [hz2]; exact repCs_zero hz3) (by simp [refsC])) ?_
 exact RepC.ptr (off:=0) (by simp [upd])
theorem l_box (inv:Inv w0 B S0 R0 st a w){t:TypeId}{x:Operand}(ho:o.op = .box t x) (hx:(ev st x).2){d:Nat}(hdst:o.dst=some d) (hd:d<st.n){Q:Exit→Act→World→Prop} :
  o.wp P a w (fun a' w'=>Inv w0 B S0 R0 (bindB st (d+100) (.var ((cellsOfL (ev st x).1).map (killC (d+100)))) d (.one (.ptr (d+100) 0))) a' w') Q:=by
 obtain⟨S,ρ,i,hS,hS',hR⟩:=inv
 have rx:=repL_cells (ev_rep i hx)
 have hrun:(execOp a.eval o).run P w = .ok (.value (.pointer (some ⟨w.heap.size,0,none⟩))) (w.alloc (.cells (a.eval x).cells t)):=by
  simp [execOp,ho,Instr.box,newVar,newRow,newObj,Sem.run]
 unfold Oper.wp
 rw [hrun]
 simp only [Oper.upon,hdst]
 refine Inv.bind i hS hS' hR (turn_alloc i.mem _ _) hd (by omega) (repB_newVar i.mem (rx.kill (id:=d+100) (fun b o hs=>⟨hs,rfl⟩) fun k _=>i.mem.keeps (Grow.refl w S) k) ?_) ?_
 ·simp only [List.mem_flatMap,List.mem_map,not_exists,not_and]
  rintro c ⟨c0,_,rfl⟩ hc
  exact (refs_kill _ _ _ hc).1 rfl
 ·exact RepC.ptr (off:=0) (by simp [upd])
theorem rows_setRow {b:Nat}{c c':Array Value}{el:TypeId}(hr:Row w b c el) (hsz:c'.size=c.size):RowsKept w (w.setRow b c'):=fun b2 c2 el2 hr2=>by
 by_cases hb2:b2=b
 ·subst hb2
  unfold Row at *
  rw [hr] at hr2
  simp at hr2
  obtain⟨rfl,rfl⟩:=hr2
  exact⟨c',setRow_heap w b2 c c' el (0,0) hr,hsz⟩
 ·exact⟨c2,by unfold Row at *; rw [setRow_other w b b2 c' hb2]; exact hr2,rfl⟩
theorem Mem.setBlk {id b o:Nat}{c c':Array Value}{el:TypeId}{blk blk':Blk}(m:Mem w0 B w S ρ h) (hb:h id=some blk) (hp:ρ id=some (b,o)) (hr:Row w b c el) (hsz:c'.size=c.size)
  (hkind:(∃cs cs',blk = .var cs∧blk' = .var cs')∨(∃e xs xs',blk = .arr e xs∧blk' = .arr e xs'∧xs'.length=xs.length))
  (rb:(∀ (b' o':Nat),S b' o'→S b' o'∧(w.setRow b c').cell? ⟨b',o',none⟩=w.cell? ⟨b',o',none⟩)→(∀i,Keeps w (w.setRow b c') ρ ρ h (upd h id (some blk')) i)→RepB (w.setRow b c') S ρ (upd h id (some blk')) id blk') :
  Mem w0 B (w.setRow b c') S ρ (upd h id (some blk'))∧(∀b' o',S b' o'→S b' o'∧(w.setRow b c').cell? ⟨b',o',none⟩=w.cell? ⟨b',o',none⟩)∧(∀i,Keeps w (w.setRow b c') ρ ρ h (upd h id (some blk')) i):=by
 have hs:∀b' o',S b' o'→S b' o'∧(w.setRow b c').cell? ⟨b',o',none⟩=w.cell? ⟨b',o',none⟩:=fun b' o' hS=>
  ⟨hS,cell_setRow_other w b c' ⟨b',o',none⟩ fun e=>(m.sep b' o' hS).2 id o (by have e':b'=b:=e; rw [e']; exact hp)⟩
 have hk:∀i,Keeps w (w.setRow b c') ρ ρ h (upd h id (some blk')) i:=fun i=>by
  refine⟨rfl,fun e xs hx=>?_,fun _ _ b2 o2 c2 el2 _ hp2 hr2=>?_⟩
  ·by_cases hi:i=id
   ·subst hi
    rw [hb] at hx
    rcases hkind with⟨cs,cs',rfl,rfl⟩ | ⟨e',xs',xs2,rfl,rfl,hl⟩
    ·cases hx
    ·simp at hx; obtain⟨rfl,rfl⟩:=hx; exact⟨xs2,by simp [upd],hl⟩
   ·exact⟨xs,by simp [upd,hi,hx],rfl⟩
  ·by_cases hb2:b2=b
   ·subst hb2
    unfold Row at *
    rw [hr] at hr2
    simp at hr2
    obtain⟨rfl,rfl⟩:=hr2
    exact⟨c',setRow_heap w b2 c c' el (0,0) hr,hsz⟩
   ·exact⟨c2,by unfold Row at *; rw [setRow_other w b b2 c' hb2]; exact hr2,rfl⟩
 refine⟨⟨fun i b2 hb2=>?_,fun i hi=>?_,fun i b2 o2 hp2=>?_,m.inj,fun b2 o2 hS=>?_,?_,fun b2 h1 h2=>?_,m.calm.trans ⟨rfl,rfl,rfl⟩,m.rows.trans (rows_setRow hr hsz),m.tab⟩,hs,hk⟩
 ·by_cases hi:i=id
  ·subst hi; simp [upd] at hb2; subst hb2; exact rb hs hk
  ·simp only [upd,hi,if_false] at hb2
   have r:=m.blocks i b2 hb2
   cases b2 with
   | var cs=>
    obtain⟨b3,c3,el3,hp3,hr3,hc3⟩:=r
    refine⟨b3,c3,el3,hp3,?_,hc3.mono hs fun j _=>hk j⟩
    unfold Row at *
    rw [setRow_other w b b3 c' fun e=>hi (m.inj i id b 0 o (e ▸ hp3) hp)]; exact hr3
   | arr e xs=>
    obtain⟨h1,h2,h3,h4⟩:=r
    refine⟨h1,h2,h3,?_⟩
    rcases h4 with h4 | ⟨b3,o3,c3,el3,hp3,hr3,hz3,hc3⟩
    ·exact .inl h4
    ·refine .inr ⟨b3,o3,c3,el3,hp3,?_,hz3,fun k j hk' hj=>?_⟩
     ·unfold Row at *
      rw [setRow_other w b b3 c' fun e=>hi (m.inj i id b o3 o (e ▸ hp3) hp)]; exact hr3
     ·obtain⟨v,hv,hrv⟩:=hc3 k j hk' hj
      exact⟨v,hv,hrv.mono hs⟩
 ·by_cases hid:i=id
  ·subst hid; simp [upd] at hi
  ·simp only [upd,hid,if_false] at hi; exact m.dom i hi
 ·have:=m.place i b2 o2 hp2; simpa using this
 ·have:=m.sep b2 o2 hS; simpa using this
 ·have:=m.size; simpa using this
 ·rw [setRow_other w b b2 c' fun e=>?_]
  ·exact m.frame b2 h1 h2
  ·subst e
   rcases (m.place id b2 o hp).2 with h | h
   ·omega
   ·exact h2 h
theorem run_storeVar {t:TypeId}{inf:TypeInfo}(hi:P.info? t=some inf){b off:Nat}{c:Array Value}{el:TypeId}(hr:Row w b c el){v:Value}(hl:v.cells.size=inf.size) (hle:off+v.cells.size≤c.size) (hp:∀u∈v.cells.toList,plain u=true) :
  (storeVar t ⟨b,off,none⟩ v).run P w = .ok () (w.setRow b (splice c.toList off v.cells.toList).toArray):=by
 have:=run_storeCells_at P b off el v.cells.toList 0 c w hr (by simpa using hle) (fun u hu=>one_of_plain (hp u hu))
 simp only [storeVar,Sem.run_bind,run_sizeOf hi,Result.andThen,hl]
 simp only [Nat.add_zero] at this
 simpa [splice] using this
theorem RepCs.allPlain {vs:List Value}{cs:List CV}(r:RepCs w S ρ h vs cs):∀u∈vs,plain u=true:=by
 intro u hu
 obtain⟨k,hk,rfl⟩:=List.getElem_of_mem hu
 exact (r.2 k hk (by rw [← r.1]; exact hk)).plain
theorem l_store_var (inv:Inv w0 B S0 R0 st a w){t:TypeId}{x y:Operand}(ho:o.op = .store t x y) (hdst:o.dst=none) (hx:(ev st x).2) (hy:(ev st y).2){id off:Nat}(hX:(ev st x).1 = .one (.ptr id off)){cs:List CV}(hb:st.h id=some (.var cs))
  (hl:(cellsOfL (ev st y).1).length=(tyOf P t).size) (hz:(tyOf P t).size≠0) (hle:off+(cellsOfL (ev st y).1).length≤cs.length) {Q:Exit→Act→World→Prop} :
  o.wp P a w (fun a' w'=>Inv w0 B S0 R0 { st with h:=upd st.h id (some (.var (splice cs off (cellsOfL (ev st y).1)))) } a' w') Q:=by
 obtain⟨S,ρ,i,hS,hS',hR⟩:=inv
 have rx:=ev_rep i hx
 rw [hX] at rx
 obtain⟨b,o',hp,hv⟩:=repC_ptr rx
 have ry:=repL_cells (ev_rep i hy)
 obtain⟨b',c,el,hp',hr,hc⟩:=i.mem.blocks id _ hb
 rw [hp] at hp'
 obtain⟨rfl,rfl⟩:b=b'∧o'=0:=by simpa using hp'
 have hcs:c.size=cs.length:=by have:=hc.1; simpa using this
 have hys:(a.eval y).cells.size=(cellsOfL (ev st y).1).length:=by have:=ry.1; simpa using this
 obtain⟨inf,d,hi,hd,e1,_⟩:=zM1 hz
 have hrun:=run_storeVar (P:=P) hi hr (v:=a.eval y) (off:=off) (by omega) (by omega) ry.allPlain
 unfold Oper.wp
 have he:(execOp a.eval o).run P w = .ok .skip (w.setRow b (splice c.toList off (a.eval y).cells.toList).toArray):=by
  simp only [execOp,ho,hv,Instr.storeAt,Instr.sureAddr,Sem.run_bind,Sem.run_pure,Result.andThen,Nat.zero_add,hrun]
 rw [he]
 simp only [Oper.upon,hdst,Act.put]
 obtain⟨m1,m2,m3⟩:=i.mem.setBlk (c':=(splice c.toList off (a.eval y).cells.toList).toArray) (blk':=.var (splice cs off (cellsOfL (ev st y).1))) hb hp hr (by simp [splice]; omega) (.inl ⟨_,_,rfl,rfl⟩) (fun hs hk=>by
  refine⟨b,_,el,hp,setRow_heap w b c _ el (0,0) hr,?_⟩
  have r2:=repCs_splice (off:=off) (hc.mono hs fun j _=>hk j) (ry.mono hs fun j _=>hk j) (by omega)
  simpa using r2)
 refine⟨S,ρ,⟨m1,i.tmps,i.defers.mono (fun k _ hn=>setRow_other w b k _ (fun e=>hn id _ (e ▸ hp))) (fun id b o h=>.inl ⟨id,o,h⟩),fun k=>(i.slots k).mono m2 fun j _=>m3 j⟩,hS,hS',fun k p hk=>?_,hR.2⟩
 obtain⟨h1,h2,h3⟩:=hR.1 k p hk
 refine⟨h1,h2,?_⟩
 simp only [upd]; split
 ·rfl
 ·exact h3
theorem l_store_arr (inv:Inv w0 B S0 R0 st a w){t:TypeId}{x y:Operand}(ho:o.op = .store t x y) (hdst:o.dst=none) (hx:(ev st x).2) (hy:(ev st y).2){id k j e:Nat}(hX:(ev st x).1 = .one (.ap id k j)){xs:List (List PV)}(hb:st.h id=some (.arr e xs))
  (hpu:(purify (cellsOfL (ev st y).1)).2) (hl:(cellsOfL (ev st y).1).length=(tyOf P t).size) (hz:(tyOf P t).size≠0) (hk:k<xs.length) (hle:j+(cellsOfL (ev st y).1).length≤e) {Q:Exit→Act→World→Prop} :
  o.wp P a w (fun a' w'=>Inv w0 B S0 R0 { st with h:=upd st.h id (some (.arr e (xs.set k (splice (xs.getD k []) j (purify (cellsOfL (ev st y).1)).1)))) } a' w') Q:=by
 obtain⟨S,ρ,i,hS,hS',hR⟩:=inv
 have rx:=ev_rep i hx
 rw [hX] at rx
 obtain⟨b,o',e',xs',hb',hp,hv⟩:=repC_ap rx
 rw [hb] at hb'
 obtain⟨rfl,rfl⟩:e=e'∧xs=xs':=by simpa using hb'
 have ry:=repL_cells (ev_rep i hy)
 obtain⟨p1,p2⟩:=purify_rep hpu ry
 obtain⟨he1,hle',hm',hor⟩:=i.mem.blocks id _ hb
 rcases hor with⟨hn,_⟩ | ⟨b',o2,c,el,hp',hr,⟨ho2,hsz⟩,hc⟩
 ·rw [hp] at hn; cases hn
 rw [hp] at hp'
 obtain⟨rfl,rfl⟩:b=b'∧o'=o2:=by simpa using hp'
 subst ho2
 have hys:(a.eval y).cells.size=(cellsOfL (ev st y).1).length:=by have:=ry.1; simpa using this
 obtain⟨inf,d,hi,hd,e1,_⟩:=zM1 hz
 have hke:k*e+e≤xs.length*e:=by rw [← Nat.succ_mul]; exact Nat.mul_le_mul_right e hk
 have hrun:=run_storeVar (P:=P) hi hr (v:=a.eval y) (off:=k*e+j) (by omega) (by omega) ry.allPlain
 unfold Oper.wp
 have he:(execOp a.eval o).run P w = .ok .skip (w.setRow b (splice c.toList (k*e+j) (a.eval y).cells.toList).toArray):=by
  simp only [execOp,ho,hv,Instr.storeAt,Instr.sureAddr,Sem.run_bind,Sem.run_pure,Result.andThen,Nat.zero_add,hrun]
 rw [he]
 simp only [Oper.upon,hdst,Act.put]
 have hgd:xs.getD k []=xs[k]:=by simp [List.getD,hk]
 have hxk:xs[k].length=e:=hle' _ (List.getElem_mem hk)
 have hpl:(purify (cellsOfL (ev st y).1)).1.length=(cellsOfL (ev st y).1).length:=by rw [← p1]; simpa using hys
 rw [hgd]
 obtain⟨m1,m2,m3⟩:=i.mem.setBlk (c':=(splice c.toList (k*e+j) (a.eval y).cells.toList).toArray) (blk':=.arr e (xs.set k (splice xs[k] j (purify (cellsOfL (ev st y).1)).1))) hb hp hr (by simp [splice]; omega) (.inr ⟨_,_,_,rfl,rfl,by simp⟩) (fun hs hkk=>by
  refine⟨he1,fun x hx=>?_,by simpa using hm',.inr ⟨b,0,_,el,hp,setRow_heap w b c _ el (0,0) hr,⟨rfl,by simp [splice]; omega⟩,fun i2 j2 hi2 hj2=>?_⟩⟩
  ·rcases List.mem_or_eq_of_mem_set hx with hx | rfl
   ·exact hle' x hx
   ·simp [splice]; omega
  ·have hi2':i2<xs.length:=by simpa using hi2
   simp only [Nat.zero_add,List.getElem?_toArray]
   by_cases hik:i2=k
   ·subst hik
    have hj3:j2<e:=by simp [splice] at hj2; omega
    by_cases h1:j≤j2∧j2<j+(cellsOfL (ev st y).1).length
    ·have hlt:j2 - j<(a.eval y).cells.toList.length:=by simp; omega
     refine⟨(a.eval y).cells.toList[j2 - j],?_,?_⟩
     ·simp only [splice]
      rw [List.append_assoc,List.getElem?_append_right (by simp; omega),List.getElem?_append_left (by simp; omega)]
      rw [List.getElem?_eq_getElem (by simp; omega)]
      congr 2; simp; omega
     ·have:=p2 (j2 - j) hlt (by omega)
      have e2:(xs.set i2 (splice xs[i2] j (purify (cellsOfL (ev st y).1)).1))[i2][j2]=(purify (cellsOfL (ev st y).1)).1[j2 - j]'(by omega):=by
       simp only [List.getElem_set_self,splice]
       rw [List.getElem_append_left (by simp; omega),List.getElem_append_right (by simp; omega)]
       congr 1; simp; omega
      rw [e2]; exact this.mono hs
    ·obtain⟨u,hu,hru⟩:=hc i2 j2 hi2' (by omega)
     simp only [Nat.zero_add] at hu
     have hlt:=idx_lt (e:=e) hi2' hj3
     refine⟨u,?_,?_⟩
     ·rw [← hu]
      simp only [splice]
      by_cases h2:j2<j
      ·rw [List.append_assoc,List.getElem?_append_left (by simp; omega),List.getElem?_take_of_lt (by omega)]; simp
      ·rw [List.getElem?_append_right (by simp; omega),List.getElem?_drop]
       rw [Array.getElem?_toList]; congr 1; simp; omega
     ·have e2:(xs.set i2 (splice xs[i2] j (purify (cellsOfL (ev st y).1)).1))[i2][j2]=xs[i2][j2]'(by omega):=by
       simp only [List.getElem_set_self,splice]
       by_cases h2:j2<j
       ·rw [List.getElem_append_left (by simp; omega),List.getElem_append_left (by simp; omega)]; simp
       ·rw [List.getElem_append_right (by simp; omega)]
        simp only [List.getElem_drop]
        congr 1; simp; omega
      rw [e2]; exact hru.mono hs
   ·have e2:(xs.set k (splice xs[k] j (purify (cellsOfL (ev st y).1)).1))[i2]=xs[i2]:=by simp [List.getElem_set,Ne.symm hik]
    have hj3:j2<xs[i2].length:=by rw [e2] at hj2; exact hj2
    obtain⟨u,hu,hru⟩:=hc i2 j2 hi2' hj3
    simp only [Nat.zero_add] at hu
    have hje:j2<e:=by rw [hle' _ (List.getElem_mem hi2')] at hj3; exact hj3
    have hlt:=idx_lt (e:=e) hi2' hje
    refine⟨u,?_,?_⟩
    ·rw [← hu]
     simp only [splice]
     rcases Nat.lt_or_gt_of_ne hik with hlt2 | hgt
     ·have:(i2+1)*e≤k*e:=Nat.mul_le_mul_right e hlt2
      rw [Nat.succ_mul] at this
      rw [List.append_assoc,List.getElem?_append_left (by simp; omega),List.getElem?_take_of_lt (by omega)]; simp
     ·have:(k+1)*e≤i2*e:=Nat.mul_le_mul_right e hgt
      rw [Nat.succ_mul] at this
      rw [List.getElem?_append_right (by simp; omega),List.getElem?_drop]
      rw [Array.getElem?_toList]; congr 1; simp; omega
    ·have h9:∀ (l:List PV) (h:l=xs[i2]) (hj':j2<l.length),RepP (w.setRow b (splice c.toList (k*e+j) (a.eval y).cells.toList).toArray) S u l[j2]:=by intro l h hj'; subst h; exact hru.mono hs
     exact h9 _ e2 _)
 refine⟨S,ρ,⟨m1,i.tmps,i.defers.mono (fun k _ hn=>setRow_other w b k _ (fun e=>hn id _ (e ▸ hp))) (fun id b o h=>.inl ⟨id,o,h⟩),fun k=>(i.slots k).mono m2 fun j _=>m3 j⟩,hS,hS',fun k p hk=>?_,hR.2⟩
 obtain⟨h1,h2,h3⟩:=hR.1 k p hk
 refine⟨h1,h2,?_⟩
 simp only [upd]; split
 ·rfl
 ·exact h3
end
end Go.LS
