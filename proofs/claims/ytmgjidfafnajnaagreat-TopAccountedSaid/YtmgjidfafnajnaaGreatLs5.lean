/-
  The framework LS, part 5: quiet operations, continued: loads, addresses, fields.
  No condition: lemmas.
-/
import Derived.Test.YtmgjidfafnajnaaGreatLs4
namespace Go.LS
set_option linter.all false
set_option linter.unusedSimpArgs false
set_option linter.unusedVariables false
section
variable {P:Program} {o:Oper} {a:Act} {w w0:World} {B:List Nat} {S:Seen} {ρ:Place} {st:LState}
theorem y_index_arr (i:InvAt w0 B S ρ st a w){t el:TypeId}{len:Nat}{x y:Operand}(ho:o.op = .index t x y) (hk:(tyOf P t).k = .arr len el){cs:List CV}{k:IntKind}{n:Int}{g g':Prop}
  (hx:ev st x=(.agg cs,g)) (hy:ev st y=(.one (.p (.val (.int k n))),g')) (hg:g) (hg':g') (h0:0≤n) (hn:n<len) (hl:cs.length=len*(tyOf P el).size) (hs:(tyOf P el).size≠0) (h1:(tyOf P el).agg=true∨(tyOf P el).size=1) :
  Yields P o a w S ρ st.h (.x (if (tyOf P el).agg then .agg (aAt (zP (tyOf P el).zero (tyOf P el).ce) cs n.toNat (tyOf P el).size) else .one ((aAt (zP (tyOf P el).zero (tyOf P el).ce) cs n.toNat (tyOf P el).size).getD 0 .dead))):=by
 have rx:=ev_rep i (x:=x) (by rw [hx]; exact hg)
 have ry:=repL_val (by have:=ev_rep i (x:=y) (by rw [hy]; exact hg'); rw [hy] at this; exact this)
 rw [hx] at rx
 obtain⟨us,hu,r⟩:=rx
 obtain⟨inf,d,hi,hd,e1,e2,e3⟩:=zM1 hs
 have hlt:n.toNat*(tyOf P el).size+(tyOf P el).size≤cs.length:=by
  rw [hl,← Nat.succ_mul]; exact Nat.mul_le_mul_right _ (by omega)
 have hA:aAt (zP (tyOf P el).zero (tyOf P el).ce) cs n.toNat (tyOf P el).size=(cs.drop (n.toNat*(tyOf P el).size)).take (tyOf P el).size:=by
  unfold aAt; rw [if_pos (by rw [Nat.succ_mul]; exact hlt)]
 rw [hA]
 have hG:(tyOf P el).agg=false→((cs.drop (n.toNat*(tyOf P el).size)).take (tyOf P el).size).getD 0 .dead=cs.getD (n.toNat*(tyOf P el).size) .dead:=fun hf=>by
  have h11:=h1.resolve_left (by rw [hf]; exact Bool.noConfusion)
  rw [h11]
  simp [List.getD,List.getElem?_take,List.getElem?_drop]
 have hC:(if (tyOf P el).agg then LV.agg ((cs.drop (n.toNat*(tyOf P el).size)).take (tyOf P el).size) else .one (((cs.drop (n.toNat*(tyOf P el).size)).take (tyOf P el).size).getD 0 .dead))=(if (tyOf P el).agg then LV.agg ((cs.drop (n.toNat*(tyOf P el).size)).take (tyOf P el).size) else .one (cs.getD (n.toNat*(tyOf P el).size) .dead)):=by
  cases hag:(tyOf P el).agg
  ·simp only [hG hag]
  ·rfl
 rw [hC]
 obtain⟨v,hv,hr⟩:=part_rep (P:=P) (ft:=el) (off:=n.toNat*inf.size) r hi hd (by
  rw [e1] at hlt
  by_cases ha:isAggT d=true
  ·rw [if_pos ha]; exact hlt
  ·rw [if_neg ha]; rw [e3] at h1; have:=h1.resolve_left ha; omega)
 refine zI9 (v:=v) ?_ ?_
 ·simp [execOp,ho,hu,ry,Instr.index,asIntOf,run_und (und_arr hk),h0,hn,run_sizeOf hi,hv]
 ·show RepL w S ρ st.h v _
  rw [e3,e1]; exact hr
theorem cell_row {b:Nat}{c:Array Value}{el:TypeId}(hr:Row w b c el) (j:Nat):w.cell? ⟨b,j,none⟩=c[j]?:=cell_of_row w b j c el (0,0) hr
theorem add_mk (b o n:Nat):(Addr.mk b o none).add n=⟨b,o+n,none⟩:=by
 unfold Addr.add; split
 ·subst_vars; rfl
 ·rfl
theorem run_loadVar {ti:TypeInfo}{d:TypeDesc}{t:TypeId}(hi:P.info? t=some ti) (hd:P.underlying t=some d) (b o:Nat) (f:Nat→Value) (hc:∀j,j<(if isAggT d then ti.size else 1)→w.cell? ⟨b,o+j,none⟩=some (f j)) :
  (loadVar t ⟨b,o,none⟩).run P w = .ok (if isAggT d then .agg ((List.range ti.size).map f).toArray else f 0) w:=by
 by_cases ha:isAggT d=true
 ·have:=run_loadCells_list (P:=P) (w:=w) ⟨b,o,none⟩ ((List.range ti.size).map f) (fun j v hj=>by
   rw [add_mk]
   simp only [List.getElem?_map,Option.map_eq_some_iff] at hj
   obtain⟨k,hk,rfl⟩:=hj
   have hk':=List.getElem?_eq_some_iff.1 hk
   obtain⟨h1,h2⟩:=hk'
   simp at h1 h2; subst h2
   exact hc j (by rw [if_pos ha]; exact h1))
  simp only [List.length_map,List.length_range] at this
  simp [loadVar,run_isAgg hd,ha,run_sizeOf hi,this]
 ·have:=hc 0 (by rw [if_neg ha]; omega)
  simp only [Nat.add_zero] at this
  simp [loadVar,run_isAgg hd,ha,this]
theorem evLoad_run (i:InvAt w0 B S ρ st a w){t:TypeId}(hz:(tyOf P t).size≠0) (h1:(tyOf P t).agg=true∨(tyOf P t).size=1){v:Value}{X:LV}(rx:RepL w S ρ st.h v X) (hq:(evLoad (tyOf P t) st.h X).2) :
  ∃u,(Instr.loadAt t v).run P w = .ok u w∧RepL w S ρ st.h u (evLoad (tyOf P t) st.h X).1:=by
 obtain⟨inf,d,hi,hd,e1,e2,e3⟩:=zM1 hz
 unfold evLoad at hq ⊢
 split at hq
 ·rename_i id off
  obtain⟨b,o',hp,rfl⟩:=repC_ptr rx
  split at hq
  ·rename_i cs hcs
   have hb:=i.mem.blocks id _ hcs
   obtain⟨b',c,el,hp',hr,hc⟩:=hb
   rw [hp] at hp'
   obtain⟨rfl,rfl⟩:b=b'∧o'=0:=by simpa using hp'
   have hlen:c.size=cs.length:=by have:=hc.1; simpa using this
   have hin:off+(if isAggT d then inf.size else 1)≤cs.length:=by
    rw [e3,e1] at hq
    by_cases ha:isAggT d=true
    ·simp only [ha,if_true] at hq ⊢; exact hq
    ·simp only [ha] at hq ⊢; simp at hq ⊢; omega
   have hrun:=run_loadVar (P:=P) (w:=w) hi hd b (0+off) (fun j=>c.getD (off+j) undef) (fun j hj=>by
    rw [cell_row hr]
    have:off+j<c.size:=by omega
    simp [Array.getD,this])
   refine⟨_,by simp only [Instr.loadAt,Instr.sureAddr,Sem.run_bind,Sem.run_pure,Result.andThen]; exact hrun,?_⟩
   rw [e3,e1]
   by_cases ha:isAggT d=true
   ·simp only [ha,if_true] at hin ⊢
    refine⟨_,rfl,by simp; omega,fun j hv hc'=>?_⟩
    have hj:j<inf.size:=by simp at hv; omega
    have:=hc.2 (off+j) (by simp; omega) (by omega)
    simp only [Array.getElem_toList] at this
    have h3:off+j<c.size:=by omega
    simpa [Array.getD,h3] using this
   ·simp only [ha] at hin ⊢
    simp at hin
    have h3:off<c.size:=by omega
    have:=hc.2 off (by simpa using h3) (by omega)
    simp only [Array.getElem_toList] at this
    show RepC w S ρ st.h _ (cs.getD off .dead)
    simpa [Array.getD,h3,List.getD,show off<cs.length by omega] using this
  ·exact hq.elim
 ·rename_i id k j
  obtain⟨b,o',e,xs,hb,hp,rfl⟩:=repC_ap rx
  rw [hb] at hq ⊢
  simp only at hq ⊢
  have hk0:k<xs.length:=by
   by_cases ha:(tyOf P t).agg=true
   ·rw [if_pos ha] at hq; exact hq.1
   ·rw [if_neg ha] at hq; exact hq.1
  simp only [apAt,hk0,if_true]
  obtain⟨he,hl,hm,hor⟩:=i.mem.blocks id _ hb
  rcases hor with⟨hn,rfl⟩ | ⟨b',o2,c,el,hp',hr,hsz,hc⟩
  ·rw [hp] at hn; cases hn
  rw [hp] at hp'
  obtain⟨rfl,rfl⟩:b=b'∧o'=o2:=by simpa using hp'
  have hk:k<xs.length:=by
   by_cases ha:(tyOf P t).agg=true
   ·rw [if_pos ha] at hq; exact hq.1
   ·rw [if_neg ha] at hq; exact hq.1
  have hin:j+(if isAggT d then inf.size else 1)≤e:=by
   rw [e3,e1] at hq
   by_cases ha:isAggT d=true
   ·simp only [ha,if_true] at hq ⊢; exact hq.2
   ·simp only [ha] at hq ⊢; simp at hq ⊢; omega
  have hxk:xs[k].length=e:=hl _ (List.getElem_mem hk)
  have hval:∀m,m<(if isAggT d then inf.size else 1)→∃u,w.cell? ⟨b,o'+(k*e+j)+m,none⟩=some u∧RepP w S u ((xs.getD k []).getD (j+m) .bad):=fun m hm=>by
   have hjm:j+m<xs[k].length:=by omega
   obtain⟨u,hu,hru⟩:=hc k (j+m) hk hjm
   refine⟨u,by rw [cell_row hr,← hu]; congr 1; omega,?_⟩
   simpa [List.getD,hk,hjm] using hru
  have hch:∃f:Nat→Value,∀m,m<(if isAggT d then inf.size else 1)→w.cell? ⟨b,o'+(k*e+j)+m,none⟩=some (f m)∧RepP w S (f m) ((xs.getD k []).getD (j+m) .bad):=
   ⟨fun m=>if hm:m<(if isAggT d then inf.size else 1) then (hval m hm).choose else undef,fun m hm=>by simp only [hm,dif_pos]; exact (hval m hm).choose_spec⟩
  obtain⟨f,hf⟩:=hch
  have hrun:=run_loadVar (P:=P) (w:=w) hi hd b (o'+(k*e+j)) f (fun m hm=>(hf m hm).1)
  refine⟨_,by simp only [Instr.loadAt,Instr.sureAddr,Sem.run_bind,Sem.run_pure,Result.andThen]; exact hrun,?_⟩
  rw [e3,e1]
  by_cases ha:isAggT d=true
  ·simp only [ha,if_true] at hin hf ⊢
   refine⟨_,rfl,by simp [List.getD,hk]; omega,fun m hv hc'=>?_⟩
   have hm':m<inf.size:=by simp at hv; omega
   have:=(hf m hm').2
   have h5:j+m<xs[k].length:=by omega
   simp only [List.getElem_map,List.getElem_take,List.getElem_drop]
   refine .p ?_
   simpa [List.getD,hk,h5] using this
  ·simp only [ha] at hin hf ⊢
   exact .p (by simpa using (hf 0 (by simp)).2)
 ·rename_i cs
  obtain⟨b,o',rfl,hsh⟩:=repC_ep rx
  have hin:(if isAggT d then inf.size else 1)≤cs.length:=by
   rw [e3,e1] at hq
   by_cases ha:isAggT d=true
   ·simp only [ha,if_true] at hq ⊢; exact hq
   ·simp only [ha] at hq ⊢; simp at hq ⊢; omega
  have hch:∃f:Nat→Value,∀m,m<(if isAggT d then inf.size else 1)→w.cell? ⟨b,o'+m,none⟩=some (f m)∧RepP w S (f m) (cs.getD m .bad):=
   ⟨fun m=>if hm:m<cs.length then (hsh m hm).choose else undef,fun m hm=>by
    have hm2:m<cs.length:=by omega
    simp only [hm2,dif_pos]
    obtain⟨h1,h2,h3⟩:=(hsh m hm2).choose_spec
    exact⟨h2,by simpa [List.getD,hm2] using h3⟩⟩
  obtain⟨f,hf⟩:=hch
  have hrun:=run_loadVar (P:=P) (w:=w) hi hd b o' f (fun m hm=>(hf m hm).1)
  refine⟨_,by simp only [Instr.loadAt,Instr.sureAddr,Sem.run_bind,Sem.run_pure,Result.andThen]; exact hrun,?_⟩
  rw [e3,e1]
  by_cases ha:isAggT d=true
  ·simp only [ha,if_true] at hin hf ⊢
   refine⟨_,rfl,by simp; omega,fun m hv hc'=>?_⟩
   have hm':m<inf.size:=by simp at hv; omega
   have:=(hf m hm').2
   have h5:m<cs.length:=by omega
   simp only [List.getElem_map,List.getElem_take]
   refine .p ?_
   simpa [List.getD,h5] using this
  ·simp only [ha] at hin hf ⊢
   exact .p (by simpa using (hf 0 (by simp)).2)
 ·exact hq.elim
theorem y_load (i:InvAt w0 B S ρ st a w){t:TypeId}{x:Operand}(ho:o.op = .load t x) (hx:(ev st x).2) (hz:(tyOf P t).size≠0) (h1:(tyOf P t).agg=true∨(tyOf P t).size=1)
  (hq:(evLoad (tyOf P t) st.h (ev st x).1).2):Yields P o a w S ρ st.h (.x (evLoad (tyOf P t) st.h (ev st x).1).1):=by
 obtain⟨u,hu,r⟩:=evLoad_run i hz h1 (ev_rep i hx) hq
 exact zI9 (v:=u) (by simp [execOp,ho,hu]) r
end
end Go.LS
