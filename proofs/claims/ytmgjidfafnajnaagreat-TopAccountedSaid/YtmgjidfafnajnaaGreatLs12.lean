/-
  The framework LS, part 12: append and make on logical blocks.
  No condition: lemmas.
-/
import Derived.Test.YtmgjidfafnajnaaGreatLs11
namespace Go.LS
set_option linter.all false
set_option linter.unusedSimpArgs false
set_option linter.unusedVariables false
section
variable {P:Program} {o:Oper} {a:Act} {w w' w0:World} {B:List Nat} {S S' S0:Seen} {ρ:Place} {R0:Home} {st:LState} {h:Heap}
theorem repB_arr {id b e:Nat}{c:Array Value}{el:TypeId}{us:List Value}{xs:List (List PV)}(hp:ρ id=some (b,0)) (hr:Row w b c el) (hX:RepX w S e us xs) (hpre:c.toList.take us.length=us) (he:1≤e) (hm:xs.length≤roomy) :
  RepB w S ρ h id (.arr e xs):=by
 have hl:us.length≤c.size:=by
  have:=congrArg List.length hpre
  simp at this; omega
 refine⟨he,hX.2.1,hm,.inr ⟨b,0,c,el,hp,hr,⟨rfl,by rw [← hX.1]; exact hl⟩,fun i j hi hj=>?_⟩⟩
 obtain⟨v,hv,hrv⟩:=hX.2.2 i j hi hj
 refine⟨v,?_,hrv⟩
 rw [← hpre,List.getElem?_take] at hv
 split at hv
 ·simpa using hv
 ·cases hv
theorem run_call_append {c:Call}(ho:o.op = .call c) (hc:c.callee = .builtin .append){s x:Operand}{t:TypeId}(hx:c.args.toList=[s,x]) (ht:c.argTypes.toList=[t,t]){r:Result Value}
  (hr:(Builtin.append_ #[t,t] o.type #[a.eval s,a.eval x]).run P w=r):(execOp a.eval o).run P w=r.andThen fun v w'=>.ok (.value v) w':=by
 have h1:c.args = #[s,x]:=Array.toList_inj.1 hx
 have h2:c.argTypes = #[t,t]:=Array.toList_inj.1 ht
 simp only [execOp,ho,resolve,hc,h1,h2,invoke,builtin,Sem.run_bind,Sem.run_pure,Result.andThen_ok,List.map_toArray,List.map_cons,List.map_nil,hr]
theorem l_append_bind (inv:Inv w0 B S0 R0 st a w){c:Call}(ho:o.op = .call c) (hc:c.callee = .builtin .append){s x:Operand}{t el:TypeId}(hxs:c.args.toList=[s,x]) (hts:c.argTypes.toList=[t,t]) (hk:(tyOf P t).k = .sl el)
  {d:Nat} (hdst:o.dst=some d) (hd:d<st.n) (hs:(ev st s).2) (hx:(ev st x).2) (hq:(srcOf st.h (ev st x).1).2) (hE:srcE st.h (tyOf P el).size (ev st x).1) (hz:zeroOk P el=true)
  {id:Nat} {xs:List (List PV)} (hid:100≤id)
  (hT:((ev st s).1 = .one (.p .nil)∧xs=[])∨((ev st s).1 = .one (.vw id)∧st.h id=some (.arr (tyOf P el).size xs)))
  (hb:(xs.length+(srcOf st.h (ev st x).1).1.length)*(tyOf P el).bytes≤roomy) (hm:xs.length+(srcOf st.h (ev st x).1).1.length≤roomy) {Q:Exit→Act→World→Prop} :
  o.wp P a w (fun a' w'=>Inv w0 B S0 R0 (bindB st id (.arr (tyOf P el).size (xs++(srcOf st.h (ev st x).1).1)) d (.one (.vw id))) a' w') Q:=by
 obtain⟨S,ρ,i,hS,hS',hR⟩:=inv
 have hz':=hz
 simp only [zeroOk,Bool.and_eq_true,decide_eq_true_eq] at hz'
 have he1:1≤(tyOf P el).size:=by have:=hz'.1.2; omega
 have hsrc:=src_rep i hx hq hE
 generalize (srcOf st.h (ev st x).1).1=ys at *
 generalize he:(tyOf P el).size=e at *
 obtain⟨news,hnX,hnS⟩:∃news,RepX w S e news ys∧((a.eval x = .slice none 0 0∧ys.length=0∧news=[])∨∃ad c,a.eval x = .slice (some ad) ys.length c∧news.length=ys.length*e∧∀j u,news[j]?=some u→w.cell? (ad.add j)=some u):=by
  rcases hsrc with⟨h1,rfl⟩ | ⟨ad,c,us,h1,h2,_,h3⟩
  ·exact⟨[],RepX.nil e,.inl ⟨h1,rfl,rfl⟩⟩
  ·exact⟨us,h2,.inr ⟨ad,c,h1,h2.1,h3⟩⟩
 have htgt:∃olds,RepX w S e olds xs∧((a.eval s = .slice none 0 0∧xs=[]∧olds=[])∨∃b cap cc elb,a.eval s = .slice (some ⟨b,0,none⟩) xs.length cap∧xs.length≤cap∧ρ id=some (b,0)∧Row w b cc elb∧cap*e≤cc.size∧cc.toList.take (xs.length*e)=olds):=by
  have rs:=ev_rep i hs
  rcases hT with⟨h1,rfl⟩ | ⟨h1,hb'⟩
  ·rw [h1] at rs
   have hv:a.eval s = .slice none 0 0:=by
    generalize a.eval s=v at *
    cases rs with | p r=>cases r; rfl
   exact⟨[],RepX.nil e,.inl ⟨hv,rfl,rfl⟩⟩
  ·rw [h1] at rs
   obtain⟨g1,g2,g3,g4⟩:=i.mem.blocks id _ hb'
   generalize hv:a.eval s=v at *
   cases rs with
   | vwnil hb2=>
    rw [hb'] at hb2; simp at hb2; obtain⟨_,rfl⟩:=hb2
    exact⟨[],RepX.nil e,.inl ⟨rfl,rfl,rfl⟩⟩
   | @vw _ e2 b o2 cap xs2 cc elb hb2 hp hrow hcap hroom hmx=>
    rw [hb'] at hb2
    obtain⟨rfl,rfl⟩:e=e2∧xs=xs2:=by simpa using hb2
    rcases g4 with⟨g4,_⟩ | ⟨b3,o3,c3,el3,hp3,hr3,⟨ho3,hz3⟩,hc3⟩
    ·rw [hp] at g4; cases g4
    rw [hp] at hp3
    obtain⟨rfl,rfl⟩:b=b3∧o2=o3:=by simpa using hp3
    subst ho3
    unfold Row at hrow hr3
    rw [hrow] at hr3
    simp at hr3
    obtain⟨rfl,rfl⟩:=hr3
    simp only [Nat.zero_add] at hroom
    refine⟨cc.toList.take (xs.length*e),⟨by simp; omega,g2,fun k j hk hj=>?_⟩,.inr ⟨b,cap,cc,elb,rfl,hcap,hp,hrow,hroom,rfl⟩⟩
    obtain⟨u,hu,hru⟩:=hc3 k j hk hj
    simp only [Nat.zero_add] at hu
    have hje:j<e:=by rw [g2 _ (List.getElem_mem hk)] at hj; exact hj
    exact⟨u,by rw [List.getElem?_take_of_lt (idx_lt hk hje)]; simpa using hu,hru⟩
 obtain⟨olds,hoX,htg⟩:=htgt
 have hall:=hoX.append hnX
 have hpl:=hnX.allPlain he1
 have hrun:=run_append (P:=P) (w:=w) hk hz (ty:=o.type) (tv:=a.eval s) (sv:=a.eval x) (n:=xs.length) (m:=ys.length) (olds:=olds) (news:=news) (by
  rcases htg with⟨h1,rfl,rfl⟩ | ⟨b,cap,cc,elb,h1,h2,h3,h4,h5,h6⟩
  ·exact .inl ⟨h1,rfl,rfl⟩
  ·refine .inr ⟨b,0,cap,h1,h2,by rw [he]; exact hoX.1,fun j u hj=>?_⟩
   rw [add_mk,Nat.zero_add,cell_row h4]
   rw [← h6,List.getElem?_take] at hj
   split at hj
   ·simpa using hj
   ·cases hj) (by rw [he]; exact hnS) hpl hb hm
 rw [he] at hrun
 have hlen:xs.length+ys.length=(xs++ys).length:=by simp
 unfold Oper.wp
 rcases hrun with⟨h0,hr⟩ | ⟨g,off,cap,htv,hroom,hr⟩ | ⟨hpos,hcapl,rest,cap,hcap,hrl,hr⟩
 ·-- nothing was appended
  rw [run_call_append ho hc hxs hts hr]
  simp only [Result.andThen,Oper.upon,hdst]
  have hy0:ys=[]:=List.eq_nil_of_length_eq_zero h0
  subst hy0
  have hn0:news=[]:=List.eq_nil_of_length_eq_zero (by have:=hnX.1; simpa using this)
  subst hn0
  rw [List.append_nil] at hall ⊢
  rcases htg with⟨h1,rfl,rfl⟩ | ⟨b,cap,cc,elb,h1,h2,h3,h4,h5,h6⟩
  ·rw [h1]
   refine Inv.bind i hS hS' hR (pl:=none) (Turn.ofGrow (Grow.refl w S) (fun b o h=>by cases h)) hd hid ?_ (RepC.vwnil (e:=e) (by simp [upd]))
   exact⟨he1,by simp,by simp,.inl ⟨by simp [upd],rfl⟩⟩
  ·rw [h1]
   have hbs:=(i.mem.place id b 0 h3).1
   refine Inv.bind i hS hS' hR (pl:=some (b,0)) (Turn.ofGrow (Grow.refl w S) (fun b' o' h=>?_)) hd hid ?_ ?_
   ·simp at h; obtain⟨rfl,rfl⟩:=h
    exact⟨hbs,.inr ⟨0,h3⟩,fun o' hs=>(i.mem.sep b o' hs).2 id 0 h3⟩
   ·exact repB_arr (by simp [upd]) h4 hoX (by rw [hoX.1]; exact h6) he1 (by omega)
   ·exact RepC.vw (e:=e) (o:=0) (by simp [upd]) (by simp [upd]) h4 h2 (by omega) (by omega)
 ·-- into the room behind
  rcases htg with⟨h1,rfl,rfl⟩ | ⟨b,cap2,cc,elb,h1,h2,h3,h4,h5,h6⟩
  ·rw [h1] at htv; cases htv
  rw [h1] at htv
  simp at htv
  obtain⟨⟨rfl,rfl⟩,rfl⟩:=htv
  have hfit:0+(xs.length+ys.length)*e≤cc.size:=by
   have:(xs.length+ys.length)*e≤cap2*e:=Nat.mul_le_mul_right e hroom
   omega
  have hr':=hr cc elb h4 hfit
  rw [run_call_append ho hc hxs hts hr']
  simp only [Result.andThen,Oper.upon,hdst]
  have hbs:=(i.mem.place id b 0 h3).1
  have hnl:news.length=ys.length*e:=hnX.1
  have hol:olds.length=xs.length*e:=hoX.1
  have hturn:Turn w (w.setRow b (splice cc.toList (0+xs.length*e) news).toArray) S S ρ id (some (b,0)):=by
   refine⟨by simp,fun b' hb' hne=>setRow_other w b b' _ fun e=>hne 0 (e ▸ h3),fun _ _ h=>h,fun _ _ h=>.inl h,fun b' o' h=>?_,⟨rfl,rfl,rfl⟩,rows_setRow h4 (by
    have hmul:(xs.length+ys.length)*e=xs.length*e+ys.length*e:=Nat.add_mul _ _ _
    simp [splice]; omega)⟩
   simp at h; obtain⟨rfl,rfl⟩:=h
   exact⟨by simpa using hbs,.inr ⟨0,h3⟩,fun o' hs=>(i.mem.sep b o' hs).2 id 0 h3⟩
  have hrow':Row (w.setRow b (splice cc.toList (0+xs.length*e) news).toArray) b (splice cc.toList (0+xs.length*e) news).toArray elb:=setRow_heap w b cc _ elb (0,0) h4
  rw [hlen]
  refine Inv.bind i hS hS' hR hturn hd hid ?_ ?_
  ·refine repB_arr (us:=olds++news) (by simp [upd]) hrow' (hall.mono (hturn.seen i.mem)) ?_ he1 (by simp; omega)
   simp only [splice,Nat.zero_add,h6]
   rw [List.take_append_of_le_length (by simp)]
   rw [List.take_of_length_le (by simp)]
  ·refine RepC.vw (e:=e) (o:=0) (by simp [upd]) (by simp [upd]) hrow' (by simp; omega) ?_ (by simp; omega)
   have hsz:(splice cc.toList (0+xs.length*e) news).toArray.size=cc.size:=by
    simp only [splice,List.size_toArray,List.length_append,List.length_take,List.length_drop,Array.length_toList,hnl]
    rw [Nat.add_mul] at hfit; omega
   rw [hsz]; omega
 ·-- a new row
  rw [run_call_append ho hc hxs hts hr]
  simp only [Result.andThen,Oper.upon,hdst]
  have hg:Grow w (w.drew.alloc (.cells (olds++news++rest).toArray el)) S S:=by
   have:=grow_alloc' w.drew S (.cells (olds++news++rest).toArray el)
   exact⟨this.size,this.old,this.sub,this.new,this.calm⟩
  have hrow:Row (w.drew.alloc (.cells (olds++news++rest).toArray el)) w.heap.size (olds++news++rest).toArray el:=alloc_new w.drew _
  rw [hlen]
  refine Inv.bind i hS hS' hR (pl:=some (w.heap.size,0)) (Turn.ofGrow hg fun b o h=>?_) hd hid ?_ ?_
  ·simp at h; obtain⟨rfl,rfl⟩:=h
   exact⟨by simp,.inl (Nat.le_refl _),fun o' hs=>by have:=(i.mem.sep _ _ hs).1; omega⟩
  ·refine repB_arr (us:=olds++news) (by simp [upd]) hrow (hall.mono (hg.seen fun b o h=>(i.mem.sep b o h).1)) ?_ he1 (by simp; omega)
   rw [List.toList_toArray,List.take_append_of_le_length (by simp),List.take_of_length_le (by simp)]
  ·exact RepC.vw (e:=e) (o:=0) (by simp [upd]) (by simp [upd]) hrow (by simp; omega) (by rw [List.size_toArray,hrl]; omega) (by simp; omega)
theorem l_append_fl (inv:Inv w0 B S0 R0 st a w){c:Call}(ho:o.op = .call c) (hc:c.callee = .builtin .append){s x:Operand}{t el:TypeId}(hxs:c.args.toList=[s,x]) (hts:c.argTypes.toList=[t,t]) (hk:(tyOf P t).k = .sl el)
  {d:Nat} (hdst:o.dst=some d) (hd:d<st.n) (hs:(ev st s).2) (hx:(ev st x).2) (hq:(srcOf st.h (ev st x).1).2) (hE:srcE st.h (tyOf P el).size (ev st x).1) (hz:zeroOk P el=true)
  {xs:List (List PV)} (hT:(ev st s).1 = .one (.fl (tyOf P el).size xs))
  (hb:(xs.length+(srcOf st.h (ev st x).1).1.length)*(tyOf P el).bytes≤roomy) (hm:xs.length+(srcOf st.h (ev st x).1).1.length≤roomy) {Q:Exit→Act→World→Prop} :
  o.wp P a w (fun a' w'=>Inv w0 B S0 R0 { st with s:=upd st.s d (.x (.one (.p (.sl (tyOf P el).size (xs++(srcOf st.h (ev st x).1).1))))) } a' w') Q:=by
 obtain⟨S,ρ,i,hS,hS',hR⟩:=inv
 have hz':=hz
 simp only [zeroOk,Bool.and_eq_true,decide_eq_true_eq] at hz'
 have he1:1≤(tyOf P el).size:=by have:=hz'.1.2; omega
 have hsrc:=src_rep i hx hq hE
 generalize (srcOf st.h (ev st x).1).1=ys at *
 generalize he:(tyOf P el).size=e at *
 obtain⟨news,hnX,hnS⟩:∃news,RepX w S e news ys∧((a.eval x = .slice none 0 0∧ys.length=0∧news=[])∨∃ad c,a.eval x = .slice (some ad) ys.length c∧news.length=ys.length*e∧∀j u,news[j]?=some u→w.cell? (ad.add j)=some u):=by
  rcases hsrc with⟨h1,rfl⟩ | ⟨ad,c,us,h1,h2,_,h3⟩
  ·exact⟨[],RepX.nil e,.inl ⟨h1,rfl,rfl⟩⟩
  ·exact⟨us,h2,.inr ⟨ad,c,h1,h2.1,h3⟩⟩
 have rs:=ev_rep i hs
 rw [hT] at rs
 have rp:RepP w S (a.eval s) (.sl e xs):=repP_sl (.inr rs)
 have hfull:∃ad,a.eval s = .slice ad xs.length xs.length:=by
  generalize a.eval s=v at *
  cases rs with
  | fl r=>
   obtain⟨ad,cap,h⟩:=repP_len r
   simp at h; obtain⟨rfl,rfl,_⟩:=h; exact⟨_,rfl⟩
 obtain⟨ad0,hfull⟩:=hfull
 have htgt:∃olds,RepX w S e olds xs∧((a.eval s = .slice none 0 0∧xs.length=0∧olds=[])∨∃g off cap,a.eval s = .slice (some ⟨g,off,none⟩) xs.length cap∧xs.length≤cap∧olds.length=xs.length*e∧∀j u,olds[j]?=some u→w.cell? ((Addr.mk g off none).add j)=some u):=by
  rcases slOf_rep i rs rfl with⟨h1,rfl⟩ | ⟨b,o',cap,h1,hl,_,hc⟩
  ·exact⟨[],RepX.nil e,.inl ⟨h1,rfl,rfl⟩⟩
  ·obtain⟨us,h2,h3⟩:=repX_of_cells he1 hl hc
   refine⟨us,h2,.inr ⟨b,o',cap,h1,?_,h2.1,h3⟩⟩
   rw [hfull] at h1; simp at h1; omega
 obtain⟨olds,hoX,htg⟩:=htgt
 have hall:=hoX.append hnX
 have hpl:=hnX.allPlain he1
 have hrun:=run_append (P:=P) (w:=w) hk hz (ty:=o.type) (tv:=a.eval s) (sv:=a.eval x) (n:=xs.length) (m:=ys.length) (olds:=olds) (news:=news) (by rw [he]; exact htg) (by rw [he]; exact hnS) hpl hb hm
 rw [he] at hrun
 have hlen:xs.length+ys.length=(xs++ys).length:=by simp
 have fin:∀ {w':World} {S':Seen} {v:Value},Grow w w' S S'→RepP w' S' v (.sl e (xs++ys))→Inv w0 B S0 R0 { st with s:=upd st.s d (.x (.one (.p (.sl e (xs++ys))))) } (a.put (some d) v) w':=by
  intro w' S' v g r
  have:=i.putQ (d:=some d) (s:=.x (.one (.p (.sl e (xs++ys))))) g hd (RepC.p r)
  exact⟨S',ρ,this,fun b o h=>g.sub b o (hS b o h),fun b o h=>by
   rcases g.new b o h with h | ⟨h,_⟩
   ·exact hS' b o h
   ·exact .inr (Nat.le_trans i.mem.size h),hR⟩
 unfold Oper.wp
 rcases hrun with⟨h0,hr⟩ | ⟨g,off,cap,htv,hroom,hr⟩ | ⟨hpos,hcapl,rest,cap,hcap,hrl,hr⟩
 ·rw [run_call_append ho hc hxs hts hr]
  simp only [Result.andThen,Oper.upon,hdst]
  have hy0:ys=[]:=List.eq_nil_of_length_eq_zero h0
  subst hy0
  rw [List.append_nil]
  have:=fin (Grow.refl w S) (v:=a.eval s) (by rw [List.append_nil]; exact rp)
  rw [List.append_nil] at this
  exact this
 ·rw [hfull] at htv
  simp at htv
  obtain⟨rfl,hcap⟩:=htv
  subst hcap
  have hy0:ys=[]:=List.eq_nil_of_length_eq_zero (by omega)
  subst hy0
  have hn0:news=[]:=List.eq_nil_of_length_eq_zero (by have:=hnX.1; simpa using this)
  subst hn0
  have hsame:(Builtin.append_ #[t,t] o.type #[a.eval s,a.eval x]).run P w = .ok (a.eval s) w:=by
   obtain⟨z,inf,d',hz1,hz2,hi,hd',e1,e2,hne,hzs,hz3⟩:=zero_run hz w
   rcases hnS with⟨h1,_,_⟩ | ⟨ad,c',h1,_,_⟩
   ·simp [Builtin.append_,run_und (und_sl hk),run_sizeOf hi,Builtin.lenOf,Builtin.firstCells,hfull,h1,storeCells]
   ·simp [Builtin.append_,run_und (und_sl hk),run_sizeOf hi,Builtin.lenOf,Builtin.firstCells,hfull,h1,storeCells,loadCells,loadCellsFrom]
  rw [run_call_append ho hc hxs hts hsame]
  simp only [Result.andThen,Oper.upon,hdst]
  have:=fin (Grow.refl w S) (v:=a.eval s) (by rw [List.append_nil]; exact rp)
  exact this
 ·rw [run_call_append ho hc hxs hts hr]
  simp only [Result.andThen,Oper.upon,hdst]
  have hg:Grow w (w.drew.alloc (.cells (olds++news++rest).toArray el)) S (seeBlock S w.heap.size):=by
   have:=grow_alloc w.drew S (.cells (olds++news++rest).toArray el)
   exact⟨this.size,this.old,this.sub,this.new,this.calm⟩
  refine fin hg ?_
  rw [hlen]
  refine (hall.mono (hg.seen fun b o h=>(i.mem.sep b o h).1)).slice he1 (by simp; omega) (by simp; omega) fun k v hv=>⟨.inr rfl,?_⟩
  have hrow:Row (w.drew.alloc (.cells (olds++news++rest).toArray el)) w.heap.size (olds++news++rest).toArray el:=alloc_new w.drew _
  rw [Nat.zero_add,cell_row hrow]
  rw [List.getElem?_toArray,List.getElem?_append_left (List.getElem?_eq_some_iff.1 hv).1]
  exact hv
theorem l_append_flv (inv:Inv w0 B S0 R0 st a w){c:Call}(ho:o.op = .call c) (hc:c.callee = .builtin .append){s x:Operand}{t el:TypeId}(hxs:c.args.toList=[s,x]) (hts:c.argTypes.toList=[t,t]) (hk:(tyOf P t).k = .sl el)
  {d:Nat} (hdst:o.dst=some d) (hd:d<st.n) (hs:(ev st s).2) (hx:(ev st x).2) (hq:(srcOf st.h (ev st x).1).2) (hE:srcE st.h (tyOf P el).size (ev st x).1) (hz:zeroOk P el=true)
  {xs:List (List PV)} (hT:(ev st s).1 = .one (.fl (tyOf P el).size xs))
  (hb:(xs.length+(srcOf st.h (ev st x).1).1.length)*(tyOf P el).bytes≤roomy) (hm:xs.length+(srcOf st.h (ev st x).1).1.length≤roomy) (hne:(srcOf st.h (ev st x).1).1≠[]) {Q:Exit→Act→World→Prop} :
  o.wp P a w (fun a' w'=>Inv w0 B S0 R0 (bindB st (d+100) (.arr (tyOf P el).size (xs++(srcOf st.h (ev st x).1).1)) d (.one (.vw (d+100)))) a' w') Q:=by
 obtain⟨S,ρ,i,hS,hS',hR⟩:=inv
 have hz':=hz
 simp only [zeroOk,Bool.and_eq_true,decide_eq_true_eq] at hz'
 have he1:1≤(tyOf P el).size:=by have:=hz'.1.2; omega
 have hsrc:=src_rep i hx hq hE
 generalize (srcOf st.h (ev st x).1).1=ys at *
 generalize he:(tyOf P el).size=e at *
 obtain⟨news,hnX,hnS⟩:∃news,RepX w S e news ys∧((a.eval x = .slice none 0 0∧ys.length=0∧news=[])∨∃ad c,a.eval x = .slice (some ad) ys.length c∧news.length=ys.length*e∧∀j u,news[j]?=some u→w.cell? (ad.add j)=some u):=by
  rcases hsrc with⟨h1,rfl⟩ | ⟨ad,c,us,h1,h2,_,h3⟩
  ·exact⟨[],RepX.nil e,.inl ⟨h1,rfl,rfl⟩⟩
  ·exact⟨us,h2,.inr ⟨ad,c,h1,h2.1,h3⟩⟩
 have rs:=ev_rep i hs
 rw [hT] at rs
 have rp:RepP w S (a.eval s) (.sl e xs):=repP_sl (.inr rs)
 have hfull:∃ad,a.eval s = .slice ad xs.length xs.length:=by
  generalize a.eval s=v at *
  cases rs with
  | fl r=>
   obtain⟨ad,cap,h⟩:=repP_len r
   simp at h; obtain⟨rfl,rfl,_⟩:=h; exact⟨_,rfl⟩
 obtain⟨ad0,hfull⟩:=hfull
 have htgt:∃olds,RepX w S e olds xs∧((a.eval s = .slice none 0 0∧xs.length=0∧olds=[])∨∃g off cap,a.eval s = .slice (some ⟨g,off,none⟩) xs.length cap∧xs.length≤cap∧olds.length=xs.length*e∧∀j u,olds[j]?=some u→w.cell? ((Addr.mk g off none).add j)=some u):=by
  rcases slOf_rep i rs rfl with⟨h1,rfl⟩ | ⟨b,o',cap,h1,hl,_,hc⟩
  ·exact⟨[],RepX.nil e,.inl ⟨h1,rfl,rfl⟩⟩
  ·obtain⟨us,h2,h3⟩:=repX_of_cells he1 hl hc
   refine⟨us,h2,.inr ⟨b,o',cap,h1,?_,h2.1,h3⟩⟩
   rw [hfull] at h1; simp at h1; omega
 obtain⟨olds,hoX,htg⟩:=htgt
 have hall:=hoX.append hnX
 have hpl:=hnX.allPlain he1
 have hrun:=run_append (P:=P) (w:=w) hk hz (ty:=o.type) (tv:=a.eval s) (sv:=a.eval x) (n:=xs.length) (m:=ys.length) (olds:=olds) (news:=news) (by rw [he]; exact htg) (by rw [he]; exact hnS) hpl hb hm
 rw [he] at hrun
 have hlen:xs.length+ys.length=(xs++ys).length:=by simp
 have hid:100≤d+100:=by omega
 unfold Oper.wp
 rcases hrun with⟨h0,hr⟩ | ⟨g,off,cap,htv,hroom,hr⟩ | ⟨hpos,hcapl,rest,cap,hcap,hrl,hr⟩
 ·exact absurd (List.eq_nil_of_length_eq_zero h0) hne
 ·rw [hfull] at htv
  simp at htv
  obtain⟨rfl,hcap⟩:=htv
  subst hcap
  exact absurd (List.eq_nil_of_length_eq_zero (by omega)) hne
 ·rw [run_call_append ho hc hxs hts hr]
  simp only [Result.andThen,Oper.upon,hdst]
  have hg:Grow w (w.drew.alloc (.cells (olds++news++rest).toArray el)) S S:=by
   have:=grow_alloc' w.drew S (.cells (olds++news++rest).toArray el)
   exact⟨this.size,this.old,this.sub,this.new,this.calm⟩
  have hrow:Row (w.drew.alloc (.cells (olds++news++rest).toArray el)) w.heap.size (olds++news++rest).toArray el:=alloc_new w.drew _
  rw [hlen]
  refine Inv.bind i hS hS' hR (pl:=some (w.heap.size,0)) (Turn.ofGrow hg fun b o h=>?_) hd hid ?_ ?_
  ·simp at h; obtain⟨rfl,rfl⟩:=h
   exact⟨by simp,.inl (Nat.le_refl _),fun o' hs=>by have:=(i.mem.sep _ _ hs).1; omega⟩
  ·refine repB_arr (us:=olds++news) (by simp [upd]) hrow (hall.mono (hg.seen fun b o h=>(i.mem.sep b o h).1)) ?_ he1 (by simp; omega)
   rw [List.toList_toArray,List.take_append_of_le_length (by simp),List.take_of_length_le (by simp)]
  ·exact RepC.vw (e:=e) (o:=0) (by simp [upd]) (by simp [upd]) hrow (by simp; omega) (by rw [List.size_toArray,hrl]; omega) (by simp; omega)
theorem l_make (inv:Inv w0 B S0 R0 st a w){t el:TypeId}{l c:Operand}(ho:o.op = .makeSlice t l c) (hk:(tyOf P t).k = .sl el){d:Nat}(hdst:o.dst=some d) (hd:d<st.n){kl kc:IntKind}{n m:Int}
  (hL:(ev st l).1 = .one (.p (.val (.int kl n)))) (hC:(ev st c).1 = .one (.p (.val (.int kc m)))) (hl:(ev st l).2) (hc:(ev st c).2) (h0:0≤n) (hnm:n≤m) (hb:m*(tyOf P el).bytes≤roomy) (hm:m≤roomy) (hz:zeroOk P el=true) {Q:Exit→Act→World→Prop} :
  o.wp P a w (fun a' w'=>Inv w0 B S0 R0 (bindB st (d+100) (.arr (tyOf P el).size (List.replicate n.toNat (fixN (tyOf P el).ce ((tyOf P el).zero.map toP)))) d (.one (.vw (d+100)))) a' w') Q:=by
 obtain⟨S,ρ,i,hS,hS',hR⟩:=inv
 have rl:=ev_rep i hl
 have rc:=ev_rep i hc
 rw [hL] at rl
 rw [hC] at rc
 have el1:=repL_val rl
 have ec1:=repL_val rc
 obtain⟨z,inf,dd,hz1,hz2,hi,hdd,e1,e2,hne,hzs,hz3⟩:=zero_run hz w
 have hz4:∀v∈z.cells.toList,plain v=true:=by rw [hz2]; exact hz3
 have hX:=zeroXf (w:=w) (S:=S) (tyOf P el).ce z.cells inf.size n.toNat hzs hne hz4
 unfold roomy at hb hm
 rw [e2] at hb
 have hwn:IntKind.i64.wrap n=n:=by
  have h1:(2:Int) ^ 64=18446744073709551616:=by decide
  have h2:(2:Int) ^ 63=9223372036854775808:=by decide
  simp only [IntKind.wrap,IntKind.bits,IntKind.signed,h1,h2,Bool.true_and,decide_eq_true_eq]
  rw [Int.emod_eq_of_lt h0 (by omega),if_neg (by simp [h2]; omega)]
 have hwm:IntKind.i64.wrap m=m:=by
  have h1:(2:Int) ^ 64=18446744073709551616:=by decide
  have h2:(2:Int) ^ 63=9223372036854775808:=by decide
  simp only [IntKind.wrap,IntKind.bits,IntKind.signed,h1,h2,Bool.true_and,decide_eq_true_eq]
  rw [Int.emod_eq_of_lt (by omega) (by omega),if_neg (by simp [h2]; omega)]
 have hrow:∃us:Array Value,us=(Array.range (m.toNat*inf.size)).map (fun k=>z.cells[k % z.cells.size]!):=⟨_,rfl⟩
 obtain⟨us,hus⟩:=hrow
 have hrun:(execOp a.eval o).run P w = .ok (.value (.slice (some ⟨w.heap.size,0,none⟩) n.toNat m.toNat)) (w.alloc (.cells us el)):=by
  have hti:(typeInfo el).run P w = .ok inf w:=by simp [typeInfo,program,Sem.run,hi]
  have hbm:¬ ((inf.bytes:Int)*m > 2 ^ 48):=by
   have h1:(2:Int) ^ 48=281474976710656:=by decide
   rw [h1,Int.mul_comm]; omega
  have hm0:¬ m<0:=by omega
  have hn0:¬ n<0:=by omega
  have hnm':¬ n > m:=by omega
  have hroom:(askRoom (m.toNat*inf.bytes)).run P w = .ok () w:=by
   unfold askRoom; split <;> rfl
  by_cases hc0:m.toNat*inf.size=0
  ·have hus0:us = #[]:=by rw [hus,hc0]; simp
   have hr0:∀f:Nat→Value,(Array.range 0).map f = #[]:=fun f=>by simp
   simp [execOp,ho,el1,ec1,Instr.makeSlice,run_und (und_sl hk),asInt,asIntOf,hti,hwn,hwm,hm0,hn0,hbm,hnm',hroom,run_sizeOf hi,hc0,newRow,newObj,Sem.run,hus0,hr0]
   intro hx; exact absurd hx (by rw [Int.mul_comm]; omega)
  ·simp [execOp,ho,el1,ec1,Instr.makeSlice,run_und (und_sl hk),asInt,asIntOf,hti,hwn,hwm,hm0,hn0,hbm,hnm',hroom,run_sizeOf hi,hc0,newRow,newObj,Sem.run,hus,hz1]
   intro hx; exact absurd hx (by rw [Int.mul_comm]; omega)
 unfold Oper.wp
 rw [hrun]
 simp only [Oper.upon,hdst]
 have hrow:Row (w.alloc (.cells us el)) w.heap.size us el:=alloc_new w _
 have hle:n.toNat≤m.toNat:=by omega
 have hle2:n.toNat*inf.size≤m.toNat*inf.size:=Nat.mul_le_mul_right _ hle
 have hrl:(List.replicate n.toNat (fixN (tyOf P el).ce ((tyOf P el).zero.map toP))).length=n.toNat:=by simp
 rw [hz2] at hX
 rw [e1]
 refine Inv.bind i hS hS' hR (turn_alloc i.mem _ _) hd (by omega) ?_ ?_
 ·refine repB_arr (by simp [upd]) hrow (hX.mono ((grow_alloc' w S (.cells us el)).seen fun b o h=>(i.mem.sep b o h).1)) ?_ (by omega) (by unfold roomy; simp; omega)
  subst hus
  refine List.ext_getElem? fun k=>?_
  simp only [Array.toList_map,Array.toList_range,List.length_map,List.length_range]
  rw [List.getElem?_take]
  split
  ·rename_i hkk
   simp [hkk,show k<m.toNat*inf.size by omega]
  ·rename_i hkk
   simp [hkk]
 ·have:=RepC.vw (S:=S) (ρ:=upd ρ (d+100) (some (w.heap.size,0))) (h:=upd (killH (d+100) st.h) (d+100) (some (.arr inf.size (List.replicate n.toNat (fixN (tyOf P el).ce ((tyOf P el).zero.map toP)))))) (o:=0) (b:=w.heap.size) (e:=inf.size) (xs:=List.replicate n.toNat (fixN (tyOf P el).ce ((tyOf P el).zero.map toP))) (id:=d+100) (cap:=m.toNat) (by simp [upd]) (by simp [upd]) hrow (by rw [hrl]; exact hle) (by subst hus; simp) (by rw [hrl]; unfold roomy; omega)
  rw [hrl] at this
  exact this
theorem l_build (inv:Inv w0 B S0 R0 st a w){t el:TypeId}{len:Nat}{parts:Array (Nat×Operand)}(ho:o.op = .buildSlice t len parts) (hk:(tyOf P t).k = .sl el){d:Nat}(hdst:o.dst=some d) (hd:d<st.n)
  (hq:(evBuildS (tyOf P el).size (tyOf P el).ce (evParts st parts) (List.replicate len (fixN (tyOf P el).ce ((tyOf P el).zero.map toP)))).2) (hz:zeroOk P el=true) (hb:len*(tyOf P el).size≤16777216) {Q:Exit→Act→World→Prop} :
  o.wp P a w (fun a' w'=>Inv w0 B S0 R0 (bindB st (d+100) (.arr (tyOf P el).size (evBuildS (tyOf P el).size (tyOf P el).ce (evParts st parts) (List.replicate len (fixN (tyOf P el).ce ((tyOf P el).zero.map toP)))).1) d (.one (.vw (d+100)))) a' w') Q:=by
 obtain⟨S,ρ,i,hS,hS',hR⟩:=inv
 obtain⟨z,inf,dd,hz1,hz2,hi,hdd,e1,e2,hne,hzs,hz3⟩:=zero_run hz w
 have hz4:∀v∈z.cells.toList,plain v=true:=by rw [hz2]; exact hz3
 have hX:=zeroXf (w:=w) (S:=S) (tyOf P el).ce z.cells inf.size len hzs hne hz4
 rw [hz2,← e1] at hX
 obtain⟨us,h1,h2⟩:=fillS_rep (e:=(tyOf P el).size) (tyOf P el).ce parts.toList ((Array.range (len*(tyOf P el).size)).map (fun i=>z.cells[i % z.cells.size]!)) _ i hX hq
 rw [show (List.map (fun x=>match x with | (i,x)=>(i,(ev st x).1,(ev st x).2)) parts.toList)=evParts st parts from rfl] at h2
 have hlen:∀ (l:List (Nat×Operand)) (xs:List (List PV)),(evBuildS (tyOf P el).size (tyOf P el).ce (l.map fun (i,x)=>(i,(ev st x).1,(ev st x).2)) xs).1.length=xs.length:=by
  intro l
  induction l with
  | nil=>intro xs; rfl
  | cons p l ih=>intro xs; simp only [List.map_cons,evBuildS]; rw [ih]; simp
 have hRl:(evBuildS (tyOf P el).size (tyOf P el).ce (evParts st parts) (List.replicate len (fixN (tyOf P el).ce ((tyOf P el).zero.map toP)))).1.length=len:=by
  have:=hlen parts.toList (List.replicate len (fixN (tyOf P el).ce ((tyOf P el).zero.map toP))); simpa [evParts] using this
 generalize (evBuildS (tyOf P el).size (tyOf P el).ce (evParts st parts) (List.replicate len (fixN (tyOf P el).ce ((tyOf P el).zero.map toP))))=R at *
 have h3:(parts.map fun (p:Nat×Operand)=>(p.1,a.eval p.2)).toList=parts.toList.map fun (i,x)=>(i,a.eval x):=by simp
 have he1:1≤(tyOf P el).size:=by omega
 have hlen2:len≤16777216:=by
  have:len*1≤len*(tyOf P el).size:=Nat.mul_le_mul_left len he1
  omega
 have hsz:us.size=len*(tyOf P el).size:=by
  have:=h2.1
  rw [hRl] at this
  simpa using this
 have hrun:(execOp a.eval o).run P w = .ok (.value (.slice (some ⟨w.heap.size,0,none⟩) len len)) (w.alloc (.cells us el)):=by
  rw [e1] at h1
  have hbig:¬ len*inf.size > 2 ^ 24:=by rw [e1] at hb; simpa using hb
  by_cases h0:len*inf.size=0
  ·have hr:∀f:Nat→Value,(Array.range (len*inf.size)).map f = #[]:=fun f=>by rw [h0]; simp
   simp only [hr] at h1
   simp only [execOp,ho,Sem.run_bind,Instr.buildSlice,run_und (und_sl hk),Result.andThen,run_sizeOf hi,hbig,if_false,h0,if_true,Sem.run_pure,h3,newRow,newObj]
   rw [if_neg (by decide)]
   simp only [Sem.run_bind,Sem.run_pure,Result.andThen]
   have hr0:∀f:Nat→Value,(Array.range 0).map f = #[]:=fun f=>by simp
   rw [hr0,h1]
   simp [Sem.run]
  ·simp only [execOp,ho,Sem.run_bind,Instr.buildSlice,run_und (und_sl hk),Result.andThen,run_sizeOf hi,hbig,if_false,h0,Sem.run_pure,h3,newRow,newObj,hz1]
   rw [h1]
   simp [Sem.run]
 unfold Oper.wp
 rw [hrun]
 simp only [Oper.upon,hdst]
 have hrow:Row (w.alloc (.cells us el)) w.heap.size us el:=alloc_new w _
 refine Inv.bind i hS hS' hR (turn_alloc i.mem _ _) hd (by omega) ?_ ?_
 ·exact repB_arr (us:=us.toList) (by simp [upd]) hrow (h2.mono ((grow_alloc' w S (.cells us el)).seen fun b o h=>(i.mem.sep b o h).1)) (by rw [List.take_of_length_le (Nat.le_refl _)]) he1 (by unfold roomy; omega)
 ·have:=RepC.vw (S:=S) (ρ:=upd ρ (d+100) (some (w.heap.size,0))) (h:=upd (killH (d+100) st.h) (d+100) (some (.arr (tyOf P el).size R.1))) (o:=0) (b:=w.heap.size) (e:=(tyOf P el).size) (xs:=R.1) (id:=d+100) (cap:=len) (by simp [upd]) (by simp [upd]) hrow (by omega) (by omega) (by unfold roomy; omega)
  rw [hRl] at this
  exact this
end
end Go.LS
