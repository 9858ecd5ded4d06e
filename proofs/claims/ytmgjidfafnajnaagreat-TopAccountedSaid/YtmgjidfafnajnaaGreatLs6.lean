/-
  The framework LS, part 6: quiet operations, continued: addresses, fields, len, conversions.
  No condition: lemmas.
-/
import Derived.Test.YtmgjidfafnajnaaGreatLs5
import Derived.Laws.BytesString
namespace Go.LS
set_option linter.all false
set_option linter.unusedSimpArgs false
set_option linter.unusedVariables false
section
variable {P:Program} {o:Oper} {a:Act} {w w0:World} {B:List Nat} {S:Seen} {ρ:Place} {st:LState}
theorem field_at {P:Program}{F:Array Field}{f:Nat}{fs:List (Nat×TypeId)}(hfs:fs=F.toList.map fun f=>(f.offset,f.type)) (hf:f<fs.length) :
  ∃fd,F[f]?=some fd∧fs.getD f (0,0)=(fd.offset,fd.type):=by
 subst hfs
 have hf':f<F.size:=by simpa using hf
 exact⟨F[f],by simp [hf'],by simp [List.getD,hf']⟩
theorem run_fieldPlace {P:Program}{fd:Field}{i:TypeInfo}(hi:P.info? fd.type=some i) (hz:i.size≠0) (b off:Nat) (w:World) :
  (fieldPlace ⟨b,off,none⟩ fd).run P w = .ok ⟨b,off+fd.offset,none⟩ w:=by
 simp [fieldPlace,run_sizeOf hi,hz,add_mk]
theorem y_fieldAddr (i:InvAt w0 B S ρ st a w){t:TypeId}{x:Operand}{f:Nat}(ho:o.op = .fieldAddr t x f){fs:List (Nat×TypeId)}(hk:(tyOf P t).k = .st fs) (hx:(ev st x).2)
  (hf:f<fs.length) (hz:(tyOf P (fs.getD f (0,0)).2).size≠0) {X:CV} (hX:(ev st x).1 = .one X) {Y:CV}
  (hY:(∃id off,X = .ptr id off∧Y = .ptr id (off+(fs.getD f (0,0)).1))∨(∃id k j,X = .ap id k j∧Y = .ap id k (j+(fs.getD f (0,0)).1))∨(∃cs,X = .ep cs∧Y = .ep (cs.drop (fs.getD f (0,0)).1))) :
  Yields P o a w S ρ st.h (.x (.one Y)):=by
 have rx:=ev_rep i hx
 rw [hX] at rx
 obtain⟨F,hu,hfs⟩:=und_st hk
 obtain⟨fd,hfd,hgd⟩:=field_at (P:=P) hfs hf
 rw [hgd] at hz hY
 obtain⟨inf,d,hi,hd,e1,e2,e3⟩:=zM1 hz
 have hz':inf.size≠0:=by rw [← e1]; exact hz
 rcases hY with⟨id,off,rfl,rfl⟩ | ⟨id,k,j,rfl,rfl⟩ | ⟨cs,rfl,rfl⟩
 ·obtain⟨b,o',hp,hv⟩:=repC_ptr rx
  refine zI9 (v:=.pointer (some ⟨b,o'+off+fd.offset,none⟩)) ?_ ?_
  ·simp [execOp,ho,Instr.fieldAt,run_und hu,hfd,hv,Instr.sureAddr,run_fieldPlace hi hz']
  ·show RepC w S ρ st.h _ _
   rw [Nat.add_assoc]; exact .ptr hp
 ·obtain⟨b,o',e,xs,hb,hp,hv⟩:=repC_ap rx
  refine zI9 (v:=.pointer (some ⟨b,o'+(k*e+j)+fd.offset,none⟩)) ?_ ?_
  ·simp [execOp,ho,Instr.fieldAt,run_und hu,hfd,hv,Instr.sureAddr,run_fieldPlace hi hz']
  ·show RepC w S ρ st.h _ _
   rw [Nat.add_assoc,Nat.add_assoc]; exact .ap hb hp
 ·obtain⟨b,o',hv,hs⟩:=repC_ep rx
  refine zI9 (v:=.pointer (some ⟨b,o'+fd.offset,none⟩)) ?_ ?_
  ·simp [execOp,ho,Instr.fieldAt,run_und hu,hfd,hv,Instr.sureAddr,run_fieldPlace hi hz']
  ·refine RepC.ep fun j hj=>?_
   simp at hj
   obtain⟨u,h1,h2,h3⟩:=hs (fd.offset+j) (by omega)
   refine⟨u,by rw [Nat.add_assoc]; exact h1,by rw [Nat.add_assoc]; exact h2,?_⟩
   simpa using h3
theorem y_field (i:InvAt w0 B S ρ st a w){t:TypeId}{x:Operand}{f:Nat}(ho:o.op = .field t x f){fs:List (Nat×TypeId)}(hk:(tyOf P t).k = .st fs){cs:List CV}{g:Prop}(hx:ev st x=(.agg cs,g)) (hg:g)
  (hf:f<fs.length) (hz:(tyOf P (fs.getD f (0,0)).2).size≠0) (h1:(tyOf P (fs.getD f (0,0)).2).agg=true∨(tyOf P (fs.getD f (0,0)).2).size=1)
  (hl:(fs.getD f (0,0)).1+(tyOf P (fs.getD f (0,0)).2).size≤cs.length) :
  Yields P o a w S ρ st.h (.x (if (tyOf P (fs.getD f (0,0)).2).agg then .agg ((cs.drop (fs.getD f (0,0)).1).take (tyOf P (fs.getD f (0,0)).2).size) else .one (cs.getD (fs.getD f (0,0)).1 .dead))):=by
 have rx:=ev_rep i (x:=x) (by rw [hx]; exact hg)
 rw [hx] at rx
 obtain⟨us,hu',r⟩:=rx
 obtain⟨F,hu,hfs⟩:=und_st hk
 obtain⟨fd,hfd,hgd⟩:=field_at (P:=P) hfs hf
 rw [hgd] at hz hl h1 ⊢
 simp only at hz hl h1 ⊢
 obtain⟨inf,d,hi,hd,e1,e2,e3⟩:=zM1 hz
 rw [e1] at hl
 rw [e3,e1] at h1 ⊢
 obtain⟨v,hv,hr⟩:=part_rep (P:=P) (ft:=fd.type) (off:=fd.offset) r hi hd (by
  by_cases ha:isAggT d=true
  ·rw [if_pos ha]; exact hl
  ·rw [if_neg ha]; have:=h1.resolve_left ha; omega)
 refine zI9 (v:=v) ?_ hr
 simp [execOp,ho,hu',Instr.field,run_und hu,hfd,asAgg,hv]
theorem repP_sl {h:Heap}{v:Value}{e:Nat}{xs:List (List PV)}(r:RepL w S ρ h v (.one (.p (.sl e xs)))∨RepL w S ρ h v (.one (.fl e xs))):RepP w S v (.sl e xs):=by
 rcases r with r | r
 ·cases r with | p r=>exact r
 ·cases r with | fl r=>exact r
theorem run_indexAt_sl {t el:TypeId}(hk:(tyOf P t).k = .sl el){k:IntKind}{n:Int}{b off len cap:Nat}{inf:TypeInfo}(hi:P.info? el=some inf) (h0:0≤n) (hn:n<len) :
  (Instr.indexAt t (.slice (some ⟨b,off,none⟩) len cap) (.int k n)).run P w = .ok (.pointer (some ⟨b,off+n.toNat*inf.size,none⟩)) w:=by
 simp [Instr.indexAt,asIntOf,run_und (und_sl hk),h0,hn,run_sizeOf hi,add_mk]
theorem y_indexAddr_sl (i:InvAt w0 B S ρ st a w){t el:TypeId}{x y:Operand}(ho:o.op = .indexAddr t x y) (hk:(tyOf P t).k = .sl el) (hx:(ev st x).2){k:IntKind}{n:Int}{g':Prop}(hy:ev st y=(.one (.p (.val (.int k n))),g')) (hg':g')
  {e:Nat} {xs:List (List PV)} (hX:(ev st x).1 = .one (.p (.sl e xs))∨(ev st x).1 = .one (.fl e xs)) (h0:0≤n) (hn:n<xs.length) (he:e=(tyOf P el).size)
  {z:List PV}:Yields P o a w S ρ st.h (.x (.one (.ep (epAt z xs n.toNat)))):=by
 have rx:=ev_rep i hx
 have ry:=repL_val (by have:=ev_rep i (x:=y) (by rw [hy]; exact hg'); rw [hy] at this; exact this)
 have rp:RepP w S (a.eval x) (.sl e xs):=by
  rcases hX with hX | hX <;> rw [hX] at rx
  ·exact repP_sl (.inl rx)
  ·exact repP_sl (.inr rx)
 obtain⟨v,hv⟩:∃v,a.eval x=v:=⟨_,rfl⟩
 rw [hv] at rp
 cases rp with
 | slnil=>simp at hn; omega
 | sl b o2 m cap e f xs hm hcap he1 hm2 hl hc hr=>
  have hz:(tyOf P el).size≠0:=by omega
  obtain⟨inf,d,hi,hd,e1,e2,e3⟩:=zM1 hz
  have hlt:n.toNat<xs.length:=by omega
  refine zI9 (v:=.pointer (some ⟨b,o2+n.toNat*inf.size,none⟩)) ?_ ?_
  ·simp only [execOp,ho,hv,ry,Sem.run_bind]
   rw [run_indexAt_sl hk hi h0 (by omega)]; rfl
  ·refine RepC.ep fun j hj=>?_
   have hxk:xs[n.toNat].length=e:=hl _ (List.getElem_mem hlt)
   have hgd:epAt z xs n.toNat=xs[n.toNat]:=by simp [epAt,List.getD,hlt]
   rw [hgd] at hj
   have hj':j<e:=by omega
   obtain⟨h1,h2⟩:=hc n.toNat j (by omega) hj'
   rw [← e1,← he,Nat.add_assoc]
   refine⟨_,h1,h2,?_⟩
   have:=hr n.toNat j hlt hj
   have h9:∀ (l:List PV) (h:l=xs[n.toNat]) (hj':j<l.length),RepP w S (f n.toNat j) l[j]:=by intro l h hj'; subst h; exact this
   exact h9 _ hgd _
theorem y_indexAddr_vw (i:InvAt w0 B S ρ st a w){t el:TypeId}{x y:Operand}(ho:o.op = .indexAddr t x y) (hk:(tyOf P t).k = .sl el) (hx:(ev st x).2){k:IntKind}{n:Int}{g':Prop}(hy:ev st y=(.one (.p (.val (.int k n))),g')) (hg':g')
  {id e:Nat} {xs:List (List PV)} (hX:(ev st x).1 = .one (.vw id)) (hb:st.h id=some (.arr e xs)) (h0:0≤n) (hn:n<xs.length) (he:e=(tyOf P el).size) :
  Yields P o a w S ρ st.h (.x (.one (.ap id n.toNat 0))):=by
 have rx:=ev_rep i hx
 have ry:=repL_val (by have:=ev_rep i (x:=y) (by rw [hy]; exact hg'); rw [hy] at this; exact this)
 rw [hX] at rx
 obtain⟨he1,hl,hm,hor⟩:=i.mem.blocks id _ hb
 obtain⟨v,hv⟩:∃v,a.eval x=v:=⟨_,rfl⟩
 rw [hv] at rx
 have hz:(tyOf P el).size≠0:=by omega
 obtain⟨inf,d,hi,hd,e1,e2,e3⟩:=zM1 hz
 cases rx with
 | vwnil hb'=>rw [hb] at hb'; simp at hb'; obtain⟨_,rfl⟩:=hb'; simp at hn; omega
 | @vw _ e' b o2 cap xs' c el' hb' hp hrow hcap hroom hmx=>
  rw [hb] at hb'
  obtain⟨rfl,rfl⟩:e=e'∧xs=xs':=by simpa using hb'
  refine zI9 (v:=.pointer (some ⟨b,o2+n.toNat*inf.size,none⟩)) ?_ ?_
  ·simp only [execOp,ho,hv,ry,Sem.run_bind]
   rw [run_indexAt_sl hk hi h0 hn]; rfl
  ·show RepC w S ρ st.h _ _
   rw [← e1,← he]
   exact RepC.ap (j:=0) hb hp
theorem y_indexAddr_arr (i:InvAt w0 B S ρ st a w){t el:TypeId}{len:Nat}{x y:Operand}(ho:o.op = .indexAddr t x y) (hk:(tyOf P t).k = .arr len el) (hx:(ev st x).2){k:IntKind}{n:Int}{g':Prop}(hy:ev st y=(.one (.p (.val (.int k n))),g')) (hg':g')
  {id off:Nat} (hX:(ev st x).1 = .one (.ptr id off)) (h0:0≤n) (hn:n<len) (hz:(tyOf P el).size≠0) :
  Yields P o a w S ρ st.h (.x (.one (.ptr id (off+n.toNat*(tyOf P el).size)))):=by
 have rx:=ev_rep i hx
 have ry:=repL_val (by have:=ev_rep i (x:=y) (by rw [hy]; exact hg'); rw [hy] at this; exact this)
 rw [hX] at rx
 obtain⟨b,o',hp,hv⟩:=repC_ptr rx
 obtain⟨inf,d,hi,hd,e1,e2,e3⟩:=zM1 hz
 refine zI9 (v:=.pointer (some ⟨b,o'+off+n.toNat*inf.size,none⟩)) ?_ ?_
 ·simp [execOp,ho,hv,ry,Instr.indexAt,asIntOf,run_und (und_arr hk),Instr.sureAddr,h0,hn,run_sizeOf hi,add_mk]
 ·show RepC w S ρ st.h _ _
  rw [← e1,Nat.add_assoc]; exact .ptr hp
theorem repP_len {v:Value}{e:Nat}{xs:List (List PV)}(r:RepP w S v (.sl e xs)):∃a cap,v = .slice a xs.length cap:=by
 cases r with
 | slnil=>exact⟨_,_,rfl⟩
 | sl b o n cap e f xs hn=>exact⟨_,_,by rw [hn]⟩
theorem y_len_str (i:InvAt w0 B S ρ st a w){c:Call}(ho:o.op = .call c) (hc:c.callee = .builtin .len){x:Operand}{t:TypeId}(hx:c.args.toList=[x]) (ht:c.argTypes.toList=[t]) (hk:(tyOf P t).k = .str){s:ByteArray}{g:Prop}
  (hX:ev st x=(.one (.p (.val (.string s))),g)) (hg:g):Yields P o a w S ρ st.h (.x (.int .i64 s.size)):=by
 have rx:=repL_val (by have:=ev_rep i (x:=x) (by rw [hX]; exact hg); rw [hX] at this; exact this)
 have h1:c.args = #[x]:=Array.toList_inj.1 hx
 have h2:c.argTypes = #[t]:=Array.toList_inj.1 ht
 refine zI9 (v:=.int .i64 s.size) ?_ (zk1 _ rfl)
 simp [execOp,ho,resolve,hc,h1,h2,invoke,builtin,Builtin.len_,run_und (und_str hk),rx,goInt]
theorem y_len_sl (i:InvAt w0 B S ρ st a w){c:Call}(ho:o.op = .call c) (hc:c.callee = .builtin .len){x:Operand}{t el:TypeId}(hx:c.args.toList=[x]) (ht:c.argTypes.toList=[t]) (hk:(tyOf P t).k = .sl el){X:CV}{g:Prop}
  (hX:ev st x=(.one X,g)) (hg:g) {n:Nat} (hn:(X = .p .nil∧n=0)∨(∃e xs,(X = .p (.sl e xs)∨X = .fl e xs)∧n=xs.length)∨(∃id e xs,X = .vw id∧st.h id=some (.arr e xs)∧n=xs.length)) :
  Yields P o a w S ρ st.h (.x (.int .i64 n)):=by
 have rx:=ev_rep i (x:=x) (by rw [hX]; exact hg)
 rw [hX] at rx
 have h1:c.args = #[x]:=Array.toList_inj.1 hx
 have h2:c.argTypes = #[t]:=Array.toList_inj.1 ht
 have key:∃ad cap,a.eval x = .slice ad n cap:=by
  obtain⟨v,hv⟩:∃v,a.eval x=v:=⟨_,rfl⟩
  rw [hv] at rx ⊢
  rcases hn with⟨rfl,rfl⟩ | ⟨e,xs,hX',rfl⟩ | ⟨id,e,xs,rfl,hb,rfl⟩
  ·cases rx with | p r=>cases r; exact⟨_,_,rfl⟩
  ·rcases hX' with rfl | rfl
   ·exact repP_len (repP_sl (.inl rx))
   ·exact repP_len (repP_sl (.inr rx))
  ·cases rx with
   | vwnil hb'=>rw [hb] at hb'; simp at hb'; obtain⟨_,rfl⟩:=hb'; exact⟨_,_,rfl⟩
   | vw hb'=>rw [hb] at hb'; simp at hb'; obtain⟨_,rfl⟩:=hb'; exact⟨_,_,rfl⟩
 obtain⟨ad,cap,hv⟩:=key
 refine zI9 (v:=.int .i64 n) ?_ (zk1 _ rfl)
 simp [execOp,ho,resolve,hc,h1,h2,invoke,builtin,Builtin.len_,run_und (und_sl hk),hv,goInt]
theorem y_len_arr {c:Call}(ho:o.op = .call c) (hc:c.callee = .builtin .len){x:Operand}{t el:TypeId}{n:Nat}(hx:c.args.toList=[x]) (ht:c.argTypes.toList=[t]) (hk:(tyOf P t).k = .arr n el) :
  Yields P o a w S ρ st.h (.x (.int .i64 n)):=by
 have h1:c.args = #[x]:=Array.toList_inj.1 hx
 have h2:c.argTypes = #[t]:=Array.toList_inj.1 ht
 refine zI9 (v:=.int .i64 n) ?_ (zk1 _ rfl)
 simp [execOp,ho,resolve,hc,h1,h2,invoke,builtin,Builtin.len_,run_und (und_arr hk),goInt]
theorem y_max (i:InvAt w0 B S ρ st a w){c:Call}(ho:o.op = .call c){mx:Bool}(hc:c.callee = .builtin (if mx then .max else .min)) (hq:(evMax mx (c.args.toList.map (ev st))).2) :
  Yields P o a w S ρ st.h (.x (evMax mx (c.args.toList.map (ev st))).1):=by
 generalize hl:c.args.toList=l at *
 match l,hl,hq with
 | [x,y],hl,hq=>
  simp only [List.map] at hq ⊢
  unfold evMax at hq ⊢
  split at hq
  ·rename_i k n q k' m q' heq
   simp only [List.cons.injEq,and_true] at heq
   obtain⟨hx,hy⟩:=heq
   have rx:=repL_val (by have:=ev_rep i (x:=x) (by rw [hx]; exact hq.1); rw [hx] at this; exact this)
   have ry:=repL_val (by have:=ev_rep i (x:=y) (by rw [hy]; exact hq.2); rw [hy] at this; exact this)
   have h1:c.args = #[x,y]:=Array.toList_inj.1 hl
   refine zI9 (v:=_) ?_ (zk1 _ rfl)
   cases mx
   ·simp [execOp,ho,resolve,hc,h1,invoke,builtin,rx,ry,run_min_int2,imax,imin]
   ·simp [execOp,ho,resolve,hc,h1,invoke,builtin,rx,ry,run_max_int2,imax,imin]
  ·exact hq.elim
 | [],_,hq=>exact hq.elim
 | [_],hl,hq=>
  simp only [List.map] at hq
  unfold evMax at hq
  split at hq
  ·rename_i heq; simp at heq
  ·exact hq.elim
 | _ :: _ :: _ :: _,hl,hq=>
  simp only [List.map] at hq
  unfold evMax at hq
  split at hq
  ·rename_i heq; simp at heq
  ·exact hq.elim
end
end Go.LS
