/-
  The framework LS, part 11: make and append.
  No condition: lemmas.
-/
import Derived.Test.YtmgjidfafnajnaaGreatLs10
import Derived.Laws.MakeOwn
namespace Go.LS
set_option linter.all false
set_option linter.unusedSimpArgs false
set_option linter.unusedVariables false
section
variable {P:Program} {o:Oper} {a:Act} {w w' w0:World} {B:List Nat} {S S' S0:Seen} {ρ:Place} {R0:Home} {st:LState} {h:Heap}
theorem RepP.plain {v:Value}{x:PV}(r:RepP w S v x):LS.plain v=true:=by
 cases r with
 | val _ hv=>exact hv
 | nil=>rfl
 | slnil=>rfl
 | sl=>rfl
theorem RepX.append {e:Nat}{us vs:List Value}{xs ys:List (List PV)}(r:RepX w S e us xs) (r':RepX w S e vs ys):RepX w S e (us++vs) (xs++ys):=by
 refine⟨by simp [r.1,r'.1,Nat.add_mul],fun x hx=>?_,fun i j hi hj=>?_⟩
 ·rcases List.mem_append.1 hx with hx | hx
  ·exact r.2.1 x hx
  ·exact r'.2.1 x hx
 ·by_cases h1:i<xs.length
  ·have e1:(xs++ys)[i]=xs[i]:=List.getElem_append_left h1
   have hj':j<xs[i].length:=by rw [e1] at hj; exact hj
   obtain⟨v,hv,hr⟩:=r.2.2 i j h1 hj'
   have hje:j<e:=by rw [r.2.1 _ (List.getElem_mem h1)] at hj'; exact hj'
   refine⟨v,by rw [List.getElem?_append_left (by rw [r.1]; exact idx_lt h1 hje)]; exact hv,?_⟩
   have h9:∀ (l:List PV) (h:l=xs[i]) (hj':j<l.length),RepP w S v l[j]:=by intro l h hj'; subst h; exact hr
   exact h9 _ e1 _
  ·have hi2:i - xs.length<ys.length:=by simp at hi; omega
   have e1:(xs++ys)[i]=ys[i - xs.length]:=List.getElem_append_right (by omega)
   have hj':j<ys[i - xs.length].length:=by rw [e1] at hj; exact hj
   obtain⟨v,hv,hr⟩:=r'.2.2 (i - xs.length) j hi2 hj'
   refine⟨v,?_,?_⟩
   ·have e2:i*e+j=us.length+((i - xs.length)*e+j):=by
     rw [r.1,← Nat.add_assoc,← Nat.add_mul]; congr 2; omega
    rw [e2,List.getElem?_append_right (by omega),Nat.add_sub_cancel_left]; exact hv
   ·have h9:∀ (l:List PV) (h:l=ys[i - xs.length]) (hj':j<l.length),RepP w S v l[j]:=by intro l h hj'; subst h; exact hr
    exact h9 _ e1 _
theorem RepX.nil (e:Nat):RepX w S e [] []:=⟨by simp,by simp,fun i j hi=>absurd hi (by simp)⟩
theorem RepX.allPlain {e:Nat}{us:List Value}{xs:List (List PV)}(r:RepX w S e us xs) (he:1≤e):∀u∈us,plain u=true:=by
 intro u hu
 obtain⟨k,hk,rfl⟩:=List.getElem_of_mem hu
 have hke:k / e<xs.length:=by rw [r.1] at hk; exact Nat.div_lt_of_lt_mul (by rw [Nat.mul_comm]; exact hk)
 have hm:k % e<e:=Nat.mod_lt _ he
 obtain⟨v,hv,hr⟩:=r.2.2 (k / e) (k % e) hke (by rw [r.2.1 _ (List.getElem_mem hke)]; exact hm)
 have:k / e*e+k % e=k:=by rw [Nat.mul_comm]; exact Nat.div_add_mod k e
 rw [this,List.getElem?_eq_getElem hk] at hv
 obtain rfl:=Option.some.inj hv
 exact hr.plain
theorem repX_of_cells {e b o':Nat}{xs:List (List PV)}(he:1≤e) (hl:∀x∈xs,x.length=e)
  (hc:∀k j (hk:k<xs.length) (hj:j<xs[k].length),∃u,w.cell? ⟨b,o'+(k*e+j),none⟩=some u∧RepP w S u xs[k][j]) :
  ∃us:List Value,RepX w S e us xs∧∀j u,us[j]?=some u→w.cell? ((Addr.mk b o' none).add j)=some u:=by
 have hk:∀n,n<xs.length*e→∃u,w.cell? ⟨b,o'+n,none⟩=some u:=fun n hn=>by
  have h1:n / e<xs.length:=Nat.div_lt_of_lt_mul (by rw [Nat.mul_comm]; exact hn)
  have h2:n % e<e:=Nat.mod_lt _ he
  obtain⟨u,hu,_⟩:=hc (n / e) (n % e) h1 (by rw [hl _ (List.getElem_mem h1)]; exact h2)
  have:n / e*e+n % e=n:=by rw [Nat.mul_comm]; exact Nat.div_add_mod n e
  rw [this] at hu
  exact⟨u,hu⟩
 refine⟨(List.range (xs.length*e)).map fun n=>(w.cell? ⟨b,o'+n,none⟩).getD undef,⟨by simp,hl,fun i j hi hj=>?_⟩,fun j u hj=>?_⟩
 ·have hje:j<e:=by rw [hl _ (List.getElem_mem hi)] at hj; exact hj
  obtain⟨u,hu,hr⟩:=hc i j hi hj
  exact⟨u,by simp [idx_lt hi hje,hu],hr⟩
 ·rw [add_mk]
  simp only [List.getElem?_map,Option.map_eq_some_iff] at hj
  obtain⟨n,hn,rfl⟩:=hj
  obtain⟨h1,h2⟩:=List.getElem?_eq_some_iff.1 hn
  simp at h1 h2; subst h2
  obtain⟨u,hu⟩:=hk j h1
  simp [hu]
theorem src_rep (i:InvAt w0 B S ρ st a w){x:Operand}(hx:(ev st x).2) (hq:(srcOf st.h (ev st x).1).2){e:Nat}(hE:srcE st.h e (ev st x).1) :
  (a.eval x = .slice none 0 0∧(srcOf st.h (ev st x).1).1=[]) ∨
  ∃ad c us,a.eval x = .slice (some ad) (srcOf st.h (ev st x).1).1.length c∧RepX w S e us (srcOf st.h (ev st x).1).1∧1≤e∧∀j u,us[j]?=some u→w.cell? (ad.add j)=some u:=by
 have rx:=ev_rep i hx
 generalize a.eval x=v at *
 generalize (ev st x).1=X at *
 have key:∀ (c:CV) (ys:List (List PV)),RepC w S ρ st.h v c→slOf st.h c=some (e,ys) →
   (v = .slice none 0 0∧ys=[])∨∃ad c us,v = .slice (some ad) ys.length c∧RepX w S e us ys∧1≤e∧∀j u,us[j]?=some u→w.cell? (ad.add j)=some u:=by
  intro c ys r hs
  rcases slOf_rep i r hs with h | ⟨b,o',cap,rfl,hl,he,hc⟩
  ·exact .inl h
  ·obtain⟨us,h1,h2⟩:=repX_of_cells he hl hc
   exact .inr ⟨_,_,us,rfl,h1,he,h2⟩
 cases X with
 | agg cs=>exact hq.elim
 | one c=>
  cases c with
  | p X=>
   cases X with
   | nil=>exact .inl ⟨by cases rx with | p r=>cases r; rfl,rfl⟩
   | sl e' xs=>obtain rfl:e'=e:=hE; exact key _ _ rx rfl
   | val u=>exact hq.elim
  | fl e' xs=>obtain rfl:e'=e:=hE; exact key _ _ rx rfl
  | vw id=>
   simp only [srcOf,srcE] at hq hE ⊢
   split at hq
   ·rename_i e' xs hb
    simp only [hb] at hE ⊢
    subst hE
    exact key _ _ rx (by simp [slOf,hb])
   ·exact hq.elim
  | _=>exact hq.elim
theorem zeroCells_size (z:Array Value) (n:Nat):(Builtin.zeroCells z n).size=n*z.size:=by simp [Builtin.zeroCells]
theorem run_append {t el:TypeId}(hk:(tyOf P t).k = .sl el) (hz:zeroOk P el=true){ty:TypeId}{tv sv:Value}{n m:Nat}{olds news:List Value}
  (hT:(tv = .slice none 0 0∧n=0∧olds=[])∨∃g off cap,tv = .slice (some ⟨g,off,none⟩) n cap∧n≤cap∧olds.length=n*(tyOf P el).size∧∀j u,olds[j]?=some u→w.cell? ((Addr.mk g off none).add j)=some u)
  (hSrc:(sv = .slice none 0 0∧m=0∧news=[])∨∃ad c,sv = .slice (some ad) m c∧news.length=m*(tyOf P el).size∧∀j u,news[j]?=some u→w.cell? (ad.add j)=some u)
  (hp:∀u∈news,plain u=true) (hb:(n+m)*(tyOf P el).bytes≤roomy) (hm:n+m≤roomy) :
  (m=0∧(Builtin.append_ #[t,t] ty #[tv,sv]).run P w = .ok tv w) ∨
  (∃g off cap,tv = .slice (some ⟨g,off,none⟩) n cap∧n+m≤cap∧(∀c elb,Row w g c elb→off+(n+m)*(tyOf P el).size≤c.size →
   (Builtin.append_ #[t,t] ty #[tv,sv]).run P w = .ok (.slice (some ⟨g,off,none⟩) (n+m) cap) (w.setRow g (splice c.toList (off+n*(tyOf P el).size) news).toArray))) ∨
  (0<m∧(∀g off cap,tv = .slice (some ⟨g,off,none⟩) n cap→cap<n+m)∧∃rest cap,n+m≤cap∧(olds++news++rest).length=cap*(tyOf P el).size ∧
   (Builtin.append_ #[t,t] ty #[tv,sv]).run P w = .ok (.slice (some ⟨w.heap.size,0,none⟩) (n+m) cap) (w.drew.alloc (.cells (olds++news++rest).toArray el))):=by
 obtain⟨z,inf,d,hz1,hz2,hi,hd,e1,e2,hne,hzs,hz3⟩:=zero_run hz w
 have hzz:inf.zero=some z:=by
  have:=hz1
  simp only [zeroValue,typeInfo,program,Sem.run_bind,Sem.run,hi,Result.andThen] at this
  cases hq:inf.zero with
  | none=>simp [hq,Sem.run,unsupported] at this
  | some z'=>simp [hq,Sem.run] at this; rw [this]
 rw [e1] at hT hSrc ⊢
 rw [e2] at hb
 unfold roomy at hb hm
 have hu:=und_sl hk
 rcases hT with⟨rfl,rfl,rfl⟩ | ⟨g,off,cap,rfl,hncap,hol,hoc⟩
 ·rcases hSrc with⟨rfl,rfl,rfl⟩ | ⟨ad,c,rfl,hl,hc⟩
  ·left
   refine⟨rfl,?_⟩
   simp [Builtin.append_,run_und hu,run_sizeOf hi,Builtin.lenOf,Builtin.firstCells]
  ·by_cases h0:m=0
   ·subst h0
    left
    have hn:news=[]:=List.eq_nil_of_length_eq_zero (by simpa using hl)
    refine⟨rfl,?_⟩
    simp [Builtin.append_,run_und hu,run_sizeOf hi,Builtin.lenOf,Builtin.firstCells,loadCells,loadCellsFrom]
   ·right; right
    have hr:=run_append_nil (P:=P) w t ty el inf z hu hi hzz ad m c news hl hc (by omega) (by omega) (by simp at hb; omega)
    have hge:=grownCap_ge w m 0 el
    refine⟨by omega,(fun g off cap h=>by cases h),(Builtin.zeroCells z.cells (grownCap w m 0 el - m)).toList,grownCap w m 0 el,by omega,?_,?_⟩
    ·simp only [List.nil_append,List.length_append,Array.length_toList,zeroCells_size,hzs,hl,← Nat.add_mul]; congr 1; omega
    ·rw [hr]; simp only [Nat.zero_add,List.nil_append]; congr 3; apply Array.ext'; simp
 ·by_cases hroom:n+m≤cap
  ·right; left
   refine⟨g,off,cap,rfl,hroom,fun c elb hr hfit=>?_⟩
   rcases hSrc with⟨rfl,rfl,rfl⟩ | ⟨ad,c',rfl,hl,hc⟩
   ·have hle:off+n*inf.size≤c.size:=by simpa using hfit
    have:splice c.toList (off+n*inf.size) []=c.toList:=by simp [splice]
    rw [this,Array.toArray_toList]
    have hset:w.setRow g c=w:=by
     have:=run_storeCells_at P g off elb [] 0 c w hr (by simp; omega) (by simp)
     simp [storeCells] at this
     exact this.symm
    rw [hset]
    simp [Builtin.append_,run_und hu,run_sizeOf hi,Builtin.lenOf,Builtin.firstCells,hncap,storeCells]
   ·have hfit2:off+n*inf.size+news.length≤c.size:=by rw [hl,Nat.add_assoc,← Nat.add_mul]; exact hfit
    have hst:=run_storeCells_at P g (off+n*inf.size) elb news 0 c w hr (by simpa using hfit2) (fun u hu=>one_of_plain (hp u hu))
    have hf:=run_firstCells_some (P:=P) w inf.size m ad m c' news hl hc
    simp only [Nat.add_zero] at hst
    simp [Builtin.append_,run_und hu,run_sizeOf hi,Builtin.lenOf,hroom,hf,add_mk,hst,splice]
  ·right; right
   rcases hSrc with⟨rfl,rfl,rfl⟩ | ⟨ad,c',rfl,hl,hc⟩
   ·omega
   ·have hr:=run_append_grow (P:=P) w t ty el inf z hu hi hzz ⟨g,off,none⟩ n cap olds hol hoc ad m c' news hl hc (by omega) (by omega) (growslice_fits (by omega) hb)
    have hge:=grownCap_ge w (n+m) cap el
    refine⟨by omega,(fun g2 off2 cap2 h=>by simp at h; omega),(Builtin.zeroCells z.cells (grownCap w (n+m) cap el - (n+m))).toList,grownCap w (n+m) cap el,hge,?_,?_⟩
    ·simp only [List.length_append,Array.length_toList,zeroCells_size,hzs,hl,hol,← Nat.add_mul]; congr 1; omega
    ·rw [hr]; congr 3; apply Array.ext'; simp
end
end Go.LS
