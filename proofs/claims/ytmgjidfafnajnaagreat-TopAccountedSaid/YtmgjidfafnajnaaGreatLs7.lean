/-
  The framework LS, part 7: quiet operations, continued: composite values, slicing, closures, conversions.
  No condition: lemmas.
-/
import Derived.Test.YtmgjidfafnajnaaGreatLs6
namespace Go.LS
set_option linter.all false
set_option linter.unusedSimpArgs false
set_option linter.unusedVariables false
section
variable {P:Program} {o:Oper} {a:Act} {w w0:World} {B:List Nat} {S:Seen} {ρ:Place} {st:LState} {h:Heap}
theorem RepC.plain {v:Value}{c:CV}(r:RepC w S ρ h v c):plain v=true:=by
 cases r with
 | p r=>cases r with
  | val _ hv=>exact hv
  | nil=>rfl
  | slnil=>rfl
  | sl=>rfl
 | dead hv=>exact hv
 | _=>rfl
theorem cells_plain {v:Value}(h:plain v=true):v.cells = #[v]:=by
 cases v <;> simp_all [plain,Value.cells]
theorem repL_cells {v:Value}{l:LV}(r:RepL w S ρ h v l):RepCs w S ρ h v.cells.toList (cellsOfL l):=by
 cases l with
 | one c=>
  rw [cells_plain (RepC.plain r)]
  exact⟨rfl,fun i hv hc=>by
   have:i=0:=by simp [cellsOfL] at hc; omega
   subst this; exact r⟩
 | agg cs=>obtain⟨vs,rfl,r⟩:=r; exact r
theorem foldSet {α:Type}(off:Nat):∀ (l:List α) (s:Nat) (cells:Array α) (k:Nat),
  ((l.zipIdx s).foldl (fun cs (p:α×Nat)=>cs.setIfInBounds (off+p.2) p.1) cells)[k]?=if off+s≤k∧k<off+s+l.length∧k<cells.size then l[k - (off+s)]? else cells[k]?
 | [],s,cells,k=>by simp; intro h1 h2; omega
 | x :: l,s,cells,k=>by
  simp only [List.zipIdx_cons,List.foldl_cons]
  rw [foldSet off l (s+1)]
  simp only [Array.size_setIfInBounds,List.length_cons]
  by_cases h1:off+(s+1)≤k∧k<off+(s+1)+l.length∧k<cells.size
  ·rw [if_pos h1,if_pos (by omega)]
   obtain⟨j,hj⟩:∃j,k - (off+s)=j+1:=⟨k - (off+s) - 1,by omega⟩
   rw [hj,List.getElem?_cons_succ]
   congr 1; omega
  ·rw [if_neg h1,Array.getElem?_setIfInBounds]
   by_cases h2:off+s=k
   ·subst h2
    by_cases h3:off+s<cells.size
    ·rw [if_pos rfl,if_pos h3,if_pos (by omega)]; simp
    ·rw [if_pos rfl,if_neg h3,if_neg (by omega)]; simp; omega
   ·rw [if_neg h2,if_neg (by omega)]
theorem fillStep (off:Nat) (vs cells:Array Value) (hle:off+vs.size≤cells.size) :
  (vs.zipIdx.foldl (fun cs (p:Value×Nat)=>cs.setIfInBounds (off+p.2) p.1) cells).toList=splice cells.toList off vs.toList:=by
 refine List.ext_getElem? fun k=>?_
 rw [← Array.foldl_toList,Array.toList_zipIdx,Array.getElem?_toList,foldSet off vs.toList 0 cells k]
 simp only [splice,Nat.add_zero,Array.length_toList]
 by_cases h1:k<off
 ·rw [if_neg (by omega)]
  rw [List.append_assoc,List.getElem?_append_left (by simp; omega)]
  simp [h1]
 ·by_cases h2:k<off+vs.size
  ·rw [if_pos (by omega),List.append_assoc,List.getElem?_append_right (by simp; omega),List.getElem?_append_left (by simp; omega)]
   congr 1; simp; omega
  ·rw [if_neg (by omega),List.getElem?_append_right (by simp; omega)]
   simp only [List.getElem?_drop,List.length_append,List.length_take,Array.length_toList]
   rw [Array.getElem?_toList]; congr 1; omega
theorem repCs_splice {us vs:List Value}{cs ds:List CV}{off:Nat}(r:RepCs w S ρ h us cs) (r':RepCs w S ρ h vs ds) (hle:off+ds.length≤cs.length):RepCs w S ρ h (splice us off vs) (splice cs off ds):=by
 have l1:=r.1
 have l2:=r'.1
 refine⟨by simp [splice,l1,l2],fun i hv hc=>?_⟩
 have hlen:(splice cs off ds).length=cs.length:=by simp [splice]; omega
 rw [hlen] at hc
 simp only [splice]
 by_cases h1:i<off
 ·rw [List.getElem_append_left (by simp; omega),List.getElem_append_left (by simp; omega),List.getElem_append_left (by simp; omega),List.getElem_append_left (by simp; omega)]
  simp only [List.getElem_take]
  exact r.2 i (by omega) hc
 ·by_cases h2:i<off+ds.length
  ·rw [List.getElem_append_left (by simp; omega),List.getElem_append_right (by simp; omega),List.getElem_append_left (by simp; omega),List.getElem_append_right (by simp; omega)]
   have e1:i - (us.take off).length=i - off:=by simp; omega
   have e2:i - (cs.take off).length=i - off:=by simp; omega
   have:=r'.2 (i - off) (by omega) (by omega)
   simpa only [e1,e2] using this
  ·rw [List.getElem_append_right (by simp; omega),List.getElem_append_right (by simp; omega)]
   simp only [List.getElem_drop]
   have e1:off+vs.length+(i - (us.take off++vs).length)=i:=by simp; omega
   have e2:off+ds.length+(i - (cs.take off++ds).length)=i:=by simp; omega
   have:=r.2 i (by omega) hc
   simpa only [e1,e2] using this
theorem fill_rep {place:Nat→Option (Nat×Nat)}{off size:Nat→Nat}:∀ (parts:List (Nat×Operand)) (cells:Array Value) (cs:List CV),(∀q∈parts,place q.1=some (off q.1,size q.1)) →
  InvAt w0 B S ρ st a w→RepCs w S ρ st.h cells.toList cs→(evBuild off size (parts.map fun (i,x)=>(i,(ev st x).1,(ev st x).2)) cs).2 →
  ∃us,Instr.fill place cells (parts.map fun (i,x)=>(i,a.eval x))=some us∧RepCs w S ρ st.h us.toList (evBuild off size (parts.map fun (i,x)=>(i,(ev st x).1,(ev st x).2)) cs).1
 | [],cells,cs,_,_,r,_=>⟨cells,rfl,r⟩
 | (i,x) :: parts,cells,cs,hp,inv,r,hq=>by
  simp only [List.map_cons,evBuild] at hq ⊢
  obtain⟨q1,q2,q3,q4⟩:=hq
  have rx:=repL_cells (ev_rep inv q1)
  have hl:(a.eval x).cells.size=size i:=by have:=rx.1; simp at this; omega
  have hcs:cells.size=cs.length:=by have:=r.1; simpa using this
  have hstep:=fillStep (off i) (a.eval x).cells cells (by omega)
  obtain⟨us,h1,h2⟩:=fill_rep (place:=place) (off:=off) (size:=size) parts ((a.eval x).cells.zipIdx.foldl (fun cs (p:Value×Nat)=>cs.setIfInBounds (off i+p.2) p.1) cells) (splice cs (off i) (cellsOfL (ev st x).1)) (fun q hq=>hp q (List.mem_cons_of_mem _ hq)) inv (by
   rw [hstep]; exact repCs_splice r rx (by omega)) q4
  refine⟨us,?_,h2⟩
  simp only [Instr.fill,hp (i,x) (List.mem_cons_self ..)]
  rw [if_neg (by simp [hl]; omega)]
  exact h1
theorem zero_run {t:TypeId}(hz:zeroOk P t=true) (w:World):∃z i d,(zeroValue t).run P w = .ok z w∧z.cells.toList=(tyOf P t).zero∧P.info? t=some i∧P.underlying t=some d∧(tyOf P t).size=i.size∧(tyOf P t).bytes=i.bytes∧i.size≠0∧z.cells.size=i.size∧(∀v∈(tyOf P t).zero,plain v=true):=by
 simp only [zeroOk,Bool.and_eq_true,decide_eq_true_eq,List.all_eq_true] at hz
 obtain⟨⟨h1,h2⟩,h3⟩:=hz
 obtain⟨i,d,hi,hd,e1,e2,e3⟩:=zM1 h2
 cases hz:i.zero with
 | none=>simp [tyOf,hi,hd,hz] at h1; omega
 | some z=>
  have e4:(tyOf P t).zero=z.cells.toList:=by simp [tyOf,hi,hd,hz]
  refine⟨z,i,d,by simp [zeroValue,typeInfo,program,Sem.run,hi,hz],e4.symm,hi,hd,e1,e2,by omega,?_,h3⟩
  rw [e4] at h1; simp at h1; omega
theorem repCs_zero {vs:List Value}(hp:∀v∈vs,plain v=true):RepCs w S ρ h vs (vs.map fun v=>.p (toP v)):=
 ⟨by simp,fun i hv hc=>by simp only [List.getElem_map]; exact .p (repP_toP _ (hp _ (List.getElem_mem _)))⟩
theorem run_places (w:World):∀ (l:List Field),(∀f∈l,(tyOf P f.type).size≠0) →
  (l.mapM (fun f=>do pure (f.offset,← sizeOf f.type)):Sem (List (Nat×Nat))).run P w = .ok (l.map fun f=>(f.offset,(tyOf P f.type).size)) w
 | [],_=>by simp
 | f :: l,hl=>by
  obtain⟨i,d,hi,hd,e1,_⟩:=zM1 (hl f (List.mem_cons_self ..))
  have ih:=run_places w l fun g hg=>hl g (List.mem_cons_of_mem _ hg)
  simp only [List.mapM_cons,Sem.run_bind,run_sizeOf hi,Result.andThen,Sem.run_pure,ih,List.map_cons,e1]
theorem y_build_st (i:InvAt w0 B S ρ st a w){t:TypeId}{parts:Array (Nat×Operand)}(ho:o.op = .build t parts){fs:List (Nat×TypeId)}(hk:(tyOf P t).k = .st fs)
  (hq:(evBuild (fun i=>(fs.getD i (0,0)).1) (fun i=>(tyOf P (fs.getD i (0,0)).2).size) (evParts st parts) ((tyOf P t).zero.map fun v=>.p (toP v))).2) (hp:∀q∈parts.toList,q.1<fs.length) (hz:zeroOk P t=true)
  (hs:(fs.all fun f=>decide ((tyOf P f.2).size≠0))=true) :
  Yields P o a w S ρ st.h (.x (.agg (evBuild (fun i=>(fs.getD i (0,0)).1) (fun i=>(tyOf P (fs.getD i (0,0)).2).size) (evParts st parts) ((tyOf P t).zero.map fun v=>.p (toP v))).1)):=by
 obtain⟨z,inf,d,hz1,hz2,_,_,_,_,_,_,hz3⟩:=zero_run hz w
 obtain⟨F,hu,hfs⟩:=und_st hk
 have hsz:∀f∈F.toList,(tyOf P f.type).size≠0:=fun f hf=>by
  simp only [List.all_eq_true,decide_eq_true_eq] at hs
  exact hs (f.offset,f.type) (by rw [hfs]; exact List.mem_map.2 ⟨f,hf,rfl⟩)
 have hpl:=run_places (P:=P) w F.toList hsz
 obtain⟨us,h1,h2⟩:=fill_rep (place:=fun k=>(F.toList.map fun f=>(f.offset,(tyOf P f.type).size)).toArray[k]?) (off:=fun i=>(fs.getD i (0,0)).1) (size:=fun i=>(tyOf P (fs.getD i (0,0)).2).size) parts.toList z.cells _ (fun q hq=>by
  obtain⟨fd,hfd,hgd⟩:=field_at (P:=P) hfs (hp q hq)
  simp only [hgd]
  simp [hfd]) i (by rw [hz2]; exact repCs_zero hz3) hq
 refine zI9 (v:=.agg us) ?_ ⟨us,rfl,h2⟩
 have h3:(parts.map fun (p:Nat×Operand)=>(p.1,a.eval p.2)).toList=parts.toList.map fun (i,x)=>(i,a.eval x):=by simp
 have h4:(Array.mapM (fun (f:Field)=>(do pure (f.offset,← sizeOf f.type):Sem (Nat×Nat))) F).run P w = .ok (F.toList.map fun f=>(f.offset,(tyOf P f.type).size)).toArray w:=by
  rw [Array.mapM_eq_mapM_toList,Sem.run_map,hpl]; rfl
 simp only [execOp,ho,Sem.run_bind,Instr.build,hz1,Result.andThen,run_und hu,h4]
 rw [h3] at *
 rw [h1]; rfl
theorem y_build_arr (i:InvAt w0 B S ρ st a w){t el:TypeId}{n:Nat}{parts:Array (Nat×Operand)}(ho:o.op = .build t parts) (hk:(tyOf P t).k = .arr n el)
  (hq:(evBuild (fun i=>i*(tyOf P el).size) (fun _=>(tyOf P el).size) (evParts st parts) ((tyOf P t).zero.map fun v=>.p (toP v))).2) (hz:zeroOk P t=true) (hs:(tyOf P el).size≠0) :
  Yields P o a w S ρ st.h (.x (.agg (evBuild (fun i=>i*(tyOf P el).size) (fun _=>(tyOf P el).size) (evParts st parts) ((tyOf P t).zero.map fun v=>.p (toP v))).1)):=by
 obtain⟨z,inf,d,hz1,hz2,_,_,_,_,_,_,hz3⟩:=zero_run hz w
 obtain⟨ei,d,hi,hd,e1,_⟩:=zM1 hs
 obtain⟨us,h1,h2⟩:=fill_rep (place:=fun i=>some (i*(tyOf P el).size,(tyOf P el).size)) (off:=fun i=>i*(tyOf P el).size) (size:=fun _=>(tyOf P el).size) parts.toList z.cells _ (fun q hq=>rfl) i (by rw [hz2]; exact repCs_zero hz3) hq
 refine zI9 (v:=.agg us) ?_ ⟨us,rfl,h2⟩
 have h3:(parts.map fun (p:Nat×Operand)=>(p.1,a.eval p.2)).toList=parts.toList.map fun (i,x)=>(i,a.eval x):=by simp
 simp only [execOp,ho,Sem.run_bind,Instr.build,hz1,Result.andThen,run_und (und_arr hk),run_sizeOf hi]
 rw [e1] at h1
 rw [h3,h1]; rfl
theorem purify_rep {us:List Value}:∀ {cs:List CV},(purify cs).2→RepCs w S ρ h us cs→us.length=(purify cs).1.length∧∀i (hv:i<us.length) (hc:i<(purify cs).1.length),RepP w S us[i] (purify cs).1[i]:=by
 intro cs
 induction cs generalizing us with
 | nil=>intro _ r; have:=r.1; simp at this; subst this; exact⟨rfl,fun i hv=>absurd hv (by simp)⟩
 | cons c cs ih=>
  intro q r
  cases us with
  | nil=>have:=r.1; simp at this
  | cons u us=>
   have r0:=r.2 0 (by simp) (by simp)
   have rr:RepCs w S ρ h us cs:=⟨by have:=r.1; simpa using this,fun i hv hc=>by have:=r.2 (i+1) (by simp; omega) (by simp; omega); simpa using this⟩
   simp only [List.getElem_cons_zero] at r0
   cases c with
   | p x=>
    obtain⟨h1,h2⟩:=ih q rr
    refine⟨by simp [purify,h1],fun i hv hc=>?_⟩
    cases i with
    | zero=>cases r0 with | p r0=>exact r0
    | succ i=>exact h2 i (by simpa using hv) (by simpa [purify] using hc)
   | fl e xs=>
    obtain⟨h1,h2⟩:=ih q rr
    refine⟨by simp [purify,h1],fun i hv hc=>?_⟩
    cases i with
    | zero=>cases r0 with | fl r0=>exact r0
    | succ i=>exact h2 i (by simpa using hv) (by simpa [purify] using hc)
   | _=>exact q.elim
def RepX (w:World) (S:Seen) (e:Nat) (us:List Value) (xs:List (List PV)):Prop:=
 us.length=xs.length*e∧(∀x∈xs,x.length=e)∧∀i j (hi:i<xs.length) (hj:j<xs[i].length),∃v,us[i*e+j]?=some v∧RepP w S v xs[i][j]
theorem idx_lt {i n e j:Nat}(hi:i<n) (hj:j<e):i*e+j<n*e:=by
 have:(i+1)*e≤n*e:=Nat.mul_le_mul_right e hi
 rw [Nat.succ_mul] at this; omega
theorem RepX.set {e:Nat}{us vs:List Value}{xs:List (List PV)}{ys:List PV}{k:Nat}(r:RepX w S e us xs) (hk:k<xs.length) (hy:ys.length=e) (hv:vs.length=e)
  (r':∀i (hv:i<vs.length) (hc:i<ys.length),RepP w S vs[i] ys[i]):RepX w S e (splice us (k*e) vs) (xs.set k ys):=by
 obtain⟨r1,r2,r3⟩:=r
 have hke:k*e+e≤us.length:=by rw [r1,← Nat.succ_mul]; exact Nat.mul_le_mul_right e hk
 refine⟨by simp [splice]; omega,fun x hx=>?_,fun i j hi hj=>?_⟩
 ·rcases List.mem_or_eq_of_mem_set hx with hx | rfl
  ·exact r2 x hx
  ·exact hy
 ·have hi':i<xs.length:=by simpa using hi
  by_cases hik:i=k
  ·subst hik
   have hj':j<e:=by simp at hj; omega
   refine⟨vs[j],?_,?_⟩
   ·simp only [splice]
    rw [List.append_assoc,List.getElem?_append_right (by simp; omega),List.getElem?_append_left (by simp; omega)]
    simp only [List.length_take]
    rw [show i*e+j - min (i*e) us.length=j by omega]
    simp [hv,hj']
   ·have:=r' j (by omega) (by omega)
    simpa using this
  ·have hj2:j<xs[i].length:=by simpa [List.getElem_set,Ne.symm hik] using hj
   have hje:j<e:=by rw [r2 _ (List.getElem_mem hi')] at hj2; exact hj2
   obtain⟨u,h1,h2⟩:=r3 i j hi' hj2
   refine⟨u,?_,by simpa [List.getElem_set,Ne.symm hik] using h2⟩
   rw [← h1]
   simp only [splice]
   rcases Nat.lt_or_gt_of_ne hik with hlt | hgt
   ·have:(i+1)*e≤k*e:=Nat.mul_le_mul_right e hlt
    rw [Nat.succ_mul] at this
    rw [List.append_assoc,List.getElem?_append_left (by simp; omega),List.getElem?_take_of_lt (by omega)]
   ·have:(k+1)*e≤i*e:=Nat.mul_le_mul_right e hgt
    rw [Nat.succ_mul] at this
    rw [List.getElem?_append_right (by simp; omega),List.getElem?_drop]
    congr 1; simp; omega
theorem fixN_len:∀ (ce:List Nat) (l:List PV),(fixN ce l).length=l.length
 | [],[]=>rfl
 | _ :: _,[]=>rfl
 | [],_ :: _=>rfl
 | _ :: ce,_ :: l=>by simp only [fixN,List.length_cons,fixN_len ce l]
theorem fixP_rep {v:Value}{x:PV}(e:Nat) (r:RepP w S v x):RepP w S v (fixP e x):=by
 cases x with
 | nil=>
  simp only [fixP]
  split
  ·exact r
  ·cases r; exact .slnil e
 | val u=>exact r
 | sl e' xs=>exact r
theorem fixN_rep:∀ (ce:List Nat) (l:List PV) (vs:List Value),(∀i (hv:i<vs.length) (hc:i<l.length),RepP w S vs[i] l[i])→∀i (hv:i<vs.length) (hc:i<(fixN ce l).length),RepP w S vs[i] (fixN ce l)[i]
 | [],[],_,_=>fun i _ hc=>absurd hc (by simp [fixN])
 | _ :: _,[],_,_=>fun i _ hc=>absurd hc (by simp [fixN])
 | [],_ :: _,_,h=>h
 | e :: ce,x :: l,vs,h=>fun i hv hc=>by
  cases vs with
  | nil=>exact absurd hv (by simp)
  | cons v vs=>
   cases i with
   | zero=>exact fixP_rep e (h 0 (by simp) (by simp))
   | succ i=>exact fixN_rep ce l vs (fun j h1 h2=>h (j+1) (by simpa using h1) (by simpa using h2)) i (by simpa using hv) (by simpa [fixN] using hc)
theorem fillS_rep {e:Nat}(ce:List Nat):∀ (parts:List (Nat×Operand)) (cells:Array Value) (xs:List (List PV)),
  InvAt w0 B S ρ st a w→RepX w S e cells.toList xs→(evBuildS e ce (parts.map fun (i,x)=>(i,(ev st x).1,(ev st x).2)) xs).2 →
  ∃us,Instr.fill (fun i=>some (i*e,e)) cells (parts.map fun (i,x)=>(i,a.eval x))=some us∧RepX w S e us.toList (evBuildS e ce (parts.map fun (i,x)=>(i,(ev st x).1,(ev st x).2)) xs).1
 | [],cells,xs,_,r,_=>⟨cells,rfl,r⟩
 | (i,x) :: parts,cells,xs,inv,r,hq=>by
  simp only [List.map_cons,evBuildS] at hq ⊢
  obtain⟨q1,q2,q3,q4,q5⟩:=hq
  have rx:=repL_cells (ev_rep inv q1)
  have hl:(a.eval x).cells.size=e:=by have:=rx.1; simp at this; omega
  obtain⟨p1,p2⟩:=purify_rep q2 rx
  have hcs:cells.size=xs.length*e:=by have:=r.1; simpa using this
  have hie:i*e+e≤cells.size:=by rw [hcs,← Nat.succ_mul]; exact Nat.mul_le_mul_right e q4
  have hstep:=fillStep (i*e) (a.eval x).cells cells (by omega)
  obtain⟨us,h1,h2⟩:=fillS_rep (e:=e) ce parts ((a.eval x).cells.zipIdx.foldl (fun cs (p:Value×Nat)=>cs.setIfInBounds (i*e+p.2) p.1) cells) (xs.set i (fixN ce (purify (cellsOfL (ev st x).1)).1)) inv (by
   rw [hstep]; exact r.set q4 (by rw [fixN_len,← p1]; simpa using hl) (by simpa using hl) (fixN_rep ce _ _ p2)) q5
  refine⟨us,?_,h2⟩
  simp only [Instr.fill]
  rw [if_neg (by simp [hl]; omega)]
  exact h1
theorem zeroXf (ce:List Nat) (z:Array Value) (e n:Nat) (hz:z.size=e) (he:e≠0) (hp:∀v∈z.toList,plain v=true) :
  RepX w S e ((Array.range (n*e)).map (fun i=>z[i % z.size]!)).toList (List.replicate n (fixN ce (z.toList.map toP))):=by
 subst hz
 refine⟨by simp,fun x hx=>?_,fun i j hi hj=>?_⟩
 ·obtain⟨_,rfl⟩:=List.mem_replicate.1 hx; rw [fixN_len]; simp
 ·have hi':i<n:=by simpa using hi
  have hj':j<z.size:=by simpa [fixN_len] using hj
  have hlt:=idx_lt hi' hj'
  refine⟨z[j],?_,?_⟩
  ·rw [Array.getElem?_toList,Array.getElem?_map,Array.getElem?_range]
   simp only [hlt,if_true,Option.map_some]
   rw [Nat.mul_add_mod_self_right,Nat.mod_eq_of_lt hj']
   simp [hj']
  ·simp only [List.getElem_replicate]
   have:=fixN_rep (w:=w) (S:=S) ce (z.toList.map toP) z.toList (fun i h1 h2=>by simp only [List.getElem_map]; exact repP_toP _ (hp _ (List.getElem_mem h1))) j (by simpa using hj') (by rw [fixN_len]; simpa using hj')
   simpa using this
theorem RepX.mono {w':World}{S':Seen}{e:Nat}{us:List Value}{xs:List (List PV)}(r:RepX w S e us xs)
  (hm:∀b o,S b o→S' b o∧w'.cell? ⟨b,o,none⟩=w.cell? ⟨b,o,none⟩):RepX w' S' e us xs:=
 ⟨r.1,r.2.1,fun i j hi hj=>let ⟨v,h1,h2⟩:=r.2.2 i j hi hj; ⟨v,h1,h2.mono hm⟩⟩
theorem RepX.slice {e:Nat}{xs:List (List PV)}{us:List Value}{b o cap:Nat}(r:RepX w S e us xs) (he:1≤e) (hm0:xs.length≤roomy) (hcap:xs.length≤cap)
  (hc:∀k v,us[k]?=some v→S b (o+k)∧w.cell? ⟨b,o+k,none⟩=some v):RepP w S (.slice (some ⟨b,o,none⟩) xs.length cap) (.sl e xs):=by
 obtain⟨r1,r2,r3⟩:=r
 refine .sl b o xs.length cap e (fun i j=>us.getD (i*e+j) undef) xs rfl hcap he (by unfold roomy at hm0; unfold huge; omega) r2 (fun i j hi hj=>?_) (fun i j hi hj=>?_)
 ·have hlt:i*e+j<us.length:=by rw [r1]; exact idx_lt hi hj
  have:=hc (i*e+j) us[i*e+j] (by simp [hlt])
  simpa [List.getD,hlt] using this
 ·obtain⟨v,h1,h2⟩:=r3 i j hi hj
  simpa [List.getD,h1] using h2
def seeBlock (S:Seen) (b0:Nat):Seen:=fun b o=>S b o∨b=b0
theorem alloc_old (w:World) (ob:Obj) (b:Nat) (hb:b<w.heap.size):(w.alloc ob).heap[b]?=w.heap[b]?:=by
 show (w.heap.push ob)[b]?=_
 rw [Array.getElem?_push,if_neg (by omega)]
theorem alloc_new (w:World) (ob:Obj):(w.alloc ob).heap[w.heap.size]?=some ob:=by
 show (w.heap.push ob)[w.heap.size]?=_
 simp
theorem grow_alloc (w:World) (S:Seen) (ob:Obj):Grow w (w.alloc ob) S (seeBlock S w.heap.size):=
 ⟨by simp,fun b hb=>alloc_old w ob b hb,fun b o h=>.inl h,fun b o h=>by rcases h with h | rfl; exact .inl h; exact .inr ⟨Nat.le_refl _,by simp⟩,⟨rfl,rfl,rfl⟩⟩
theorem y_buildSlice (i:InvAt w0 B S ρ st a w){t el:TypeId}{len:Nat}{parts:Array (Nat×Operand)}(ho:o.op = .buildSlice t len parts) (hk:(tyOf P t).k = .sl el)
  (hq:(evBuildS (tyOf P el).size (tyOf P el).ce (evParts st parts) (List.replicate len (fixN (tyOf P el).ce ((tyOf P el).zero.map toP)))).2) (hz:zeroOk P el=true) (hb:len*(tyOf P el).size≤16777216) :
  Yields P o a w S ρ st.h (.x (.one (.fl (tyOf P el).size (evBuildS (tyOf P el).size (tyOf P el).ce (evParts st parts) (List.replicate len (fixN (tyOf P el).ce ((tyOf P el).zero.map toP)))).1))):=by
 obtain⟨z,inf,d,hz1,hz2,hi,hd,e1,e2,hne,hzs,hz3⟩:=zero_run hz w
 have hz4:∀v∈z.cells.toList,plain v=true:=by rw [hz2]; exact hz3
 have hX:=zeroXf (w:=w) (S:=S) (tyOf P el).ce z.cells inf.size len hzs hne hz4
 rw [hz2,← e1] at hX
 obtain⟨us,h1,h2⟩:=fillS_rep (e:=(tyOf P el).size) (tyOf P el).ce parts.toList ((Array.range (len*(tyOf P el).size)).map (fun i=>z.cells[i % z.cells.size]!)) _ i hX hq
 rw [show (List.map (fun x=>match x with | (i,x)=>(i,(ev st x).1,(ev st x).2)) parts.toList)=evParts st parts from rfl] at h2
 have hlen:∀ (l:List (Nat×Operand)) (xs:List (List PV)),(evBuildS (tyOf P el).size (tyOf P el).ce (l.map fun (i,x)=>(i,(ev st x).1,(ev st x).2)) xs).1.length=xs.length:=by
  intro l
  induction l with
  | nil=>intro xs; rfl
  | cons p l ih=>intro xs; simp only [List.map_cons,evBuildS]; rw [ih]; simp
 have hR:(evBuildS (tyOf P el).size (tyOf P el).ce (evParts st parts) (List.replicate len (fixN (tyOf P el).ce ((tyOf P el).zero.map toP)))).1.length=len:=by
  have:=hlen parts.toList (List.replicate len (fixN (tyOf P el).ce ((tyOf P el).zero.map toP))); simpa [evParts] using this
 generalize evBuildS (tyOf P el).size (tyOf P el).ce (evParts st parts) (List.replicate len (fixN (tyOf P el).ce ((tyOf P el).zero.map toP)))=R at *
 have hg:=grow_alloc w S (.cells us el)
 have hs:=hg.seen fun b o h=>(i.mem.sep b o h).1
 have h3:(parts.map fun (p:Nat×Operand)=>(p.1,a.eval p.2)).toList=parts.toList.map fun (i,x)=>(i,a.eval x):=by simp
 have he1:1≤(tyOf P el).size:=by omega
 have hlen2:len≤16777216:=by
  have:len*1≤len*(tyOf P el).size:=Nat.mul_le_mul_left len he1
  omega
 have hrun:(execOp a.eval o).run P w = .ok (.value (.slice (some ⟨w.heap.size,0,none⟩) len len)) (w.alloc (.cells us el)):=by
  rw [e1] at h1
  have hbig:¬ len*inf.size > 2 ^ 24:=by rw [e1] at hb; simpa using hb
  by_cases h0:len*inf.size=0
  ·have hr:∀f:Nat→Value,(Array.range (len*inf.size)).map f = #[]:=fun f=>by rw [h0]; simp
   simp only [hr] at h1
   simp only [execOp,ho,Sem.run_bind,Instr.buildSlice,run_und (und_sl hk),Result.andThen,run_sizeOf hi,hbig,if_false,h0,if_true,Sem.run_pure,h3,newRow,newObj]
   rw [if_neg (by decide)]
   simp only [Sem.run_bind,Sem.run_pure,Result.andThen]
   have hr0:∀f:Nat→Value,(Array.range 0).map f = #[]:=fun f=>by simp
   rw [hr0,h1]
   simp [Sem.run]
  ·simp only [execOp,ho,Sem.run_bind,Instr.buildSlice,run_und (und_sl hk),Result.andThen,run_sizeOf hi,hbig,if_false,h0,Sem.run_pure,h3,newRow,newObj,hz1]
   rw [h1]
   simp [Sem.run]
 intro K Q hK
 unfold Oper.wp
 rw [hrun]
 refine hK _ _ _ hg ?_
 show RepC _ _ _ _ _ _
 rw [← hR]
 refine .fl ((h2.mono hs).slice he1 (by unfold roomy; omega) (Nat.le_refl _) fun k v hv=>⟨.inr rfl,?_⟩)
 rw [Nat.zero_add,cell_row (alloc_new w (.cells us el))]
 simpa using hv
end
end Go.LS
