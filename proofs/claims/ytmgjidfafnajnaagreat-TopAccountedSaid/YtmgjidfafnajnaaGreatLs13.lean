/-
  The framework LS, part 13: calls by contract.
  No condition: lemmas.
-/
import Derived.Test.YtmgjidfafnajnaaGreatLs12
namespace Go.LS
set_option linter.all false
set_option linter.unusedSimpArgs false
set_option linter.unusedVariables false
section
variable {P:Program} {o:Oper} {a:Act} {w w' w0:World} {B:List Nat} {S S' S0:Seen} {ρ ρ':Place} {R0:Home} {st:LState} {h h':Heap}
theorem RepC.ren {f:Nat→Nat}{v:Value}{c:CV}(r:RepC w S ρ h v c) (hp:∀id∈refsC c,ρ' (f id)=ρ id) (ha:∀id∈refsC c,∀e xs,h id=some (.arr e xs)→h' (f id)=some (.arr e xs)):RepC w S ρ' h' v (renC f c):=by
 cases r with
 | p r=>exact .p r
 | fl r=>exact .fl r
 | @vw id e b o cap xs c el hb hpl hrow hcap hroom hmx=>exact .vw (ha id (by simp [refsC]) _ _ hb) ((hp id (by simp [refsC])).trans hpl) hrow hcap hroom hmx
 | @vwnil id e hb=>exact .vwnil (ha id (by simp [refsC]) _ _ hb)
 | @ptr id off b o hpl=>exact .ptr ((hp id (by simp [refsC])).trans hpl)
 | @ap id e i j b o xs hb hpl=>exact .ap (ha id (by simp [refsC]) _ _ hb) ((hp id (by simp [refsC])).trans hpl)
 | ep r=>exact .ep r
 | @fn g ids vs hn hv=>
  refine .fn (by simpa using hn) fun i hi=>?_
  have hi':i<ids.length:=by simpa using hi
  obtain⟨b,o,h1,h2⟩:=hv i hi'
  exact⟨b,o,by simp only [List.getElem_map]; exact (hp ids[i] (by simp [refsC])).trans h1,h2⟩
 | dead hv=>exact .dead hv
theorem RepCs.ren {f:Nat→Nat}{vs:List Value}{cs:List CV}(r:RepCs w S ρ h vs cs) (hp:∀id∈cs.flatMap refsC,ρ' (f id)=ρ id) (ha:∀id∈cs.flatMap refsC,∀e xs,h id=some (.arr e xs)→h' (f id)=some (.arr e xs)) :
  RepCs w S ρ' h' vs (cs.map (renC f)):=
 ⟨by simpa using r.1,fun i hv hc=>by
  have hc':i<cs.length:=by simpa using hc
  simp only [List.getElem_map]
  exact (r.2 i hv hc').ren (fun id hid=>hp id (List.mem_flatMap.2 ⟨cs[i],List.getElem_mem hc',hid⟩)) fun id hid=>ha id (List.mem_flatMap.2 ⟨cs[i],List.getElem_mem hc',hid⟩)⟩
theorem RepL.ren {f:Nat→Nat}{v:Value}{l:LV}(r:RepL w S ρ h v l) (hp:∀id∈refsL l,ρ' (f id)=ρ id) (ha:∀id∈refsL l,∀e xs,h id=some (.arr e xs)→h' (f id)=some (.arr e xs)):RepL w S ρ' h' v (l.map (renC f)):=by
 cases l with
 | one c=>exact RepC.ren r hp ha
 | agg cs=>obtain⟨vs,rfl,r⟩:=r; exact⟨vs,rfl,r.ren hp ha⟩
theorem RepLs.ren {f:Nat→Nat}{vs:List Value}{ls:List LV}(r:RepLs w S ρ h vs ls) (hp:∀id∈ls.flatMap refsL,ρ' (f id)=ρ id) (ha:∀id∈ls.flatMap refsL,∀e xs,h id=some (.arr e xs)→h' (f id)=some (.arr e xs)) :
  RepLs w S ρ' h' vs (ls.map (LV.map (renC f))):=
 ⟨by simpa using r.1,fun i hv hc=>by
  have hc':i<ls.length:=by simpa using hc
  simp only [List.getElem_map]
  exact (r.2 i hv hc').ren (fun id hid=>hp id (List.mem_flatMap.2 ⟨ls[i],List.getElem_mem hc',hid⟩)) fun id hid=>ha id (List.mem_flatMap.2 ⟨ls[i],List.getElem_mem hc',hid⟩)⟩
theorem argC_rep {v:Value}{c:CV}{e:Nat}(r:RepC w S ρ h v c) (hn:∀id,c ≠ .vw id):RepC w S ρ h v (argC h e c):=by
 cases c with
 | p x=>
  cases x with
  | nil=>
   simp only [argC]
   split
   ·exact r
   ·cases r with | p r=>cases r; exact .p (.slnil e)
  | _=>exact r
 | fl e xs=>cases r with | fl r=>exact .p r
 | vw id=>exact absurd rfl (hn id)
 | _=>exact r
theorem argL_rep {v:Value}{l:LV}{ce:List Nat}(r:RepL w S ρ h v l) (hn:isVw l=false):RepL w S ρ h v (argL h ce l):=by
 cases l with
 | one c=>exact argC_rep r fun id hc=>by subst hc; simp [isVw] at hn
 | agg cs=>
  obtain⟨vs,rfl,r⟩:=r
  refine⟨vs,rfl,by simpa using r.1,fun i hv hc=>?_⟩
  have hc':i<cs.length:=by simpa using hc
  simp only [List.getElem_map,List.getElem_zipIdx]
  refine argC_rep (r.2 i hv hc') fun id hcc=>?_
  simp only [isVw] at hn
  rw [List.any_eq_false] at hn
  have:=hn cs[i] (List.getElem_mem hc')
  rw [hcc] at this
  simp at this
theorem argM_rep {v:Value}{l:LV}{ce:List Nat}{b:Bool}(r:RepL w S ρ h v l) (hn:(b || !isVw l)=true):RepL w S ρ h v (argM b h ce l):=by
 cases b with
 | true=>exact r
 | false=>exact argL_rep r (by simpa using hn)
theorem args_rep (i:InvAt w0 B S ρ st a w):∀ (m:List Bool) (xs:List Operand) (ts:List TypeId),xs.length=ts.length→argsVc st xs→vwOk st m xs=true→RepLs w S ρ st.h (xs.map a.eval) (argsOf P st m xs ts)
 | _,[],[],_,_,_=>⟨rfl,fun i hi=>absurd hi (by simp)⟩
 | _,[],_ :: _,h,_,_=>by simp at h
 | _,_ :: _,[],h,_,_=>by simp at h
 | m,x :: xs,t :: ts,hl,hq,hn=>by
  simp only [vwOk,Bool.and_eq_true] at hn
  obtain⟨h1,h2⟩:=args_rep i (tlM m) xs ts (by simpa using hl) hq.2 hn.2
  refine⟨by simp [argsOf,h1],fun k hv hc=>?_⟩
  cases k with
  | zero=>exact argM_rep (ev_rep i hq.1) hn.1
  | succ k=>exact h2 k (by simpa using hv) (by simpa [argsOf] using hc)
theorem vwOk_all:∀ (m:List Bool) (xs:List Operand),(xs.all fun x => !isVw (ev st x).1)=true→vwOk st m xs=true
 | _,[],_=>rfl
 | m,x :: xs,h=>by
  simp only [List.all_cons,Bool.and_eq_true] at h
  simp only [vwOk,h.1,Bool.or_true,Bool.true_and]
  exact vwOk_all (tlM m) xs h.2
theorem argC_all (m:Mem w0 B w S ρ h){v:Value}{c:CV}{e:Nat}(r:RepC w S ρ h v c) (hr:refsC (argC h e c)=[]):RepC w (fun b _=>b<w.heap.size) (fun _=>none) (fun _=>none) v (argC h e c):=by
 have hs:∀b o,S b o→(b<w.heap.size)∧w.cell? ⟨b,o,none⟩=w.cell? ⟨b,o,none⟩:=fun b o h=>⟨(m.sep b o h).1,rfl⟩
 cases c with
 | p x=>
  cases x with
  | nil=>
   simp only [argC] at hr ⊢
   split
   ·cases r with | p r=>cases r; exact .p .nil
   ·cases r with | p r=>cases r; exact .p (.slnil e)
  | val u=>cases r with | p r=>exact .p (r.mono hs)
  | sl e' xs=>cases r with | p r=>exact .p (r.mono hs)
 | fl e xs=>cases r with | fl r=>exact .p (r.mono hs)
 | vw id=>
  cases r with
  | vwnil hb=>simp only [argC,hb]; exact .p (.slnil _)
  | @vw _ e2 b o2 cap xs2 cc elb hb hp hrow hcap hroom hmx=>
   simp only [argC,hb]
   obtain⟨g1,g2,g3,g4⟩:=m.blocks id _ hb
   rcases g4 with⟨g4,_⟩ | ⟨b3,o3,c3,el3,hp3,hr3,hz3,hc3⟩
   ·rw [hp] at g4; cases g4
   rw [hp] at hp3
   obtain⟨rfl,rfl⟩:b=b3∧o2=o3:=by simpa using hp3
   refine .p (.sl b o2 xs2.length cap e2 (fun i j=>(w.cell? ⟨b,o2+(i*e2+j),none⟩).getD undef) xs2 rfl hcap g1 (by unfold roomy at hmx; unfold huge; omega) g2 (fun i j hi hj=>⟨(m.place id b o2 hp).1,?_⟩) (fun i j hi hj=>?_))
   ·obtain⟨u,hu,_⟩:=hc3 i j hi (by rw [g2 _ (List.getElem_mem hi)]; exact hj)
    rw [cell_row hr3,hu]; rfl
   ·obtain⟨u,hu,hru⟩:=hc3 i j hi hj
    rw [cell_row hr3,hu]
    exact hru.mono hs
 | ptr i o=>simp [argC,refsC] at hr
 | ap i x y=>simp [argC,refsC] at hr
 | ep cs=>cases r with | ep r=>exact .ep (r.mono hs)
 | fn f ids=>
  simp only [argC,refsC] at hr
  subst hr
  cases r with | fn hn hv=>exact .fn hn fun i hi=>absurd hi (by simp)
 | dead=>exact .dead r.plain
theorem argL_all (m:Mem w0 B w S ρ h){v:Value}{l:LV}{ce:List Nat}(r:RepL w S ρ h v l) (hr:refsL (argL h ce l)=[]):RepL w (fun b _=>b<w.heap.size) (fun _=>none) (fun _=>none) v (argL h ce l):=by
 cases l with
 | one c=>exact argC_all m r hr
 | agg cs=>
  obtain⟨vs,rfl,r⟩:=r
  refine⟨vs,rfl,by simpa using r.1,fun i hv hc=>?_⟩
  have hc':i<cs.length:=by simpa using hc
  simp only [argL,refsL,List.flatMap_eq_nil_iff,List.mem_map] at hr
  simp only [List.getElem_map,List.getElem_zipIdx]
  refine argC_all m (r.2 i hv hc') (hr _ ⟨(cs[i],0+i),?_,rfl⟩)
  rw [List.mem_iff_getElem]
  exact⟨i,by simpa using hc',by simp⟩
theorem argM_all (m:Mem w0 B w S ρ h){v:Value}{l:LV}{ce:List Nat}{b:Bool}(r:RepL w S ρ h v l) (hr:refsL (argM b h ce l)=[]):RepL w (fun b _=>b<w.heap.size) (fun _=>none) (fun _=>none) v (argM b h ce l):=by
 cases b with
 | true=>
  simp only [argM] at hr ⊢
  exact r.mono (fun b o h=>⟨(m.sep b o h).1,rfl⟩) fun id hid=>by rw [hr] at hid; cases hid
 | false=>exact argL_all m r hr
theorem args_all (i:InvAt w0 B S ρ st a w):∀ (m:List Bool) (xs:List Operand) (ts:List TypeId),xs.length=ts.length→argsVc st xs→(argsOf P st m xs ts).flatMap refsL=[]→RepLs w (fun b _=>b<w.heap.size) (fun _=>none) (fun _=>none) (xs.map a.eval) (argsOf P st m xs ts)
 | _,[],[],_,_,_=>⟨rfl,fun i hi=>absurd hi (by simp)⟩
 | _,[],_ :: _,h,_,_=>by simp at h
 | _,_ :: _,[],h,_,_=>by simp at h
 | m,x :: xs,t :: ts,hl,hq,hn=>by
  simp only [argsOf,List.flatMap_cons,List.append_eq_nil_iff] at hn
  obtain⟨h1,h2⟩:=args_all i (tlM m) xs ts (by simpa using hl) hq.2 hn.2
  refine⟨by simp [argsOf,h1],fun k hv hc=>?_⟩
  cases k with
  | zero=>exact argM_all i.mem (ev_rep i hq.1) hn.1
  | succ k=>exact h2 k (by simpa using hv) (by simpa [argsOf] using hc)
theorem addRefs_nil:∀ {acc l:List Nat},addRefs acc l=[]→acc=[]∧l=[]
 | acc,[],h=>⟨h,rfl⟩
 | acc,x :: l,h=>by
  simp only [addRefs] at h
  split at h
  ·rename_i hx
   have:=(addRefs_nil h).1
   subst this; simp at hx
  ·have:=(addRefs_nil h).1; simp at this
theorem idsOf_nil {args:List LV}(hn:idsOf h args=[]):args.flatMap refsL=[]:=by
 simp only [idsOf] at hn
 have:=(addRefs_nil hn).1
 exact (addRefs_nil this).2
theorem noSl_rep {v:Value}{l:LV}(hl:noSl l=true) (r:RepL w S ρ h v l):RepL w' S' ρ' h' v l:=by
 cases l with
 | one c=>
  cases c with
  | p x=>cases x with
   | val u=>cases r with | p r=>cases r with | val _ hv=>exact .p (.val _ hv)
   | _=>simp [noSl] at hl
  | _=>simp [noSl] at hl
 | agg cs=>
  obtain⟨vs,rfl,r⟩:=r
  refine⟨vs,rfl,r.1,fun i hv hc=>?_⟩
  simp only [noSl,List.all_eq_true] at hl
  have h1:=hl _ (List.getElem_mem hc)
  have h2:=r.2 i hv hc
  generalize cs[i]=c at *
  generalize vs.toList[i]=u at *
  cases c with
  | p x=>cases x with
   | val u'=>cases h2 with | p r=>cases r with | val _ hv=>exact .p (.val _ hv)
   | _=>simp at h1
  | _=>simp at h1
theorem noRefs_rep {v:Value}{l:LV}(hl:(refsL l).isEmpty=true) (r:RepL w S ρ h v l):RepL w S ρ' h' v l:=by
 have:refsL l=[]:=by simpa using hl
 exact r.mono (fun b o hs=>⟨hs,rfl⟩) fun id hid=>by rw [this] at hid; cases hid
theorem retS_rep {v:Value}{ls:List LV}(r:RepR w S ρ h v ls):RepS w S ρ h v (retS ls):=by
 unfold RepR at r
 unfold retS
 split at r
 ·exact r
 ·rename_i hne
  split
  ·rename_i l; exact absurd rfl (hne l)
  ·exact r
theorem repR_map {v:Value}{ls:List LV}(f:LV→LV) (hf:∀u l,l∈ls→RepL w S ρ h u l→RepL w' S' ρ' h' u (f l)) (r:RepR w S ρ h v ls):RepR w' S' ρ' h' v (ls.map f):=by
 match ls,r with
 | [l],r=>exact hf _ _ (by simp) r
 | [],r=>obtain⟨vs,rfl,h1,h2⟩:=r; exact⟨vs,rfl,by simpa using h1,fun i hv hc=>absurd hc (by simp)⟩
 | l1 :: l2 :: ls,r=>
  obtain⟨vs,rfl,h1,h2⟩:=r
  refine⟨vs,rfl,by simpa using h1,fun i hv hc=>?_⟩
  have hc':i<(l1 :: l2 :: ls).length:=by simpa using hc
  have:=hf _ _ (List.getElem_mem hc') (h2 i hv hc')
  have e1:(List.map f (l1 :: l2 :: ls))[i]=f (l1 :: l2 :: ls)[i]:=List.getElem_map ..
  have e2:(f l1 :: List.map f (l2 :: ls))[i]=f (l1 :: l2 :: ls)[i]:=e1
  rw [e2]; exact this
theorem callQ_core (E:Env P){d:Option Nat}{m:List Bool}(i:InvAt w0 B S ρ st a w){f:FuncId}{xs:List Operand}{ts:List TypeId}(hq:(evCallQ P (E.Γ d) m st f xs ts []).2) :
  CallF P f (xs.map a.eval).toArray w fun e w'=>∃v S',e = .returned v∧Grow w w' S S'∧RepS w' S' ρ st.h v (retS (evCallQ P (E.Γ d) m st f xs ts []).1):=by
 simp only [evCallQ,List.append_nil] at hq ⊢
 obtain⟨q1,q2,q3,q4,q5,q6,q7⟩:=hq
 have hrefs:=idsOf_nil q3
 have hok:=E.okΓ d f _ _ q4
 generalize hr:E.Γ d f (argsOf P st m xs ts) []=r at *
 rw [q5] at hok
 have hall:∀l∈r.rets,(refsL l).isEmpty=true:=by simpa [List.all_eq_true] using q7
 have mono:∀ {R R':Ending→World→Prop},CallF P f (xs.map a.eval).toArray w R→(∀e w',R e w'→R' e w')→CallF P f (xs.map a.eval).toArray w R':=by
  intro R R' hc hm
  unfold CallF at *
  split at hc
  ·exact hc.mono hm
  ·exact hm _ _ hc
  ·exact hc
 have memE:∀ (T:Seen),(∀b o,T b o→b<w.heap.size)→Mem w [] w T (fun _=>none) (heapOf []):=fun T hT=>
  ⟨(fun id blk hb=>by simp [heapOf] at hb),fun _ _=>rfl,(fun _ _ _ h=>by cases h),(fun _ _ _ _ _ h=>by cases h),fun b o h=>⟨hT b o h,(fun _ _ h=>by cases h)⟩,Nat.le_refl _,fun _ _ _=>rfl,Calm.refl w,RowsKept.refl w,i.mem.tabAt (fun _ h=>by cases h)⟩
 have hH:heapOf []=(fun _=>none):=by funext k; simp [heapOf]
 rcases q6 with⟨hns,_⟩ | hnv
 ·refine mono (hok w (xs.map a.eval).toArray (fun b _=>b<w.heap.size) (fun _=>none) [] (memE _ fun b o h=>h) (by rw [hH]; exact args_all i m xs ts q2 q1 hrefs)) ?_
  rintro e w' ⟨v,S',ρ',rfl,hm,_,_,_,_,hr'⟩
  refine⟨v,S,rfl,⟨hm.size,fun b hb=>hm.frame b hb (by simp),fun _ _ h=>h,fun _ _ h=>.inl h,hm.calm⟩,?_⟩
  refine retS_rep ?_
  have:=repR_map (w':=w') (S':=S) (ρ':=ρ) (h':=st.h) id (fun u l hl r=>noSl_rep (List.all_eq_true.1 hns l hl) r) hr'
  simpa using this
 ·refine mono (hok w (xs.map a.eval).toArray S (fun _=>none) [] (memE _ fun b o h=>(i.mem.sep b o h).1) (by
   rw [hH]
   have:=args_rep (P:=P) i m xs ts q2 q1 (vwOk_all m xs hnv)
   exact this.mono (fun b o hs=>⟨hs,rfl⟩) fun id hid=>by rw [hrefs] at hid; cases hid)) ?_
  rintro e w' ⟨v,S',ρ',rfl,hm,h1,h2,_,_,hr'⟩
  refine⟨v,S',rfl,⟨hm.size,fun b hb=>hm.frame b hb (by simp),h1,fun b o hs=>?_,hm.calm⟩,?_⟩
  ·rcases h2 b o hs with h | h
   ·exact .inl h
   ·exact .inr ⟨h,(hm.sep b o hs).1⟩
  ·refine retS_rep ?_
   have:=repR_map (w':=w') (S':=S') (ρ':=ρ) (h':=st.h) id (fun u l hl r=>noRefs_rep (hall l hl) r) hr'
   simpa using this
theorem wp_callF {K:Act→World→Prop}{Q:Exit→Act→World→Prop}{f:FuncId}{vs:Array Value}{R:Ending→World→Prop}(hrun:(execOp a.eval o).run P w=(callFunc f vs).run P w) (hc:CallF P f vs w R)
  (hK:∀e w',R e w'→∃v,e = .returned v∧K (a.put o.dst v) w'):o.wp P a w K Q:=by
 unfold Oper.wp
 rw [hrun]
 unfold CallF at hc
 generalize (callFunc f vs).run P w=r at *
 split at hc
 ·simp only [Oper.upon]
  refine hc.mono fun e w' hR=>?_
  obtain⟨v,rfl,hk⟩:=hK e w' hR
  exact hk
 ·obtain⟨v',hv,hk⟩:=hK _ _ hc
  cases hv
  exact hk
 ·exact hc.elim
theorem run_static {c:Call}(ho:o.op = .call c){f:FuncId}(hc:c.callee = .value (.func f)):(execOp a.eval o).run P w=(callFunc f (c.args.toList.map a.eval).toArray).run P w:=by
 have:(c.args.toList.map a.eval).toArray=c.args.map a.eval:=by apply Array.ext'; simp
 rw [this]
 simp [execOp,ho,resolve,hc,Act.eval,Deferred.ofValue,invoke]
theorem run_closure {c:Call}(ho:o.op = .call c){t:Nat}(hc:c.callee = .value (.tmp t)){f:FuncId}{caps:Array Value}(hv:a.eval (.tmp t) = .func (.func f) #[] caps) :
  (execOp a.eval o).run P w=(callFunc f ((c.args.toList.map a.eval).toArray++caps)).run P w:=by
 have:(c.args.toList.map a.eval).toArray=c.args.map a.eval:=by apply Array.ext'; simp
 rw [this]
 simp [execOp,ho,resolve,hc,hv,Deferred.ofValue,invoke]
theorem evQ_sound (E:Env P) (i:InvAt w0 B S ρ st a w) (hq:(evQ P E st o).2):Yields P o a w S ρ st.h (evQ P E st o).1:=by
 unfold evQ at hq ⊢
 cases ho:o.op with
 | call c=>
  simp only [ho] at hq ⊢
  split at hq
  ·rename_i f hc
   intro K Q hK
   refine wp_callF (run_static ho hc) (callQ_core E i hq) ?_
   rintro e w' ⟨v,S',rfl,hg,hr⟩
   exact⟨v,rfl,hK v w' S' hg hr⟩
  ·rename_i t hc
   split at hq
   ·rename_i f hX
    obtain⟨hq1,hq⟩:=hq
    have rt:=ev_rep i hq1
    rw [hX] at rt
    obtain⟨vs,hv,hn,_⟩:=repC_fn rt
    have hvs:vs = #[]:=Array.eq_empty_of_size_eq_zero (by simpa using hn)
    subst hvs
    intro K Q hK
    refine wp_callF (by rw [run_closure ho hc hv]; simp) (callQ_core E i hq) ?_
    rintro e w' ⟨v,S',rfl,hg,hr⟩
    exact⟨v,rfl,hK v w' S' hg hr⟩
   ·exact hq.elim
  ·exact evVal_sound E i hq
 | assign x=>
  simp only [ho] at hq ⊢
  by_cases hx:isNilConst x=true
  ·rw [if_pos hx]
   have hxe:x = .const (.slice none 0 0):=by
    cases x with
    | const v=>unfold isNilConst at hx; split at hx <;> simp_all
    | _=>simp [isNilConst] at hx
   subst hxe
   exact zI9 (v:=.slice none 0 0) (by simp [execOp,ho,Act.eval]) (RepC.p .nil)
  ·rw [if_neg hx] at hq ⊢
   exact evVal_sound E i hq
 | _=>simp only [ho] at hq ⊢; exact evVal_sound E i hq
end
end Go.LS
