/-
  The framework LS, part 19: regions that draw their order: quiet operations first, then a chain of others.
  No condition: lemmas.
-/
import Derived.Test.YtmgjidfafnajnaaGreatLs18
namespace Go.LS
set_option linter.all false
set_option linter.unusedSimpArgs false
set_option linter.unusedVariables false
section
variable {P:Program} {o:Oper} {st st':LState}
theorem ev_congr {x:Operand}(h:∀t,x = .tmp t→st'.s t=st.s t):ev st' x=ev st x:=by
 cases x with
 | tmp t=>simp only [ev,h t rfl]
 | _=>rfl
theorem evS_congr {x:Operand}(h:∀t,x = .tmp t→st'.s t=st.s t):evS st' x=evS st x:=by
 cases x with
 | tmp t=>simp only [evS,h t rfl]
 | _=>rfl
theorem argsOf_congr (hh:st'.h=st.h):∀ (m:List Bool) (xs:List Operand) (ts:List TypeId),(∀x∈xs,ev st' x=ev st x)→argsOf P st' m xs ts=argsOf P st m xs ts
 | _,[],ts,_=>by cases ts <;> rfl
 | _,x :: xs,[],_=>rfl
 | m,x :: xs,t :: ts,h=>by
  simp only [argsOf,hh,h x (by simp),argsOf_congr hh (tlM m) xs ts fun y hy=>h y (by simp [hy])]
theorem argsVc_congr:∀ (xs:List Operand),(∀x∈xs,ev st' x=ev st x)→argsVc st' xs=argsVc st xs
 | [],_=>rfl
 | x :: xs,h=>by simp only [argsVc,h x (by simp),argsVc_congr xs fun y hy=>h y (by simp [hy])]
theorem evVal_congr {Θ:TypeId→Option (List Value)}(hh:st'.h=st.h) (h:∀x∈o.op.operands,ev st' x=ev st x∧evS st' x=evS st x):evVal P Θ st' o=evVal P Θ st o:=by
 obtain⟨dst,op,type,pos,after,guard⟩:=o
 have pairs:∀ps:Array (Nat×Operand),(∀p∈ps.toList,ev st' p.2=ev st p.2)→evParts st' ps=evParts st ps:=fun ps hp=>by
  unfold evParts
  exact List.map_congr_left fun p hm=>by obtain⟨i,x⟩:=p; simp only [hp (i,x) hm]
 cases op <;> simp only [Op.operands] at h <;> simp only [evVal,hh]
 case move x=>exact (h x (by simp)).2
 case assign x=>exact (h x (by simp)).2
 case extract x k=>rw [(h x (by simp)).2]
 case pick c x y=>rw [(h c (by simp)).1,(h x (by simp)).1,(h y (by simp)).1]
 case nilCheck x=>rw [(h x (by simp)).1]
 case binOp op t x y t'=>rw [(h x (by simp)).1,(h y (by simp)).1]
 case unOp op t x=>rw [(h x (by simp)).1]
 case convert s d x=>rw [(h x (by simp)).1]
 case index t x y=>rw [(h x (by simp)).1,(h y (by simp)).1]
 case indexAddr t x y=>rw [(h x (by simp)).1,(h y (by simp)).1]
 case fieldAddr t x f=>rw [(h x (by simp)).1]
 case field t x f=>rw [(h x (by simp)).1]
 case load t x=>rw [(h x (by simp)).1]
 case build t ps=>rw [pairs ps fun p hp=>(h p.2 (by simp; exact⟨p.1,by simpa using hp⟩)).1]
 case buildSlice t n ps=>rw [pairs ps fun p hp=>(h p.2 (by simp; exact⟨p.1,by simpa using hp⟩)).1]
 case slice t x lo hi mx=>
  have e1:lo.map (ev st')=lo.map (ev st):=by cases lo with | none=>rfl | some y=>simp only [Option.map_some,(h y (by simp)).1]
  have e2:hi.map (ev st')=hi.map (ev st):=by cases hi with | none=>rfl | some y=>simp only [Option.map_some,(h y (by simp)).1]
  have e3:mx.map (ev st')=mx.map (ev st):=by cases mx with | none=>rfl | some y=>simp only [Option.map_some,(h y (by simp)).1]
  rw [(h x (by simp)).1,e1,e2,e3]
 case makeFunc fn first captured=>
  have e1:captured.toList.map (ev st')=captured.toList.map (ev st):=List.map_congr_left fun x hx=>(h x (by simp; exact .inr (by simpa using hx))).1
  rw [e1]
 case call c=>
  have ha:∀x∈c.args.toList,ev st' x=ev st x:=fun x hx=>(h x (by simp only [Call.operands]; exact Array.mem_append.2 (.inr (by simpa using hx)))).1
  have e1:c.args.toList.map (ev st')=c.args.toList.map (ev st):=List.map_congr_left ha
  rw [e1]
  split
  ·split
   ·rename_i x t hx ht
    rw [ha x (by rw [hx]; simp)]
   ·rfl
  ·rfl
  ·rfl
  ·rfl
theorem evQ_congr (E:Env P) (hh:st'.h=st.h) (h:∀x∈o.op.operands,ev st' x=ev st x∧evS st' x=evS st x):evQ P E st' o=evQ P E st o:=by
 unfold evQ
 rw [evVal_congr hh h]
 cases ho:o.op with
 | call c=>
  rw [ho] at h
  simp only [Op.operands] at h
  have ha:∀x∈c.args.toList,ev st' x=ev st x:=fun x hx=>(h x (by simp only [Call.operands]; exact Array.mem_append.2 (.inr (by simpa using hx)))).1
  have hq:∀f,evCallQ P (E.Γ o.dst) (E.M o.dst f) st' f c.args.toList c.argTypes.toList []=evCallQ P (E.Γ o.dst) (E.M o.dst f) st f c.args.toList c.argTypes.toList []:=fun f=>by
   have e1:(c.args.toList.all fun x => !isVw (ev st' x).1)=(c.args.toList.all fun x => !isVw (ev st x).1):=by
    rw [Bool.eq_iff_iff,List.all_eq_true,List.all_eq_true]
    exact⟨fun hx x hm=>by rw [← ha x hm]; exact hx x hm,fun hx x hm=>by rw [ha x hm]; exact hx x hm⟩
   simp only [evCallQ,argsOf_congr hh _ _ _ ha,argsVc_congr _ ha,hh,quietArgs,e1]
  simp only
  split
  ·rw [hq]
  ·rename_i t hc
   have ht:ev st' (.tmp t)=ev st (.tmp t):=(h (.tmp t) (by simp [Call.operands,hc])).1
   rw [ht]
   split
   ·rw [hq]
   ·rfl
  ·rfl
 | assign x=>rfl
 | _=>rfl
theorem guardOf_congr {ops:Array Oper}(hn:st'.n=st.n) (h:∀t∈o.looksAt ops,st'.s t=st.s t):guardOf ops st' o=guardOf ops st o:=by
 unfold guardOf
 split
 ·rfl
 ·rename_i j want hg
  split
  ·rename_i t ht
   rw [h t (by unfold Oper.looksAt; rw [hg]; simp only; rw [ht]; simp),hn]
  ·rfl
theorem stepQ_congr (E:Env P){ops:Array Oper}(hh:st'.h=st.h) (hn:st'.n=st.n) (h:∀t∈o.looksAt ops,st'.s t=st.s t) :
  (stepQ P E ops st' o).2=(stepQ P E ops st o).2∧∃v,stepQ P E ops st o=(putV st o.dst v,(stepQ P E ops st o).2)∧stepQ P E ops st' o=(putV st' o.dst v,(stepQ P E ops st o).2):=by
 have hev:∀x∈o.op.operands,ev st' x=ev st x∧evS st' x=evS st x:=fun x hx=>by
  have:∀t,x = .tmp t→st'.s t=st.s t:=fun t ht=>h t (List.mem_append_left _ (List.mem_filterMap.2 ⟨.tmp t,by subst ht; simpa using hx,rfl⟩))
  exact⟨ev_congr this,evS_congr this⟩
 have e1:=evQ_congr E hh hev
 have e2:=guardOf_congr (ops:=ops) hn h
 have e3:dstOk st' o.dst=dstOk st o.dst:=by cases o.dst <;> simp only [dstOk,hn]
 unfold stepQ
 rw [e1,e2]
 split
 ·exact⟨by rw [e3],_,rfl,by rw [e3]⟩
 ·exact⟨by rw [e3],_,rfl,by rw [e3]⟩
theorem putV_h (st:LState) (d:Option Nat) (v:SV):(putV st d v).h=st.h:=by cases d <;> rfl
theorem putV_n (st:LState) (d:Option Nat) (v:SV):(putV st d v).n=st.n:=by cases d <;> rfl
theorem putV_s (st:LState) (d:Option Nat) (v:SV) (t:Nat) (h:d≠some t):(putV st d v).s t=st.s t:=by
 cases d with
 | none=>rfl
 | some d=>simp only [putV,upd]; rw [if_neg fun e=>h (by rw [e])]
theorem putV_comm (st:LState){x y:Option Nat}(v u:SV) (h:∀d,x=some d→y≠some d):putV (putV st x v) y u=putV (putV st y u) x v:=by
 cases x with
 | none=>rfl
 | some d=>
  cases y with
  | none=>rfl
  | some e=>
   have hne:d≠e:=fun he=>h d rfl (he ▸ rfl)
   simp only [putV,LState.mk.injEq,true_and,and_true]
   funext t
   simp only [upd]
   by_cases h1:t=e <;> by_cases h2:t=d <;> simp_all
def maskOf (acc:List Nat) (o:Oper):Nat:=o.after.toList.foldl (fun m e=>if Region.binds .any e then m ||| (2 ^ e.on ||| acc.getD e.on 0) else m) 0
def masksOf:List Oper→List Nat→List Nat
 | [],acc=>acc
 | o :: l,acc=>masksOf l (acc++[maskOf acc o])
def lexWith (ops:Array Oper) (m:Nat) (M:List Nat):Bool:=
 (List.range ops.size).all fun k=>
  (match ops[k]? with | some o=>o.after.all fun e => !Region.binds .any e||decide (e.on<k) | none=>true) &&
  if k<m then (List.range m).all fun j=>decide (j≤k)||(M.getD j 0).testBit k||(match ops[k]?,ops[j]? with | some a,some b=>a.apart ops b | _,_=>true)
  else (List.range k).all fun j=>(M.getD k 0).testBit j
def lexOK (ops:Array Oper) (m:Nat):Bool:=lexWith ops m (masksOf ops.toList [])
def stepAny (P:Program) (E:Env P) (ops:Array Oper) (m i:Nat) (st:LState) (o:Oper):LState×Prop:=if i<m then stepQ P E ops st o else step1 P E ops st o
def anyL (P:Program) (E:Env P) (ops:Array Oper) (m:Nat) (Qs:LState→Prop):Nat→Array Bool→LState→Prop
 | 0,listed,st=>Region.ready .any ops listed=[]∧Qs st
 | fuel+1,listed,st=>(Region.ready .any ops listed=[]→Qs st)∧∀i∈Region.ready .any ops listed,∀o,ops[i]?=some o→(stepAny P E ops m i st o).2∧anyL P E ops m Qs fuel (listed.setIfInBounds i true) (stepAny P E ops m i st o).1
theorem anyL_sound (E:Env P){ops:Array Oper}{m:Nat}{Qs:LState→Prop}{w0:World}{B:List Nat}{S0:Seen}{R0:Home}{Q:Exit→Act→World→Prop}
  (hQ:∀s a w,Qs s→Inv w0 B S0 R0 s a w→Q .normal a w):∀ (fuel:Nat) (listed:Array Bool) (st:LState) (a:Act) (w:World),anyL P E ops m Qs fuel listed st→Inv w0 B S0 R0 st a w→wpAny P .any ops Q fuel listed a w
 | 0,_,st,a,w,h,hi=>⟨h.1,hQ st a w h.2 hi⟩
 | fuel+1,listed,st,a,w,h,hi=>by
  refine⟨fun h0=>hQ st a w (h.1 h0) hi,fun i hir=>?_⟩
  unfold wpOp
  split
  ·rename_i ho
   obtain⟨_,oi,hoi,_⟩:=mem_ready.1 hir
   rw [ho] at hoi; cases hoi
  ·rename_i o ho
   obtain⟨h1,h2⟩:=h.2 i hir o ho
   have hop:OpOK P ops o a w (fun a' w'=>Inv w0 B S0 R0 (stepAny P E ops m i st o).1 a' w'):=by
    unfold stepAny at h1 ⊢
    split
    ·rename_i hm; rw [if_pos hm] at h1; exact stepQ_sound E hi h1
    ·rename_i hm; rw [if_neg hm] at h1; exact step1_sound E hi h1
   have:=hop Q
   split
   ·rename_i hw
    rw [if_pos hw] at this
    exact .inl (Oper.wp_mono (fun a' w' hi'=>anyL_sound E hQ fuel _ _ a' w' h2 hi') this)
   ·rename_i hw
    rw [if_neg hw] at this
    exact anyL_sound E hQ fuel _ _ _ _ h2 this
def Closed (ops:Array Oper) (listed:Array Bool):Prop:=∀j o,ops[j]?=some o→listed.getD j false=true→∀e∈o.after,Region.binds .any e=true→listed.getD e.on false=true
def MaskOK (ops:Array Oper) (listed:Array Bool) (k M:Nat):Prop:=(∀o,ops[k]?=some o→∀e∈o.after,Region.binds .any e=true→listed.getD e.on false=true)→∀j,M.testBit j=true→listed.getD j false=true
theorem maskOf_ok {ops:Array Oper}{listed:Array Bool}(hc:Closed ops listed){acc:List Nat}(hacc:∀k M,acc[k]?=some M→MaskOK ops listed k M){k:Nat}{o:Oper}(ho:ops[k]?=some o):MaskOK ops listed k (maskOf acc o):=by
 intro hl
 have hl':=hl o ho
 have key:∀ (es:List Edge) (m:Nat),(∀e∈es,e∈o.after)→(∀j,m.testBit j=true→listed.getD j false=true) →
   ∀j,(es.foldl (fun m e=>if Region.binds .any e then m ||| (2 ^ e.on ||| acc.getD e.on 0) else m) m).testBit j=true→listed.getD j false=true:=by
  intro es
  induction es with
  | nil=>intro m _ hm j hj; exact hm j hj
  | cons e es ih=>
   intro m hes hm j hj
   refine ih _ (fun e' he'=>hes e' (by simp [he'])) ?_ j hj
   intro j hj
   by_cases hb:Region.binds .any e=true
   ·have hon:=hl' e (hes e (by simp)) hb
    simp only [hb,if_true,Nat.testBit_or,Bool.or_eq_true] at hj
    rcases hj with hj | hj | hj
    ·exact hm j hj
    ·rw [Nat.testBit_two_pow] at hj
     simp only [decide_eq_true_eq] at hj
     rw [← hj]; exact hon
    ·cases ha:acc[e.on]? with
     | none=>simp [List.getD,ha] at hj
     | some M=>
      have hg:acc.getD e.on 0=M:=by simp [List.getD,ha]
      rw [hg] at hj
      exact hacc e.on M ha (fun o' ho' e' he' hb'=>hc e.on o' ho' hon e' he' hb') j hj
   ·simp only [if_neg hb] at hj; exact hm j hj
 exact key o.after.toList 0 (fun e he=>by simpa using he) (fun j hj=>by simp at hj)
theorem masksOf_ok {ops:Array Oper}{listed:Array Bool}(hc:Closed ops listed):∀ (l:List Oper) (acc:List Nat),(∃pre,ops.toList=pre++l∧pre.length=acc.length)→(∀k M,acc[k]?=some M→MaskOK ops listed k M) →
  ∀k M,(masksOf l acc)[k]?=some M→MaskOK ops listed k M
 | [],_,_,hacc=>hacc
 | o :: l,acc,⟨pre,h1,h2⟩,hacc=>by
  refine masksOf_ok hc l (acc++[maskOf acc o]) ⟨pre++[o],by simp [h1],by simp [h2]⟩ ?_
  intro k M hk
  by_cases hlt:k<acc.length
  ·rw [List.getElem?_append_left hlt] at hk; exact hacc k M hk
  ·rw [List.getElem?_append_right (by omega)] at hk
   have hk0:k - acc.length=0:=by
    cases hd:k - acc.length with
    | zero=>rfl
    | succ n=>rw [hd] at hk; simp at hk
   rw [hk0] at hk
   simp only [List.getElem?_cons_zero,Option.some.injEq] at hk
   subst hk
   have:k=acc.length:=by omega
   subst this
   refine maskOf_ok hc hacc ?_
   rw [← Array.getElem?_toList,h1,← h2,List.getElem?_append_right (by omega)]
   simp
theorem masks_listed {ops:Array Oper}{listed:Array Bool}(hc:Closed ops listed) (j k:Nat) (hj:∀o,ops[j]?=some o→∀e∈o.after,Region.binds .any e=true→listed.getD e.on false=true) (h:((masksOf ops.toList []).getD j 0).testBit k=true):listed.getD k false=true:=by
 cases ha:(masksOf ops.toList [])[j]? with
 | none=>simp [List.getD,ha] at h
 | some M=>
  have hg:(masksOf ops.toList []).getD j 0=M:=by simp [List.getD,ha]
  rw [hg] at h
  exact masksOf_ok hc ops.toList [] ⟨[],rfl,rfl⟩ (fun k M hk=>by simp at hk) j M ha hj k h
theorem closed_set {ops:Array Oper}{listed:Array Bool}{i:Nat}(hc:Closed ops listed) (hi:i∈Region.ready .any ops listed):Closed ops (listed.setIfInBounds i true):=by
 obtain⟨_,oi,hoi,hall⟩:=mem_ready.1 hi
 intro j o ho hj e he hb
 by_cases hij:i=j
 ·subst hij
  rw [hoi] at ho; cases ho
  exact getD_set_true (hall e he hb)
 ·rw [getD_set_ne false hij] at hj
  exact getD_set_true (hc j o ho hj e he hb)
def runL (P:Program) (E:Env P) (ops:Array Oper) (m:Nat) (Qs:LState→Prop):List Nat→LState→Prop
 | [],st=>Qs st
 | i :: l,st=>∀o,ops[i]?=some o→(stepAny P E ops m i st o).2∧runL P E ops m Qs l (stepAny P E ops m i st o).1
theorem runL_first (E:Env P){ops:Array Oper}{m:Nat}{R:Nat→Nat→Bool}{Qs:LState→Prop}{i:Nat}{oi:Oper}(hoi:ops[i]?=some oi)
  (hap:∀k j a b,k<j→j<m→ops[k]?=some a→ops[j]?=some b→R j k=true∨a.apart ops b=true) (hch:∀k,k<i→m≤i→R i k=true) :
  ∀ (rest:List Nat) (st:LState),rest.Pairwise (· < ·)→(∀k∈rest,k<ops.size)→(∀k∈rest,k≠i→R i k=false)→i∈rest→runL P E ops m Qs rest st →
   (stepAny P E ops m i st oi).2∧runL P E ops m Qs (rest.filter (· ≠ i)) (stepAny P E ops m i st oi).1
 | [],_,_,_,_,h,_=>by cases h
 | k :: rest,st,hs,hb,hn,hm,hr=>by
  by_cases hk:k=i
  ·subst hk
   have he:(k :: rest).filter (· ≠ k)=rest:=by
    rw [List.filter_cons]
    simp only [ne_eq,not_true_eq_false,decide_false,Bool.false_eq_true,if_false]
    exact List.filter_eq_self.2 fun x hx=>by
     have:=(List.pairwise_cons.1 hs).1 x hx
     simp only [ne_eq,decide_not,Bool.not_eq_eq_eq_not,Bool.not_true,decide_eq_false_iff_not]; omega
   rw [he]
   exact hr oi hoi
  ·have hir:i∈rest:=by
    rcases List.mem_cons.1 hm with h | h
    ·exact absurd h.symm hk
    ·exact h
   have hlt:=(List.pairwise_cons.1 hs).1 i hir
   have hnb:=hn k (by simp) hk
   have him:i<m:=Nat.lt_of_not_le fun h=>by rw [hch k hlt h] at hnb; cases hnb
   obtain⟨ok,hok⟩:∃ok,ops[k]?=some ok:=⟨_,Array.getElem?_eq_getElem (hb k (by simp))⟩
   have hapk:ok.apart ops oi=true:=(hap k i ok oi hlt him hok hoi).resolve_left (by rw [hnb]; simp)
   obtain⟨hk1,hk2⟩:=hr ok hok
   have hkm:k<m:=by omega
   have ih:=runL_first E hoi hap hch rest _ (List.pairwise_cons.1 hs).2 (fun x hx=>hb x (by simp [hx])) (fun x hx=>hn x (by simp [hx])) hir hk2
   simp only [stepAny,if_pos him,if_pos hkm] at hk1 ih ⊢
   unfold Oper.apart at hapk
   simp only [Bool.and_eq_true] at hapk
   have hd1:∀d,ok.dst=some d→d∉oi.looksAt ops∧oi.dst≠some d:=fun d hd=>by
    have:=hapk.1; rw [hd] at this
    simpa using this
   have hd2:∀d,oi.dst=some d→d∉ok.looksAt ops:=fun d hd=>by
    have:=hapk.2; rw [hd] at this
    simpa using this
   obtain⟨c1,vk,e1,_⟩:=stepQ_congr (st:=st) (st':=st) E (ops:=ops) (o:=ok) rfl rfl fun _ _=>rfl
   obtain⟨c2,vi,e2,e3⟩:=stepQ_congr (st:=st) (st':=putV st ok.dst vk) E (ops:=ops) (o:=oi) (putV_h ..) (putV_n ..) fun t ht=>putV_s _ _ _ _ fun he=>(hd1 t he).1 ht
   obtain⟨c3,vk',e4,e5⟩:=stepQ_congr (st:=st) (st':=putV st oi.dst vi) E (ops:=ops) (o:=ok) (putV_h ..) (putV_n ..) fun t ht=>putV_s _ _ _ _ fun he=>hd2 t he ht
   have hst1:(stepQ P E ops st ok).1=putV st ok.dst vk:=by rw [e1]
   have hst2:(stepQ P E ops st oi).1=putV st oi.dst vi:=by rw [e2]
   have hst3:putV st ok.dst vk=putV st ok.dst vk':=by rw [← hst1,e4]
   rw [hst1] at ih
   have hfin:(stepQ P E ops (putV st oi.dst vi) ok).1=(stepQ P E ops (putV st ok.dst vk) oi).1:=by
    rw [e5,e3]
    simp only
    rw [hst3]
    exact (putV_comm st vk' vi fun d hd=>(hd1 d hd).2).symm
   refine⟨by rw [← c2]; exact ih.1,?_⟩
   rw [List.filter_cons,if_pos (by simpa using hk)]
   intro o' ho'
   rw [hok] at ho'; cases ho'
   simp only [stepAny,if_pos hkm]
   rw [hst2]
   refine⟨by rw [c3]; exact hk1,?_⟩
   rw [hfin]
   exact ih.2
def unlisted (ops:Array Oper) (listed:Array Bool):List Nat:=(List.range ops.size).filter fun k => !listed.getD k false
theorem anyL_of_runL (E:Env P){ops:Array Oper}{m:Nat}{R:Nat→Nat→Bool}{Qs:LState→Prop}
  (hR:∀listed,Closed ops listed→∀j k,(∀o,ops[j]?=some o→∀e∈o.after,Region.binds .any e=true→listed.getD e.on false=true)→R j k=true→listed.getD k false=true)
  (hlow:∀k o,ops[k]?=some o→∀e∈o.after,Region.binds .any e=true→e.on<k)
  (hap:∀k j a b,k<j→j<m→ops[k]?=some a→ops[j]?=some b→R j k=true∨a.apart ops b=true)
  (hch:∀i k,i<ops.size→k<i→m≤i→R i k=true) :
  ∀ (fuel:Nat) (listed:Array Bool) (st:LState),listed.size=ops.size→Closed ops listed→(unlisted ops listed).length=fuel→runL P E ops m Qs (unlisted ops listed) st→anyL P E ops m Qs fuel listed st
 | 0,listed,st,hsz,hc,hl,hr=>by
  have h0:=List.length_eq_zero_iff.1 hl
  rw [h0] at hr
  refine⟨?_,hr⟩
  rw [List.eq_nil_iff_forall_not_mem]
  intro j hj
  obtain⟨h1,o,h2,_⟩:=mem_ready.1 hj
  have hjs:j<ops.size:=(Array.getElem?_eq_some_iff.1 h2).1
  have:j∈unlisted ops listed:=by
   refine List.mem_filter.2 ⟨List.mem_range.2 hjs,?_⟩
   rw [Array.getD,dif_pos (by omega)] at h1 ⊢
   exact congrArg Bool.not h1
  rw [h0] at this; cases this
 | fuel+1,listed,st,hsz,hc,hl,hr=>by
  have hsort:(unlisted ops listed).Pairwise (· < ·):=List.Pairwise.filter _ List.pairwise_lt_range
  refine⟨fun h0=>?_,fun i hi o ho=>?_⟩
  ·exfalso
   cases hu:unlisted ops listed with
   | nil=>rw [hu] at hl; simp at hl
   | cons k rest=>
    have hk:k∈unlisted ops listed:=by rw [hu]; simp
    obtain⟨hk1,hk2⟩:=List.mem_filter.1 hk
    have hks:=List.mem_range.1 hk1
    have hkr:k∈Region.ready .any ops listed:=by
     refine mem_ready.2 ⟨?_,ops[k],Array.getElem?_eq_getElem hks,fun e he hb=>?_⟩
     ·rw [Array.getD,dif_pos (by omega)] at hk2 ⊢
      simpa using hk2
     ·have hlt:=hlow k _ (Array.getElem?_eq_getElem hks) e he hb
      rw [← Bool.not_eq_false]
      intro hf
      have:e.on∈unlisted ops listed:=List.mem_filter.2 ⟨List.mem_range.2 (by omega),by rw [hf]; rfl⟩
      rw [hu] at this hsort
      rcases List.mem_cons.1 this with h | h
      ·omega
      ·have:=(List.pairwise_cons.1 hsort).1 _ h; omega
    rw [h0] at hkr; cases hkr
  ·obtain⟨h1,oi,h2,h3⟩:=mem_ready.1 hi
   rw [ho] at h2; cases h2
   have his:i<ops.size:=(Array.getElem?_eq_some_iff.1 ho).1
   have hiu:i∈unlisted ops listed:=by
    refine List.mem_filter.2 ⟨List.mem_range.2 his,?_⟩
    rw [Array.getD,dif_pos (by omega)] at h1 ⊢
    exact congrArg Bool.not h1
   have hfirst:=runL_first E ho hap (fun k hk hm=>hch i k his hk hm) (unlisted ops listed) st hsort (fun k hk=>List.mem_range.1 (List.mem_filter.1 hk).1)
    (fun k hk _=>by
     rw [← Bool.not_eq_true]
     intro hb
     have:=hR listed hc i k (fun o' ho' e he hb'=>by rw [ho] at ho'; cases ho'; exact h3 e he hb') hb
     have h4:=(List.mem_filter.1 hk).2
     rw [this] at h4; cases h4) hiu hr
   refine⟨hfirst.1,?_⟩
   have hun:unlisted ops (listed.setIfInBounds i true)=(unlisted ops listed).filter (· ≠ i):=by
    unfold unlisted
    rw [List.filter_filter]
    refine List.filter_congr fun k hk=>?_
    by_cases hki:i=k
    ·subst hki
     have:(listed.setIfInBounds i true).getD i false=true:=by
      rw [Array.getD,dif_pos (by simp; omega)]
      simp
     rw [this]; simp
    ·rw [getD_set_ne false hki]
     simp [Ne.symm hki]
   have hlen:((unlisted ops listed).filter (· ≠ i)).length=fuel:=by
    have hnd:(unlisted ops listed).Nodup:=hsort.imp fun h=>Nat.ne_of_lt h
    have:=List.length_erase_of_mem hiu
    rw [hnd.erase_eq_filter] at this
    have e:((unlisted ops listed).filter fun x=>x != i)=(unlisted ops listed).filter (· ≠ i):=List.filter_congr fun x _=>by by_cases h:x=i <;> simp [h]
    rw [← e,this,hl]; rfl
   refine anyL_of_runL E hR hlow hap hch fuel _ _ (by simp [hsz]) (closed_set hc hi) (by rw [hun]; exact hlen) ?_
   rw [hun]
   exact hfirst.2
def evDraw (P:Program) (E:Env P) (ops:Array Oper):Nat→List Oper→LState→Prop→LState×Prop
 | _,[],st,q=>(st,q)
 | 0,o :: l,st,q=>evDraw P E ops 0 l (step1 P E ops st o).1 (q∧(step1 P E ops st o).2)
 | m+1,o :: l,st,q=>evDraw P E ops m l (stepQ P E ops st o).1 (q∧(stepQ P E ops st o).2)
theorem evDraw_q (E:Env P){ops:Array Oper}:∀ (l:List Oper) (m:Nat) (st:LState) (q:Prop),(evDraw P E ops m l st q).2→q
 | [],0,_,_,h=>h
 | [],_+1,_,_,h=>h
 | _ :: l,0,_,_,h=>(evDraw_q E l 0 _ _ h).1
 | _ :: l,m+1,_,_,h=>(evDraw_q E l m _ _ h).1
theorem runL_of_evDraw (E:Env P){ops:Array Oper}{m:Nat}{Qs:LState→Prop}:∀ (l:List Oper) (pre:List Oper) (st:LState) (q:Prop),ops.toList=pre++l →
  (evDraw P E ops (m - pre.length) l st q).2→Qs (evDraw P E ops (m - pre.length) l st q).1→runL P E ops m Qs (List.range' pre.length l.length) st
 | [],pre,st,q,he,hv,hQ=>by
  cases hm:m - pre.length <;> rw [hm] at hQ <;> exact hQ
 | o :: l,pre,st,q,he,hv,hQ=>by
  simp only [List.length_cons,List.range'_succ]
  intro o' ho'
  have hoo:o'=o:=by
   rw [← Array.getElem?_toList,he,List.getElem?_append_right (by omega)] at ho'
   simpa using ho'.symm
  subst hoo
  have hlen:(pre++[o']).length=pre.length+1:=by simp
  unfold stepAny
  cases hm:m - pre.length with
  | zero=>
   rw [hm] at hv hQ
   rw [if_neg (by omega)]
   simp only [evDraw] at hv hQ
   refine⟨(evDraw_q E l 0 _ _ hv).2,?_⟩
   have:=runL_of_evDraw (m:=m) (Qs:=Qs) E l (pre++[o']) (step1 P E ops st o').1 (q∧(step1 P E ops st o').2) (by rw [he]; simp)
   rw [hlen,show m - (pre.length+1)=0 by omega] at this
   exact this hv hQ
  | succ m'=>
   rw [hm] at hv hQ
   rw [if_pos (by omega)]
   simp only [evDraw] at hv hQ
   refine⟨(evDraw_q E l m' _ _ hv).2,?_⟩
   have:=runL_of_evDraw (m:=m) (Qs:=Qs) E l (pre++[o']) (stepQ P E ops st o').1 (q∧(stepQ P E ops st o').2) (by rw [he]; simp)
   rw [hlen,show m - (pre.length+1)=m' by omega] at this
   exact this hv hQ
theorem inv_drawn {w0:World} {B:List Nat} {S0:Seen} {R0:Home} {a:Act} {w:World} {n:Nat} (hi:Inv w0 B S0 R0 st a w):Inv w0 B S0 R0 st a { w with drawn:=n }:=by
 obtain⟨S,ρ,i,h1,h2,h3⟩:=hi
 have g:Grow w { w with drawn:=n } S S:=⟨Nat.le_refl _,fun _ _=>rfl,fun _ _ h=>h,fun _ _ h=>.inl h,⟨rfl,rfl,rfl⟩⟩
 exact⟨S,ρ,⟨i.mem.grow g,i.tmps,i.defers.mono (fun _ _ _=>rfl) (fun id b o h=>.inl ⟨id,o,h⟩),fun t=>(i.slots t).mono (g.seen fun b o h=>(i.mem.sep b o h).1) fun id _=>i.mem.keeps g id⟩,h1,h2,h3⟩
theorem lok_region_draw {V:List Nat}{Q:Exit→LState→Prop}(E:Env P) (m:Nat){id:Nat}{ops:List Oper}{r:LState×Prop}(hmx:P.follows .mixedOrders=true) (hlex:lexOK ops.toArray m=true)
  (he:evDraw P E ops.toArray m ops st True=r) (hv:r.2) (h:Q .normal r.1):LOK P V (.region id ops.toArray true) st Q:=fun w0 B S0 R0 a w hV hi=>by
 subst he
 unfold lexOK lexWith at hlex
 simp only [Bool.and_eq_true,List.all_eq_true,List.mem_range] at hlex
 have hat:∀k o,ops.toArray[k]?=some o→k<ops.toArray.size:=fun k o ho=>(Array.getElem?_eq_some_iff.1 ho).1
 have hrun:anyL P E ops.toArray m (fun s=>s=(evDraw P E ops.toArray m ops st True).1) ops.toArray.size (Array.replicate ops.toArray.size false) st:=by
  have hun:unlisted ops.toArray (Array.replicate ops.toArray.size false)=List.range ops.toArray.size:=by
   unfold unlisted
   refine List.filter_eq_self.2 fun k hk=>?_
   rw [Array.getD]; split <;> simp
  refine anyL_of_runL (R:=fun i k=>((masksOf ops.toArray.toList []).getD i 0).testBit k) E (fun listed hc j k hj h=>masks_listed hc j k hj h) ?_ ?_ ?_ _ _ _ (by simp) ?_ (by rw [hun]; simp) ?_
  ·intro k o ho e hem hb
   have:=(hlex k (hat k o ho)).1
   rw [ho] at this
   simp only [Array.all_eq_true',Bool.or_eq_true,Bool.not_eq_true',decide_eq_true_eq] at this
   rcases this e hem with h | h
   ·rw [hb] at h; cases h
   ·exact h
  ·intro k j x y hkj hjm hk hj
   have:=(hlex k (hat k x hk)).2
   rw [if_pos (by omega)] at this
   have:=List.all_eq_true.1 this j (List.mem_range.2 hjm)
   rw [hk,hj] at this
   simp only [Bool.or_eq_true,decide_eq_true_eq] at this
   rcases this with (h | h) | h
   ·omega
   ·exact .inl h
   ·exact .inr h
  ·intro i k hi hki hmi
   have:=(hlex i hi).2
   rw [if_neg (by omega)] at this
   exact List.all_eq_true.1 this k (List.mem_range.2 hki)
  ·intro j o ho hj
   rw [Array.getD] at hj
   split at hj <;> simp at hj
  ·rw [hun,List.range_eq_range']
   have:=runL_of_evDraw (ops:=ops.toArray) (m:=m) (Qs:=fun s=>s=(evDraw P E ops.toArray m ops st True).1) E ops [] st True rfl
   simpa using this hv rfl
 refine wp_region_any hmx (anyL_sound E (fun s a' w' hs hi'=>⟨_,h,by rw [← hs]; exact hi'⟩) _ _ _ _ _ hrun ?_)
 exact inv_drawn hi
end
end Go.LS
