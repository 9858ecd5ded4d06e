/-
  The framework LS, part 28: regions that draw their order, by what each operation reads and writes.
  No condition: lemmas.
-/
import Derived.Test.YtmgjidfafnajnaaGreatLs27
namespace Go.LS
set_option linter.all false
set_option linter.unusedSimpArgs false
set_option linter.unusedVariables false
def updS:List (Nat×SV)→(Nat→SV)→Nat→SV
 | [],s=>s
 | (t,v) :: r,s=>updS r (upd s t v)
def updH:List (Nat×Option Blk)→Heap→Heap
 | [],s=>s
 | (t,v) :: r,s=>updH r (upd s t v)
structure Eff where
 rs:List (Nat×SV)
 rb:List (Nat×Option Blk)
 ws:List (Nat×SV)
 wb:List (Nat×Option Blk)
 k:Option Nat
def noC (id:Nat):CV→Bool
 | .vw i => !(i==id)
 | .ptr i _ => !(i==id)
 | .ap i _ _ => !(i==id)
 | .fn _ ids => !(ids.contains id)
 | _=>true
def noL (id:Nat):LV→Bool
 | .one c=>noC id c
 | .agg cs=>cs.all (noC id)
def noS (id:Nat):SV→Bool
 | .dead=>true
 | .x v=>noL id v
 | .tup vs=>vs.all (noL id)
 | .wh _ v=>noL id v
def noB (id:Nat):Option Blk→Bool
 | some (.var cs)=>cs.all (noC id)
 | _=>true
def isNew (id:Nat) (rb:List (Nat×Option Blk)):Bool:=rb.any fun p=>p.1==id&&p.2.isNone
def dsOf (rs:List (Nat×SV)) (rb:List (Nat×Option Blk)):Option Nat→List (Nat×SV)
 | none=>[]
 | some id=>if isNew id rb=true then [] else (rs.filter fun p => !noS id p.2).map fun p=>(p.1,p.2.map (killC id))
def dbOf (rb:List (Nat×Option Blk)):Option Nat→List (Nat×Option Blk)
 | none=>[]
 | some id=>if isNew id rb=true then [] else (rb.filter fun p => !noB id p.2).map fun p=>(p.1,p.2.map (Blk.map (killC id)))
def Eff.wsA (e:Eff):List (Nat×SV):=dsOf e.rs e.rb e.k++e.ws
def Eff.wbA (e:Eff):List (Nat×Option Blk):=dbOf e.rb e.k++e.wb
def Eff.app (e:Eff) (st:LState):LState:=⟨st.n,updS e.wsA st.s,updH e.wbA st.h⟩
def killO (k:Option Nat) (s:Nat→SV):Nat→SV:=match k with | none=>s | some id=>killS id s
def killHO (k:Option Nat) (h:Heap):Heap:=match k with | none=>h | some id=>killH id h
def Eff.appK (e:Eff) (st:LState):LState:=⟨st.n,updS e.ws (killO e.k st.s),updH e.wb (killHO e.k st.h)⟩
def allO (st:LState):List (Nat×Option Blk)→Prop
 | []=>True
 | (t,v) :: r=>st.h t=v∧allO st r
def Eff.reads (e:Eff) (st:LState):Prop:=allS st e.rs∧allO st e.rb
def EffOK (P:Program) (E:Env P) (ops:Array Oper) (n:Nat) (o:Oper) (e:Eff):Prop:=
 ∀st:LState,st.n=n→e.reads st→(step1 P E ops st o).2∧(step1 P E ops st o).1=e.appK st
def wsK (e:Eff):List Nat:=e.wsA.map (·.1)
def wbK (e:Eff):List Nat:=e.wbA.map (·.1)
def rsK (e:Eff):List Nat:=e.rs.map (·.1)
def rbK (e:Eff):List Nat:=e.rb.map (·.1)
def okK1 (effs:List Eff) (l:List (Nat×SV)) (hl:List (Nat×Blk)) (e:Eff) (id:Nat):Bool:=
 (e.wb.map (·.1)).contains id&&(effs.all fun e'=>(e'.wsA.all fun p=>(wsK e).contains p.1||noS id p.2)&&(e'.wbA.all fun p=>(wbK e).contains p.1||noB id p.2)) &&
  (l.all fun p=>(wsK e).contains p.1||noS id p.2)&&(hl.all fun p=>(wbK e).contains p.1||noB id (some p.2))
def okK (effs:List Eff) (l:List (Nat×SV)) (hl:List (Nat×Blk)):Bool:=
 effs.all fun e=>match e.k with | none=>true | some id=>isNew id e.rb||okK1 effs l hl e id
theorem upd_self {α:Type}(s:Nat→α) (t:Nat) (v:α) (h:s t=v):upd s t v=s:=by
 funext u
 by_cases e:u=t
 ·subst e; simp [upd,h]
 ·simp [upd,e]
theorem upd_same {α:Type}(s:Nat→α) (t:Nat) (v:α):upd s t v t=v:=by simp [upd]
theorem upd_ne {α:Type}(s:Nat→α){t u:Nat}(v:α) (h:u≠t):upd s t v u=s u:=by simp [upd,h]
theorem updS_out:∀ (ws:List (Nat×SV)) (s:Nat→SV) (t:Nat),t∉ws.map (·.1)→updS ws s t=s t
 | [],_,_,_=>rfl
 | (u,v) :: r,s,t,h=>by
  simp only [List.map_cons,List.mem_cons,not_or] at h
  rw [updS,updS_out r _ t h.2,upd_ne _ _ h.1]
theorem updS_in:∀ (ws:List (Nat×SV)) (s s':Nat→SV) (t:Nat),t∈ws.map (·.1)→updS ws s t=updS ws s' t
 | [],_,_,_,h=>by simp at h
 | (u,v) :: r,s,s',t,h=>by
  simp only [updS]
  by_cases hr:t∈r.map (·.1)
  ·exact updS_in r _ _ t hr
  ·simp only [List.map_cons,List.mem_cons] at h
   rcases h with h | h
   ·rw [updS_out r _ t hr,updS_out r _ t hr,h,upd_same,upd_same]
   ·exact absurd h hr
theorem updH_out:∀ (ws:List (Nat×Option Blk)) (s:Heap) (t:Nat),t∉ws.map (·.1)→updH ws s t=s t
 | [],_,_,_=>rfl
 | (u,v) :: r,s,t,h=>by
  simp only [List.map_cons,List.mem_cons,not_or] at h
  rw [updH,updH_out r _ t h.2,upd_ne _ _ h.1]
theorem updH_in:∀ (ws:List (Nat×Option Blk)) (s s':Heap) (t:Nat),t∈ws.map (·.1)→updH ws s t=updH ws s' t
 | [],_,_,_,h=>by simp at h
 | (u,v) :: r,s,s',t,h=>by
  simp only [updH]
  by_cases hr:t∈r.map (·.1)
  ·exact updH_in r _ _ t hr
  ·simp only [List.map_cons,List.mem_cons] at h
   rcases h with h | h
   ·rw [updH_out r _ t hr,updH_out r _ t hr,h,upd_same,upd_same]
   ·exact absurd h hr
section
variable {P:Program} {w0:World} {B:List Nat} {S0:Seen} {R0:Home} {st:LState} {a:Act} {w:World} {S:Seen} {ρ:Place}
def NoRef (id:Nat) (st:LState):Prop:=(∀t,(st.s t).map (killC id)=st.s t∨∃l,st.s t = .wh false l)∧killH id st.h=st.h
theorem noRef_C {h:Heap}{id:Nat}(hd:ρ id=none) (hh:h id=none){v:Value}{c:CV}(r:RepC w S ρ h v c):killC id c=c:=by
 cases r with
 | p r=>rfl
 | fl r=>rfl
 | vw hb hp hrow hcap hroom hm=>
  simp only [killC]; split
  ·rename_i he; subst he; rw [hh] at hb; cases hb
  ·rfl
 | vwnil hb=>
  simp only [killC]; split
  ·rename_i he; subst he; rw [hh] at hb; cases hb
  ·rfl
 | ptr hp=>
  simp only [killC]; split
  ·rename_i he; subst he; rw [hd] at hp; cases hp
  ·rfl
 | ap hb hp=>
  simp only [killC]; split
  ·rename_i he; subst he; rw [hh] at hb; cases hb
  ·rfl
 | ep r=>rfl
 | fn hn hv=>
  simp only [killC]; split
  ·rename_i he
   obtain⟨i,hi,rfl⟩:=List.getElem_of_mem he
   obtain⟨b,o,h1,_⟩:=hv i hi
   rw [hd] at h1; cases h1
  ·rfl
 | dead hv=>rfl
theorem noRef_Cs {h:Heap}{id:Nat}(hd:ρ id=none) (hh:h id=none){vs:List Value}{cs:List CV}(r:RepCs w S ρ h vs cs):cs.map (killC id)=cs:=by
 apply List.ext_getElem
 ·simp
 ·intro i h1 h2
  simp only [List.getElem_map]
  have h3:i<cs.length:=h2
  exact noRef_C hd hh (r.2 i (by rw [r.1]; exact h3) h3)
theorem noRef_L {h:Heap}{id:Nat}(hd:ρ id=none) (hh:h id=none){v:Value}{l:LV}(r:RepL w S ρ h v l):l.map (killC id)=l:=by
 cases l with
 | one c=>simp only [LV.map]; rw [noRef_C hd hh r]
 | agg cs=>obtain⟨vs,_,r⟩:=r; simp only [LV.map]; rw [noRef_Cs hd hh r]
theorem noRef_of (i:InvAt w0 B S ρ st a w){id:Nat}(hh:st.h id=none):NoRef id st:=by
 have hd:=i.mem.dom id hh
 refine⟨fun t=>?_,?_⟩
 ·have r:=i.slots t
  cases hs:st.s t with
  | dead=>exact .inl rfl
  | x l=>rw [hs] at r; left; simp only [SV.map]; rw [noRef_L hd hh r]
  | tup ls=>
   rw [hs] at r
   obtain⟨vs,_,h1,h2⟩:=r
   left; simp only [SV.map]
   congr 1
   apply List.ext_getElem
   ·simp
   ·intro j h3 h4
    simp only [List.getElem_map]
    exact noRef_L hd hh (h2 j (by rw [h1]; exact h4) h4)
  | wh g l=>
   rw [hs] at r
   cases g with
   | false=>exact .inr ⟨l,rfl⟩
   | true=>left; simp only [SV.map]; rw [noRef_L hd hh (r.1 rfl)]
 ·funext j
  unfold killH
  by_cases hj:j=id
  ·subst hj; simp [hh]
  ·rw [if_neg hj]
   cases hb:st.h j with
   | none=>rfl
   | some b=>
    have rb:=i.mem.blocks j b hb
    cases b with
    | var cs=>
     obtain⟨b',c,el,_,_,rc⟩:=rb
     simp only [Option.map_some,Blk.map]
     rw [noRef_Cs hd hh rc]
    | arr e xs=>rfl
theorem unkill {e:Eff}{id:Nat}(hek:e.k=some id) (hnw:isNew id e.rb=true) (nr:NoRef id st) (h:Inv w0 B S0 R0 (e.appK st) a w):Inv w0 B S0 R0 (e.app st) a w:=by
 have hh:killHO e.k st.h=st.h:=by rw [hek]; exact nr.2
 have ea:e.wsA=e.ws:=by simp [Eff.wsA,dsOf,hek,hnw]
 have eb:e.wbA=e.wb:=by simp [Eff.wbA,dbOf,hek,hnw]
 obtain⟨S,ρ,i,rest⟩:=h
 simp only [Eff.appK,hh] at i rest
 simp only [Eff.app,ea,eb]
 refine⟨S,ρ,⟨i.mem,i.tmps,i.defers,fun t=>?_⟩,rest⟩
 have r:=i.slots t
 by_cases ht:t∈e.ws.map (·.1)
 ·have e1:updS e.ws (killO e.k st.s) t=updS e.ws st.s t:=updS_in e.ws _ _ t ht
  simp only [e1] at r
  exact r
 ·have e1:updS e.ws (killO e.k st.s) t=killO e.k st.s t:=updS_out e.ws _ t ht
  simp only
  rw [updS_out e.ws st.s t ht]
  simp only [e1] at r
  simp only [hek,killO,killS] at r
  rcases nr.1 t with h1 | ⟨l,h1⟩
  ·rw [h1] at r; exact r
  ·rw [h1] at r ⊢
   exact⟨fun hf=>(by cases hf),fun _=>r.2 rfl⟩
end
theorem noC_kill {id:Nat}:∀ {c:CV},noC id c=true→killC id c=c:=by
 intro c h
 cases c <;> simp only [noC,killC] at h ⊢ <;> (rw [if_neg]; intro he; first | (subst he; simp at h; done) | (simp at h; exact h he))
theorem noCs_kill {id:Nat}{cs:List CV}(h:cs.all (noC id)=true):cs.map (killC id)=cs:=by
 conv=>rhs; rw [← List.map_id cs]
 exact List.map_congr_left fun c hc=>noC_kill (List.all_eq_true.1 h c hc)
theorem noL_kill {id:Nat}{l:LV}(h:noL id l=true):l.map (killC id)=l:=by
 cases l with
 | one c=>simp only [LV.map]; rw [noC_kill h]
 | agg cs=>simp only [LV.map]; rw [noCs_kill h]
theorem noS_kill {id:Nat}{s:SV}(h:noS id s=true):s.map (killC id)=s:=by
 cases s with
 | dead=>rfl
 | x l=>simp only [SV.map]; rw [noL_kill h]
 | tup ls=>
  simp only [SV.map]
  congr 1
  conv=>rhs; rw [← List.map_id ls]
  exact List.map_congr_left fun c hc=>noL_kill (List.all_eq_true.1 h c hc)
 | wh g l=>simp only [SV.map]; rw [noL_kill h]
theorem noB_kill {id:Nat}{b:Option Blk}(h:noB id b=true):b.map (Blk.map (killC id))=b:=by
 cases b with
 | none=>rfl
 | some b=>
  cases b with
  | var cs=>simp only [Option.map_some,Blk.map]; rw [noCs_kill h]
  | arr e xs=>rfl
theorem updS_val {t:Nat}{v:SV}:∀ (l:List (Nat×SV)) (s:Nat→SV),t∈l.map (·.1)→(∀p∈l,p.1=t→p.2=v)→updS l s t=v
 | [],_,h,_=>by simp at h
 | (u,x) :: r,s,h,hv=>by
  simp only [updS]
  by_cases hr:t∈r.map (·.1)
  ·exact updS_val r _ hr fun p hp=>hv p (List.mem_cons_of_mem _ hp)
  ·rw [updS_out r _ t hr]
   simp only [List.map_cons,List.mem_cons] at h
   rcases h with h | h
   ·subst h; rw [upd_same]; exact hv (t,x) (by simp) rfl
   ·exact absurd h hr
theorem updH_val {t:Nat}{v:Option Blk}:∀ (l:List (Nat×Option Blk)) (s:Heap),t∈l.map (·.1)→(∀p∈l,p.1=t→p.2=v)→updH l s t=v
 | [],_,h,_=>by simp at h
 | (u,x) :: r,s,h,hv=>by
  simp only [updH]
  by_cases hr:t∈r.map (·.1)
  ·exact updH_val r _ hr fun p hp=>hv p (List.mem_cons_of_mem _ hp)
  ·rw [updH_out r _ t hr]
   simp only [List.map_cons,List.mem_cons] at h
   rcases h with h | h
   ·subst h; rw [upd_same]; exact hv (t,x) (by simp) rfl
   ·exact absurd h hr
theorem updS_append:∀ (l m:List (Nat×SV)) (s:Nat→SV),updS (l++m) s=updS m (updS l s)
 | [],_,_=>rfl
 | (t,v) :: l,m,s=>by simp only [List.cons_append,updS]; exact updS_append l m _
theorem updH_append:∀ (l m:List (Nat×Option Blk)) (s:Heap),updH (l++m) s=updH m (updH l s)
 | [],_,_=>rfl
 | (t,v) :: l,m,s=>by simp only [List.cons_append,updH]; exact updH_append l m _
theorem allS_iff {st:LState}:∀ {l:List (Nat×SV)},allS st l↔∀p∈l,st.s p.1=p.2
 | []=>by simp [allS]
 | (t,v) :: r=>by simp [allS,allS_iff (l:=r)]
theorem allO_iff {st:LState}:∀ {l:List (Nat×Option Blk)},allO st l↔∀p∈l,st.h p.1=p.2
 | []=>by simp [allO]
 | (t,v) :: r=>by simp [allO,allO_iff (l:=r)]
theorem kill_eq {e:Eff}{id:Nat}{st:LState}(hek:e.k=some id) (hnw:isNew id e.rb=false) (hr:e.reads st) (hid:id∈e.wb.map (·.1))
  (hs:∀t,t∉wsK e→noS id (st.s t)=true) (hb:∀t,t∉wbK e→noB id (st.h t)=true):e.appK st=e.app st:=by
 have e1:updS e.ws (killO e.k st.s)=updS e.wsA st.s:=by
  funext t
  simp only [Eff.wsA]
  rw [updS_append]
  by_cases h1:t∈e.ws.map (·.1)
  ·exact updS_in e.ws _ _ t h1
  ·rw [updS_out e.ws _ t h1,updS_out e.ws _ t h1]
   simp only [hek,killO,killS]
   by_cases h2:t∈(dsOf e.rs e.rb (some id)).map (·.1)
   ·rw [updS_val (v:=(st.s t).map (killC id)) _ _ h2]
    intro p hp hpt
    simp only [dsOf,hnw,Bool.false_eq_true,if_false,List.mem_map,List.mem_filter] at hp
    obtain⟨q,⟨hq,_⟩,rfl⟩:=hp
    simp only at hpt ⊢
    rw [← hpt,allS_iff.1 hr.1 q hq]
   ·rw [updS_out _ _ t h2]
    refine noS_kill (hs t ?_)
    simp only [wsK,Eff.wsA,hek,List.map_append,List.mem_append,not_or]
    exact⟨h2,h1⟩
 have e2:updH e.wb (killHO e.k st.h)=updH e.wbA st.h:=by
  funext t
  simp only [Eff.wbA]
  rw [updH_append]
  by_cases h1:t∈e.wb.map (·.1)
  ·exact updH_in e.wb _ _ t h1
  ·rw [updH_out e.wb _ t h1,updH_out e.wb _ t h1]
   simp only [hek,killHO,killH]
   rw [if_neg (fun h=>h1 (by subst h; exact hid))]
   by_cases h2:t∈(dbOf e.rb (some id)).map (·.1)
   ·rw [updH_val (v:=(st.h t).map (Blk.map (killC id))) _ _ h2]
    intro p hp hpt
    simp only [dbOf,hnw,Bool.false_eq_true,if_false,List.mem_map,List.mem_filter] at hp
    obtain⟨q,⟨hq,_⟩,rfl⟩:=hp
    simp only at hpt ⊢
    rw [← hpt,allO_iff.1 hr.2 q hq]
   ·rw [updH_out _ _ t h2]
    refine noB_kill (hb t ?_)
    simp only [wbK,Eff.wbA,hek,List.map_append,List.mem_append,not_or]
    exact⟨h2,h1⟩
 simp only [Eff.appK,Eff.app,e1,e2]
section
variable {P:Program} {V:List Nat} {st:LState} {Q:Exit→LState→Prop}
def runX (X:Nat→Bool):Nat→List Eff→LState→LState
 | _,[],st=>st
 | k,e :: es,st=>runX X (k+1) es (if X k then e.app st else st)
def runT:List Eff→LState→LState
 | [],st=>st
 | e :: es,st=>runT es (e.app st)
def okT (n:Nat):List Eff→LState→Prop
 | [],_=>True
 | e :: es,st=>e.reads st∧okT n es (e.app st)
theorem runX_all:∀ (es:List Eff) (k:Nat) (X:Nat→Bool) (st:LState),(∀j,k≤j→j<k+es.length→X j=true)→runX X k es st=runT es st
 | [],_,_,_,_=>rfl
 | e :: es,k,X,st,h=>by
  simp only [runX,runT]
  rw [h k (by omega) (by simp),if_pos rfl]
  exact runX_all es (k+1) X _ fun j h1 h2=>h j (by omega) (by simp at h2 ⊢; omega)
theorem app_n (e:Eff) (st:LState):(e.app st).n=st.n:=rfl
theorem runX_n:∀ (es:List Eff) (k:Nat) (X:Nat→Bool) (st:LState),(runX X k es st).n=st.n
 | [],_,_,_=>rfl
 | e :: es,k,X,st=>by
  simp only [runX]
  rw [runX_n es (k+1) X _]
  split <;> rfl
theorem runX_s (t:Nat):∀ (es:List Eff) (k:Nat) (X Y:Nat→Bool) (s1 s2:LState),s1.s t=s2.s t→(∀j (hj:j<es.length),t∈wsK es[j]→X (k+j)=Y (k+j)) →
  (runX X k es s1).s t=(runX Y k es s2).s t
 | [],_,_,_,_,_,h,_=>h
 | e :: es,k,X,Y,s1,s2,h,hw=>by
  simp only [runX]
  refine runX_s t es (k+1) X Y _ _ ?_ (fun j hj ht=>by
   have:=hw (j+1) (by simp; omega) (by simpa using ht)
   rwa [show k+(j+1)=k+1+j by omega] at this)
  by_cases ht:t∈wsK e
  ·have:=hw 0 (by simp) (by simpa using ht)
   simp only [Nat.add_zero] at this
   rw [this]
   split
   ·exact updS_in e.wsA _ _ t ht
   ·exact h
  ·have e1:∀s:LState,(e.app s).s t=s.s t:=fun s=>updS_out e.wsA s.s t ht
   split <;> split <;> simp [e1,h]
theorem runX_h (t:Nat):∀ (es:List Eff) (k:Nat) (X Y:Nat→Bool) (s1 s2:LState),s1.h t=s2.h t→(∀j (hj:j<es.length),t∈wbK es[j]→X (k+j)=Y (k+j)) →
  (runX X k es s1).h t=(runX Y k es s2).h t
 | [],_,_,_,_,_,h,_=>h
 | e :: es,k,X,Y,s1,s2,h,hw=>by
  simp only [runX]
  refine runX_h t es (k+1) X Y _ _ ?_ (fun j hj ht=>by
   have:=hw (j+1) (by simp; omega) (by simpa using ht)
   rwa [show k+(j+1)=k+1+j by omega] at this)
  by_cases ht:t∈wbK e
  ·have:=hw 0 (by simp) (by simpa using ht)
   simp only [Nat.add_zero] at this
   rw [this]
   split
   ·exact updH_in e.wbA _ _ t ht
   ·exact h
  ·have e1:∀s:LState,(e.app s).h t=s.h t:=fun s=>updH_out e.wbA s.h t ht
   split <;> split <;> simp [e1,h]
theorem updS_P {p:SV→Prop}{t:Nat}:∀ (l:List (Nat×SV)) (s:Nat→SV),p (s t)→(∀q∈l,q.1=t→p q.2)→p (updS l s t)
 | [],_,h,_=>h
 | (u,x) :: r,s,h,hv=>by
  simp only [updS]
  refine updS_P r _ ?_ fun q hq=>hv q (List.mem_cons_of_mem _ hq)
  by_cases hu:t=u
  ·subst hu; rw [upd_same]; exact hv (t,x) (by simp) rfl
  ·rw [upd_ne _ _ hu]; exact h
theorem updH_P {p:Option Blk→Prop}{t:Nat}:∀ (l:List (Nat×Option Blk)) (s:Heap),p (s t)→(∀q∈l,q.1=t→p q.2)→p (updH l s t)
 | [],_,h,_=>h
 | (u,x) :: r,s,h,hv=>by
  simp only [updH]
  refine updH_P r _ ?_ fun q hq=>hv q (List.mem_cons_of_mem _ hq)
  by_cases hu:t=u
  ·subst hu; rw [upd_same]; exact hv (t,x) (by simp) rfl
  ·rw [upd_ne _ _ hu]; exact h
theorem runX_Ps {p:SV→Prop}{t:Nat}:∀ (es:List Eff) (k:Nat) (X:Nat→Bool) (st:LState),p (st.s t)→(∀e∈es,∀q∈e.wsA,q.1=t→p q.2)→p ((runX X k es st).s t)
 | [],_,_,_,h,_=>h
 | e :: es,k,X,st,h,hv=>by
  simp only [runX]
  refine runX_Ps es (k+1) X _ ?_ fun e' he'=>hv e' (List.mem_cons_of_mem _ he')
  split
  ·exact updS_P e.wsA st.s h (hv e (by simp))
  ·exact h
theorem runX_Ph {p:Option Blk→Prop}{t:Nat}:∀ (es:List Eff) (k:Nat) (X:Nat→Bool) (st:LState),p (st.h t)→(∀e∈es,∀q∈e.wbA,q.1=t→p q.2)→p ((runX X k es st).h t)
 | [],_,_,_,h,_=>h
 | e :: es,k,X,st,h,hv=>by
  simp only [runX]
  refine runX_Ph es (k+1) X _ ?_ fun e' he'=>hv e' (List.mem_cons_of_mem _ he')
  split
  ·exact updH_P e.wbA st.h h (hv e (by simp))
  ·exact h
def KillOK (effs:List Eff) (st0:LState):Prop:=∀e∈effs,∀id,e.k=some id→isNew id e.rb=true ∨
 (isNew id e.rb=false∧id∈e.wb.map (·.1)∧(∀t,t∉wsK e→noS id (st0.s t)=true∧∀e'∈effs,∀q∈e'.wsA,q.1=t→noS id q.2=true) ∧
  (∀t,t∉wbK e→noB id (st0.h t)=true∧∀e'∈effs,∀q∈e'.wbA,q.1=t→noB id q.2=true))
theorem mkS_P {p:SV→Prop}(hd:p .dead):∀ (l:List (Nat×SV)) (t:Nat),(∀q∈l,q.1=t→p q.2)→p (mkS l t)
 | [],_,_=>hd
 | (u,x) :: r,t,hv=>by
  simp only [mkS]
  split
  ·rename_i h; exact hv (u,x) (by simp) h.symm
  ·exact mkS_P hd r t fun q hq=>hv q (List.mem_cons_of_mem _ hq)
theorem mkH_P {p:Option Blk→Prop}(hd:p none):∀ (l:List (Nat×Blk)) (t:Nat),(∀q∈l,q.1=t→p (some q.2))→p (mkH l t)
 | [],_,_=>hd
 | (u,x) :: r,t,hv=>by
  simp only [mkH]
  split
  ·rename_i h; exact hv (u,x) (by simp) h.symm
  ·exact mkH_P hd r t fun q hq=>hv q (List.mem_cons_of_mem _ hq)
theorem killOK_of {effs:List Eff}{n:Nat}{l:List (Nat×SV)}{hl:List (Nat×Blk)}(h:okK effs l hl=true):KillOK effs ⟨n,mkS l,mkH hl⟩:=by
 intro e he id hid
 have h1:=List.all_eq_true.1 h e he
 simp only [hid,Bool.or_eq_true] at h1
 cases hnw:isNew id e.rb with
 | true=>exact .inl rfl
 | false=>
  rcases h1 with h1 | h1
  ·rw [hnw] at h1; cases h1
  right
  simp only [okK1,Bool.and_eq_true,List.all_eq_true,Bool.or_eq_true,List.contains_iff_mem] at h1
  obtain⟨⟨⟨h1,h2⟩,h3⟩,h4⟩:=h1
  refine⟨rfl,?_,fun t ht=>⟨?_,fun e' he' q hq hqt=>?_⟩,fun t ht=>⟨?_,fun e' he' q hq hqt=>?_⟩⟩
  ·exact h1
  ·refine mkS_P (p:=fun v=>noS id v=true) rfl l t fun q hq hqt=>?_
   rcases h3 q hq with h | h
   ·exact absurd (by rw [← hqt]; exact h) ht
   ·exact h
  ·rcases (h2 e' he').1 q hq with h | h
   ·exact absurd (by rw [← hqt]; exact h) ht
   ·exact h
  ·refine mkH_P (p:=fun v=>noB id v=true) rfl hl t fun q hq hqt=>?_
   rcases h4 q hq with h | h
   ·exact absurd (by rw [← hqt]; exact h) ht
   ·exact h
  ·rcases (h2 e' he').2 q hq with h | h
   ·exact absurd (by rw [← hqt]; exact h) ht
   ·exact h
def inter (a b:List Nat):Bool:=a.any fun x=>b.contains x
def conf (x y:Eff):Bool:=inter (wsK x) (rsK y)||inter (wsK x) (wsK y)||inter (rsK x) (wsK y)||inter (wbK x) (rbK y)||inter (wbK x) (wbK y)||inter (rbK x) (wbK y)
theorem inter_mem {a b:List Nat}{t:Nat}(h1:t∈a) (h2:t∈b):inter a b=true:=by
 unfold inter
 rw [List.any_eq_true]
 exact⟨t,h1,by simpa using h2⟩
def confOK (ops:Array Oper) (effs:List Eff) (M:List Nat):Bool:=
 (List.range ops.size).all fun k=>
  (match ops[k]? with | some o=>o.after.all fun e => !Region.binds .any e||decide (e.on<k) | none=>true) &&
  (List.range k).all fun j=>match effs[j]?,effs[k]? with | some x,some y => !conf x y||(M.getD k 0).testBit j | _,_=>true
theorem opOK_mono {ops:Array Oper}{o:Oper}{a:Act}{w:World}{K K':Act→World→Prop}(h:OpOK P ops o a w K) (hk:∀a w,K a w→K' a w):OpOK P ops o a w K':=by
 intro Q
 have:=h Q
 split
 ·rename_i hw; rw [if_pos hw] at this; exact Oper.wp_mono hk this
 ·rename_i hw; rw [if_neg hw] at this; exact hk _ _ this
theorem okT_reads (n:Nat):∀ (es:List Eff) (st:LState) (i:Nat) (hi:i<es.length),okT n es st→es[i].reads (runT (es.take i) st)
 | e :: es,st,0,_,h=>h.1
 | e :: es,st,i+1,hi,h=>by
  simp only [List.take_succ_cons,runT,List.getElem_cons_succ]
  exact okT_reads n es _ i (by simpa using hi) h.2
theorem runX_append (X:Nat→Bool):∀ (l m:List Eff) (k:Nat) (st:LState),runX X k (l++m) st=runX X (k+l.length) m (runX X k l st)
 | [],m,k,st=>by simp [runX]
 | e :: l,m,k,st=>by
  simp only [List.cons_append,runX,List.length_cons]
  rw [runX_append X l m (k+1),show k+1+l.length=k+(l.length+1) by omega]
theorem chain_sound (E:Env P){ops:Array Oper}{m:Nat}{w0:World}{B:List Nat}{S0:Seen}{R0:Home}{Q:Exit→Act→World→Prop}
  (hlow:∀k o,ops[k]?=some o→∀e∈o.after,Region.binds .any e=true→e.on<k)
  (hch:∀k j,m≤k→j<k→k<ops.size→((masksOf ops.toList []).getD k 0).testBit j=true) :
  ∀ (rest:List Oper) (pre:List Oper) (listed:Array Bool) (st:LState) (q:Prop) (a:Act) (w:World),ops.toList=pre++rest→m≤pre.length→listed.size=ops.size→(∀j,j<ops.size→listed.getD j false=decide (j<pre.length))→Closed ops listed →
   (evOps P E ops rest st q).2→Inv w0 B S0 R0 st a w→(∀a w,Inv w0 B S0 R0 (evOps P E ops rest st q).1 a w→Q .normal a w)→wpAny P .any ops Q rest.length listed a w
 | [],pre,listed,st,q,a,w,he,hm,hsz,hl,hc,hv,hi,hQ=>by
  have hps:pre.length=ops.size:=by rw [← Array.length_toList,he]; simp
  refine⟨?_,hQ a w hi⟩
  rw [List.eq_nil_iff_forall_not_mem]
  intro j hj
  obtain⟨h1,o,h2,_⟩:=mem_ready.1 hj
  have hjs:j<ops.size:=(Array.getElem?_eq_some_iff.1 h2).1
  have h3:=hl j hjs
  rw [Array.getD,dif_pos (by omega)] at h1 h3
  rw [h1] at h3
  simp at h3
  omega
 | o :: rest,pre,listed,st,q,a,w,he,hm,hsz,hl,hc,hv,hi,hQ=>by
  have hps:pre.length<ops.size:=by rw [← Array.length_toList,he]; simp
  have hok:ops[pre.length]?=some o:=by
   rw [← Array.getElem?_toList,he,List.getElem?_append_right (by omega)]; simp
  have honly:∀i∈Region.ready .any ops listed,i=pre.length:=by
   intro i hir
   obtain⟨h1,oi,h2,hall⟩:=mem_ready.1 hir
   have his:i<ops.size:=(Array.getElem?_eq_some_iff.1 h2).1
   have h3:=hl i his
   rw [Array.getD,dif_pos (by omega)] at h1 h3
   rw [h1] at h3
   simp at h3
   rcases Nat.lt_or_ge pre.length i with h | h
   ·have:=masks_listed hc i pre.length (fun o' ho' e he' hb=>by rw [h2] at ho'; cases ho'; exact hall e he' hb) (hch i pre.length (by omega) h his)
    rw [hl _ hps] at this
    simp at this
   ·omega
  refine⟨fun h0=>?_,fun i hir=>?_⟩
  ·exfalso
   have:pre.length∈Region.ready .any ops listed:=by
    refine mem_ready.2 ⟨?_,o,hok,fun e he' hb=>?_⟩
    ·have h3:=hl pre.length hps
     rw [Array.getD,dif_pos (by omega)] at h3 ⊢
     rw [h3]; simp
    ·have:=hc
     rw [hl e.on ?_]
     ·simp
      exact hlow _ o hok e he' hb
     ·have:=hlow _ o hok e he' hb; omega
   rw [h0] at this; cases this
  ·have:=honly i hir
   subst this
   unfold wpOp
   split
   ·rename_i ho; rw [hok] at ho; cases ho
   ·rename_i o' ho
    rw [hok] at ho; cases ho
    simp only [evOps] at hv hQ
    have h1:=step1_sound E (ops:=ops) hi (evOps_vc P E ops rest _ _ hv).2
    have hgo:∀a' w',Inv w0 B S0 R0 (step1 P E ops st o).1 a' w'→wpAny P .any ops Q rest.length (listed.setIfInBounds pre.length true) a' w':=by
     intro a' w' h
     have hlen:(pre++[o]).length=pre.length+1:=by simp
     refine chain_sound E hlow hch rest (pre++[o]) _ _ _ a' w' (by rw [he]; simp) (by omega) (by simp [hsz]) ?_ (closed_set hc hir) hv h hQ
     intro j hj
     rw [hlen]
     by_cases hji:j=pre.length
     ·subst hji
      rw [Array.getD,dif_pos (by simp; omega)]
      simp
     ·rw [getD_set_ne false (Ne.symm hji),hl j hj]
      rw [Bool.eq_iff_iff]
      simp
      omega
    have h2:=h1 Q
    split
    ·rename_i hw
     rw [if_pos hw] at h2
     exact .inl (Oper.wp_mono hgo h2)
    ·rename_i hw
     rw [if_neg hw] at h2
     exact hgo _ _ h2
theorem draw_sound (E:Env P){ops:Array Oper}{n:Nat}{effs:List Eff}{M:List Nat}{st0:LState}{w0:World}{B:List Nat}{S0:Seen}{R0:Home}{Q:Exit→Act→World→Prop}
  (hn:st0.n=n) {rest pre:List Oper} {q:Prop} (hpre:ops.toList=pre++rest) (hlen:effs.length=pre.length) (hch:∀k j,effs.length≤k→j<k→k<ops.size→(M.getD k 0).testBit j=true) (hconf:confOK ops effs M=true) (hM:M=masksOf ops.toList []) (hK:KillOK effs st0)
  (hok:∀i (hi:i<effs.length) o,ops[i]?=some o→EffOK P E ops n o effs[i]) (hT:okT n effs st0) (hv:(evOps P E ops rest (runT effs st0) q).2)
  (hQ:∀a w,Inv w0 B S0 R0 (evOps P E ops rest (runT effs st0) q).1 a w→Q .normal a w) :
  ∀ (fuel:Nat) (listed:Array Bool) (a:Act) (w:World),listed.size=ops.size→(∀j,effs.length≤j→listed.getD j false=false)→Closed ops listed→(unlisted ops listed).length=fuel→Inv w0 B S0 R0 (runX (fun j=>listed.getD j false) 0 effs st0) a w→wpAny P .any ops Q fuel listed a w:=by
 have hlow:∀k o,ops[k]?=some o→∀e∈o.after,Region.binds .any e=true→e.on<k:=by
  intro k o ho e he hb
  have hk:k<ops.size:=(Array.getElem?_eq_some_iff.1 ho).1
  unfold confOK at hconf
  have:=List.all_eq_true.1 hconf k (List.mem_range.2 hk)
  simp only [Bool.and_eq_true] at this
  have h1:=this.1
  rw [ho] at h1
  simp only [Array.all_eq_true',Bool.or_eq_true,Bool.not_eq_true',decide_eq_true_eq] at h1
  rcases h1 e he with h | h
  ·rw [hb] at h; cases h
  ·exact h
 have hcf:∀j k (hj:j<effs.length) (hk:k<effs.length),j<k→conf effs[j] effs[k]=true→(M.getD k 0).testBit j=true:=by
  intro j k hj hk hjk hc
  unfold confOK at hconf
  have:=List.all_eq_true.1 hconf k (List.mem_range.2 (by have:=hlen; rw [← Array.length_toList,hpre,List.length_append]; omega))
  simp only [Bool.and_eq_true] at this
  have h2:=List.all_eq_true.1 this.2 j (List.mem_range.2 hjk)
  rw [List.getElem?_eq_getElem hj,List.getElem?_eq_getElem hk] at h2
  simp only [hc,Bool.not_true,Bool.false_or] at h2
  exact h2
 have hsize:ops.size=effs.length+rest.length:=by rw [← Array.length_toList,hpre,List.length_append,hlen]
 have hswitch:∀ (listed:Array Bool) (fuel:Nat) a w,listed.size=ops.size→(∀j,effs.length≤j→listed.getD j false=false)→Closed ops listed→(unlisted ops listed).length=fuel →
   (∀j,j<effs.length→listed.getD j false=true)→Inv w0 B S0 R0 (runX (fun j=>listed.getD j false) 0 effs st0) a w→wpAny P .any ops Q fuel listed a w:=by
  intro listed fuel a w hsz hno hc hu hall hi
  rw [runX_all effs 0 _ st0 fun j _ h2=>hall j (by omega)] at hi
  have hfu:fuel=rest.length:=by
   rw [← hu]
   have e1:unlisted ops listed=(List.range ops.size).filter fun k=>decide (effs.length≤k):=by
    unfold unlisted
    refine List.filter_congr fun k hk=>?_
    by_cases h:effs.length≤k
    ·rw [hno k h]; simp [h]
    ·rw [hall k (by omega)]; simp [h]
   rw [e1,hsize]
   have e2:∀ (p r:Nat),((List.range (p+r)).filter fun k=>decide (p≤k)).length=r:=by
    intro p r
    induction r with
    | zero=>
     rw [List.length_eq_zero_iff,List.filter_eq_nil_iff]
     intro k hk
     simp at hk ⊢
     omega
    | succ r ihr=>
     rw [← Nat.add_assoc,List.range_succ,List.filter_append,List.length_append,ihr]
     simp
   exact e2 _ _
  subst hfu
  refine chain_sound (m:=effs.length) E hlow (fun k j h1 h2 h3=>by rw [← hM]; exact hch k j h1 h2 h3) rest pre listed (runT effs st0) q a w hpre (by omega) hsz ?_ hc hv hi hQ
  intro j hj
  rw [← hlen]
  by_cases h:j<effs.length
  ·rw [hall j h]; simp [h]
  ·rw [hno j (by omega)]; simp [h]
 intro fuel
 induction fuel with
 | zero=>
  intro listed a w hsz hno hc hu hi
  refine hswitch listed 0 a w hsz hno hc hu (fun j hj=>?_) hi
  rw [← Bool.not_eq_false]
  intro hf
  have:j∈unlisted ops listed:=List.mem_filter.2 ⟨List.mem_range.2 (by omega),by rw [hf]; rfl⟩
  rw [List.length_eq_zero_iff.1 hu] at this; cases this
 | succ fuel ih=>
  intro listed a w hsz hno hc hu hi
  by_cases hallm:∀j,j<effs.length→listed.getD j false=true
  ·exact hswitch listed _ a w hsz hno hc hu hallm hi
  obtain⟨j0,hj0⟩:=Classical.not_forall.1 hallm
  obtain⟨hj1,hj2⟩:=Classical.not_imp.1 hj0
  have hexists:Region.ready .any ops listed≠[]:=by
   intro h0
   have key:∀j,j<effs.length→listed.getD j false=true:=by
    intro j
    induction j using Nat.strongRecOn with
    | _ j ihj=>
     intro hj
     rw [← Bool.not_eq_false]
     intro hf
     have hjs:j<ops.size:=by omega
     have:j∈Region.ready .any ops listed:=by
      refine mem_ready.2 ⟨?_,ops[j],Array.getElem?_eq_getElem hjs,fun e he hb=>?_⟩
      ·rw [Array.getD,dif_pos (by omega)] at hf ⊢; exact hf
      ·have hlt:=hlow j _ (Array.getElem?_eq_getElem hjs) e he hb
       exact ihj e.on hlt (by omega)
     rw [h0] at this; cases this
   exact hallm key
  refine⟨fun h0=>absurd h0 hexists,fun i hir=>?_⟩
  unfold wpOp
  obtain⟨hi1,oi,hoi,hall⟩:=mem_ready.1 hir
  have his:i<ops.size:=(Array.getElem?_eq_some_iff.1 hoi).1
  have hie:i<effs.length:=by
   rcases Nat.lt_or_ge i effs.length with h | h
   ·exact h
   ·exfalso
    have h3:=hch i j0 h (by omega) his
    rw [hM] at h3
    exact hj2 (masks_listed hc i j0 (fun o ho e he hb=>by rw [hoi] at ho; cases ho; exact hall e he hb) h3)
  have hil:listed.getD i false=false:=by
   rw [Array.getD,dif_pos (by omega)] at hi1 ⊢; exact hi1
  have hbefore:∀j (hj:j<effs.length),j<i→conf effs[j] effs[i]=true→listed.getD j false=true:=by
   intro j hj hji hcj
   have:=hcf j i hj hie hji hcj
   rw [hM] at this
   exact masks_listed hc i j (fun o ho e he hb=>by rw [hoi] at ho; cases ho; exact hall e he hb) this
  have hafter:∀j (hj:j<effs.length),i<j→conf effs[i] effs[j]=true→listed.getD j false=false:=by
   intro j hj hij hcj
   rw [← Bool.not_eq_true]
   intro hlj
   have:=hcf i j hie hj hij hcj
   rw [hM] at this
   have h2:=masks_listed hc j i (fun o ho e he hb=>hc j o ho hlj e he hb) this
   rw [hil] at h2; cases h2
  split
  ·rename_i ho; rw [hoi] at ho; cases ho
  ·rename_i o ho
   rw [hoi] at ho; cases ho
   have htext:runT (effs.take i) st0=runX (fun j=>decide (j<i)) 0 effs st0:=by
    conv=>rhs; rw [← List.take_append_drop i effs]
    rw [runX_append,runX_all (effs.take i) 0 _ st0 (fun j _ h2=>by simp at h2 ⊢; omega)]
    have:∀ (es:List Eff) (k:Nat) (s:LState),i≤k→runX (fun j=>decide (j<i)) k es s=s:=by
     intro es
     induction es with
     | nil=>intro k s _; rfl
     | cons e es ihe=>
      intro k s hk
      simp only [runX]
      rw [if_neg (show ¬ (decide (k<i)=true) by simp; omega)]
      exact ihe (k+1) s (by omega)
    rw [this _ _ _ (by simp; omega)]
   have hreads:effs[i].reads (runX (fun j=>listed.getD j false) 0 effs st0):=by
    have hr:=okT_reads n effs st0 i hie hT
    rw [htext] at hr
    refine⟨allS_iff.2 fun p hp=>?_,allO_iff.2 fun p hp=>?_⟩
    ·rw [← allS_iff.1 hr.1 p hp]
     refine runX_s p.1 effs 0 _ _ st0 st0 rfl fun j hj ht=>?_
     have hk:p.1∈rsK effs[i]:=List.mem_map.2 ⟨p,hp,rfl⟩
     simp only [Nat.zero_add]
     rcases Nat.lt_trichotomy j i with hji | hji | hji
     ·rw [hbefore j hj hji (by simp [conf,inter_mem ht hk])]; simp [hji]
     ·subst hji; rw [hil]; simp
     ·rw [hafter j hj hji (by simp [conf,inter_mem hk ht])]; simp; omega
    ·rw [← allO_iff.1 hr.2 p hp]
     refine runX_h p.1 effs 0 _ _ st0 st0 rfl fun j hj ht=>?_
     have hk:p.1∈rbK effs[i]:=List.mem_map.2 ⟨p,hp,rfl⟩
     simp only [Nat.zero_add]
     rcases Nat.lt_trichotomy j i with hji | hji | hji
     ·rw [hbefore j hj hji (by simp [conf,inter_mem ht hk])]; simp [hji]
     ·subst hji; rw [hil]; simp
     ·rw [hafter j hj hji (by simp [conf,inter_mem hk ht])]; simp; omega
   have hnext:effs[i].app (runX (fun j=>listed.getD j false) 0 effs st0)=runX (fun j=>(listed.setIfInBounds i true).getD j false) 0 effs st0:=by
    have hset:∀j,j≠i→(listed.setIfInBounds i true).getD j false=listed.getD j false:=fun j hj=>getD_set_ne false (Ne.symm hj)
    have hseti:(listed.setIfInBounds i true).getD i false=true:=by
     rw [Array.getD,dif_pos (by simp; omega)]; simp
    have e1:∀ (X:Nat→Bool),(runX X 0 effs st0).n=st0.n:=fun X=>runX_n effs 0 X st0
    have hs:∀t,(effs[i].app (runX (fun j=>listed.getD j false) 0 effs st0)).s t=(runX (fun j=>(listed.setIfInBounds i true).getD j false) 0 effs st0).s t:=by
     intro t
     by_cases ht:t∈wsK effs[i]
     ·-- i is the last that writes t
      have hsplit:∀X:Nat→Bool,runX X 0 effs st0=runX X (i+1) (effs.drop (i+1)) (if X i then effs[i].app (runX X 0 (effs.take i) st0) else runX X 0 (effs.take i) st0):=by
       intro X
       conv=>lhs; rw [← List.take_append_drop i effs]
       rw [runX_append,List.drop_eq_getElem_cons hie]
       simp only [runX,Nat.zero_add,List.length_take,Nat.min_eq_left (Nat.le_of_lt hie)]
      have hout:∀ (es:List Eff) (k:Nat) (X:Nat→Bool) (s:LState),(∀j (hj:j<es.length),t∈wsK es[j]→X (k+j)=false)→(runX X k es s).s t=s.s t:=by
       intro es
       induction es with
       | nil=>intro k X s _; rfl
       | cons e es ihe=>
        intro k X s hX
        simp only [runX]
        rw [ihe (k+1) X _ (fun j hj hw=>by
         have:=hX (j+1) (by simp; omega) (by simpa using hw)
         rwa [show k+(j+1)=k+1+j by omega] at this)]
        by_cases hw:t∈wsK e
        ·have:=hX 0 (by simp) (by simpa using hw)
         simp only [Nat.add_zero] at this
         rw [this]; simp
        ·split
         ·exact updS_out e.wsA s.s t hw
         ·rfl
      rw [hsplit fun j=>(listed.setIfInBounds i true).getD j false]
      rw [hout _ _ _ _ (fun j hj hw=>by
       simp only [List.length_drop] at hj
       simp only [List.getElem_drop] at hw
       rw [hset _ (by omega)]
       exact hafter (i+1+j) (by omega) (by omega) (by simp [conf,inter_mem ht hw]))]
      simp only [hseti,if_true]
      exact updS_in effs[i].wsA _ _ t ht
     ·rw [show (effs[i].app (runX (fun j=>listed.getD j false) 0 effs st0)).s t=(runX (fun j=>listed.getD j false) 0 effs st0).s t from updS_out effs[i].wsA _ t ht]
      refine runX_s t effs 0 _ _ st0 st0 rfl fun j hj hw=>?_
      simp only [Nat.zero_add]
      rw [hset j (fun h=>ht (by subst h; exact hw))]
    have hh:∀t,(effs[i].app (runX (fun j=>listed.getD j false) 0 effs st0)).h t=(runX (fun j=>(listed.setIfInBounds i true).getD j false) 0 effs st0).h t:=by
     intro t
     by_cases ht:t∈wbK effs[i]
     ·have hsplit:∀X:Nat→Bool,runX X 0 effs st0=runX X (i+1) (effs.drop (i+1)) (if X i then effs[i].app (runX X 0 (effs.take i) st0) else runX X 0 (effs.take i) st0):=by
       intro X
       conv=>lhs; rw [← List.take_append_drop i effs]
       rw [runX_append,List.drop_eq_getElem_cons hie]
       simp only [runX,Nat.zero_add,List.length_take,Nat.min_eq_left (Nat.le_of_lt hie)]
      have hout:∀ (es:List Eff) (k:Nat) (X:Nat→Bool) (s:LState),(∀j (hj:j<es.length),t∈wbK es[j]→X (k+j)=false)→(runX X k es s).h t=s.h t:=by
       intro es
       induction es with
       | nil=>intro k X s _; rfl
       | cons e es ihe=>
        intro k X s hX
        simp only [runX]
        rw [ihe (k+1) X _ (fun j hj hw=>by
         have:=hX (j+1) (by simp; omega) (by simpa using hw)
         rwa [show k+(j+1)=k+1+j by omega] at this)]
        by_cases hw:t∈wbK e
        ·have:=hX 0 (by simp) (by simpa using hw)
         simp only [Nat.add_zero] at this
         rw [this]; simp
        ·split
         ·exact updH_out e.wbA s.h t hw
         ·rfl
      rw [hsplit fun j=>(listed.setIfInBounds i true).getD j false]
      rw [hout _ _ _ _ (fun j hj hw=>by
       simp only [List.length_drop] at hj
       simp only [List.getElem_drop] at hw
       rw [hset _ (by omega)]
       exact hafter (i+1+j) (by omega) (by omega) (by simp [conf,inter_mem ht hw]))]
      simp only [hseti,if_true]
      exact updH_in effs[i].wbA _ _ t ht
     ·rw [show (effs[i].app (runX (fun j=>listed.getD j false) 0 effs st0)).h t=(runX (fun j=>listed.getD j false) 0 effs st0).h t from updH_out effs[i].wbA _ t ht]
      refine runX_h t effs 0 _ _ st0 st0 rfl fun j hj hw=>?_
      simp only [Nat.zero_add]
      rw [hset j (fun h=>ht (by subst h; exact hw))]
    have:∀x y:LState,x.n=y.n→(∀t,x.s t=y.s t)→(∀t,x.h t=y.h t)→x=y:=by
     rintro⟨n1,s1,h1⟩ ⟨n2,s2,h2⟩ rfl hs hh
     have e1:s1=s2:=funext hs
     have e2:h1=h2:=funext hh
     subst e1 e2
     rfl
    exact this _ _ (by rw [app_n,e1,e1]) hs hh
   have hst:(runX (fun j=>listed.getD j false) 0 effs st0).n=n:=by rw [runX_n]; exact hn
   obtain⟨hv,heq⟩:=hok i hie oi hoi _ hst hreads
   have hop:=step1_sound E (ops:=ops) hi hv
   rw [heq] at hop
   have hop':=opOK_mono (K':=fun a' w'=>Inv w0 B S0 R0 (effs[i].app (runX (fun j=>listed.getD j false) 0 effs st0)) a' w') hop (fun a' w' h=>by
    cases hek:effs[i].k with
    | none=>
     have e0:effs[i].appK (runX (fun j=>listed.getD j false) 0 effs st0)=effs[i].app (runX (fun j=>listed.getD j false) 0 effs st0):=by
      simp only [Eff.appK,Eff.app,Eff.wsA,Eff.wbA,dsOf,dbOf,hek,killO,killHO,List.nil_append]
     rw [e0] at h; exact h
    | some id=>
     rcases hK effs[i] (List.getElem_mem hie) id hek with hnw | ⟨hnw,hid,hs,hb⟩
     ·refine unkill hek hnw ?_ h
      obtain⟨p,hp,hp2⟩:=List.any_eq_true.1 hnw
      simp only [Bool.and_eq_true,beq_iff_eq] at hp2
      have hb:=allO_iff.1 hreads.2 p hp
      obtain⟨S,ρ,iv,_⟩:=hi
      refine noRef_of iv ?_
      rw [← hp2.1,hb]
      exact Option.isNone_iff_eq_none.1 hp2.2
     ·rw [kill_eq hek hnw hreads hid (fun t ht=>runX_Ps (p:=fun v=>noS id v=true) effs 0 _ st0 (hs t ht).1 (hs t ht).2) (fun t ht=>runX_Ph (p:=fun v=>noB id v=true) effs 0 _ st0 (hb t ht).1 (hb t ht).2)] at h
      exact h)
   have hfuel:(unlisted ops (listed.setIfInBounds i true)).length=fuel:=by
    have hiu:i∈unlisted ops listed:=List.mem_filter.2 ⟨List.mem_range.2 his,by rw [hil]; rfl⟩
    have hun:unlisted ops (listed.setIfInBounds i true)=(unlisted ops listed).filter (· ≠ i):=by
     unfold unlisted
     rw [List.filter_filter]
     refine List.filter_congr fun k hk=>?_
     by_cases hki:i=k
     ·subst hki
      have:(listed.setIfInBounds i true).getD i false=true:=by
       rw [Array.getD,dif_pos (by simp; omega)]
       simp
      rw [this]; simp
     ·rw [getD_set_ne false hki]
      simp [Ne.symm hki]
    rw [hun]
    have hsort:(unlisted ops listed).Pairwise (· < ·):=List.Pairwise.filter _ List.pairwise_lt_range
    have hnd:(unlisted ops listed).Nodup:=hsort.imp fun h=>Nat.ne_of_lt h
    have:=List.length_erase_of_mem hiu
    rw [hnd.erase_eq_filter] at this
    have e:((unlisted ops listed).filter fun x=>x != i)=(unlisted ops listed).filter (· ≠ i):=List.filter_congr fun x _=>by by_cases h:x=i <;> simp [h]
    rw [← e,this,hu]; rfl
   have hgo:∀a' w',Inv w0 B S0 R0 (effs[i].app (runX (fun j=>listed.getD j false) 0 effs st0)) a' w'→wpAny P .any ops Q fuel (listed.setIfInBounds i true) a' w':=by
    intro a' w' h
    rw [hnext] at h
    exact ih _ a' w' (by simp [hsz]) (fun j hj=>by rw [getD_set_ne false (by omega)]; exact hno j hj) (closed_set hc hir) hfuel h
   have h3:=hop' Q
   split
   ·rename_i hw
    rw [if_pos hw] at h3
    exact .inl (Oper.wp_mono hgo h3)
   ·rename_i hw
    rw [if_neg hw] at h3
    exact hgo _ _ h3
def chainOK (ops:Array Oper) (m:Nat) (M:List Nat):Bool:=(List.range ops.size).all fun k=>decide (k<m)||(List.range k).all fun j=>(M.getD k 0).testBit j
theorem lok_region_eff (E:Env P) (effs:List Eff){n:Nat}{id:Nat}{ops:List Oper}(hmx:P.follows .mixedOrders=true) (hn:st.n=n) (hlen:effs.length≤ops.length)
  (hconf:confOK ops.toArray effs (masksOf ops [])=true) (hchain:chainOK ops.toArray effs.length (masksOf ops [])=true) (hK:KillOK effs st) (hok:∀i (hi:i<effs.length) o,ops.toArray[i]?=some o→EffOK P E ops.toArray n o effs[i]) (hT:okT n effs st)
  {s:LState} {q:Prop} (he:evOps P E ops.toArray (ops.drop effs.length) (runT effs st) True=(s,q)) (hv:q) (h:Q .normal s):LOK P V (.region id ops.toArray true) st Q:=fun w0 B S0 R0 a w hV hi=>by
 have hv':(evOps P E ops.toArray (ops.drop effs.length) (runT effs st) True).2:=by rw [he]; exact hv
 have hs':(evOps P E ops.toArray (ops.drop effs.length) (runT effs st) True).1=s:=by rw [he]
 refine wp_region_any hmx (draw_sound (M:=masksOf ops []) (rest:=ops.drop effs.length) (pre:=ops.take effs.length) (q:=True) E hn (by simp) (by simp; omega) ?_ hconf rfl hK hok hT hv' (fun a w hi'=>⟨_,h,by rw [← hs']; exact hi'⟩) _ _ _ _ (by simp) ?_ ?_ ?_ ?_)
 ·intro k j h1 h2 h3
  unfold chainOK at hchain
  have:=List.all_eq_true.1 hchain k (List.mem_range.2 h3)
  simp only [Bool.or_eq_true,decide_eq_true_eq] at this
  rcases this with h | h
  ·omega
  ·exact List.all_eq_true.1 h j (List.mem_range.2 h2)
 ·intro j hj
  rw [Array.getD]; split <;> simp
 ·intro j o ho hj
  rw [Array.getD] at hj
  split at hj <;> simp at hj
 ·have hun:unlisted ops.toArray (Array.replicate ops.toArray.size false)=List.range ops.toArray.size:=by
   unfold unlisted
   refine List.filter_eq_self.2 fun k hk=>?_
   rw [Array.getD]; split <;> simp
  rw [hun]; simp
 ·have:∀ (es:List Eff) (k:Nat) (s:LState),runX (fun j=>(Array.replicate ops.toArray.size false).getD j false) k es s=s:=by
   intro es
   induction es with
   | nil=>intro k s; rfl
   | cons e es ihe=>
    intro k s
    simp only [runX]
    have:(Array.replicate ops.toArray.size false).getD k false=false:=by rw [Array.getD]; split <;> simp
    rw [if_neg (by rw [this]; simp)]
    exact ihe (k+1) s
  rw [this]
  exact inv_drawn hi
end
end Go.LS
