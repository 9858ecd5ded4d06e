/-
  The framework LS, part 16: the rules for control; weakening of states; from a body to a contract.
  No condition: lemmas.
-/
import Derived.Test.YtmgjidfafnajnaaGreatLs15
namespace Go.LS
set_option linter.all false
set_option linter.unusedSimpArgs false
set_option linter.unusedVariables false
def Imp (V:List Nat) (st st':LState):Prop:=∀ (w0:World) (B:List Nat) (S0:Seen) (R0:Home) (a:Act) (w:World),(∀id p,R0 id=some p→id∈V)→Inv w0 B S0 R0 st a w→Inv w0 B S0 R0 st' a w
theorem Imp.trans {V:List Nat}{a b c:LState}(h:Imp V a b) (k:Imp V b c):Imp V a c:=fun w0 B S0 R0 x w hV hi=>k w0 B S0 R0 x w hV (h w0 B S0 R0 x w hV hi)
theorem Imp.refl {V:List Nat}(a:LState):Imp V a a:=fun _ _ _ _ _ _ _ hi=>hi
def LOK (P:Program) (V:List Nat) (c:Code) (st:LState) (Q:Exit→LState→Prop):Prop:=
 ∀ (w0:World) (B:List Nat) (S0:Seen) (R0:Home) (a:Act) (w:World),(∀id p,R0 id=some p→id∈V)→Inv w0 B S0 R0 st a w→c.wp P (fun e a' w'=>∃st',Q e st'∧Inv w0 B S0 R0 st' a' w') a w
def thenL (K:LState→Prop) (Q:Exit→LState→Prop):Exit→LState→Prop
 | .normal,s=>K s
 | e,s=>Q e s
def blockL (id:Nat) (Q:Exit→LState→Prop):Exit→LState→Prop
 | .exit id',s=>if id'=id then Q .normal s else Q (.exit id') s
 | e,s=>Q e s
section
variable {P:Program} {V:List Nat} {st st':LState} {Q Q':Exit→LState→Prop}
theorem lok_mono {c:Code}(h:LOK P V c st Q) (hq:∀e s,Q e s→Q' e s):LOK P V c st Q':=fun w0 B S0 R0 a w hV hi=>
 wp_mono (h w0 B S0 R0 a w hV hi) fun _ _ _ ⟨s,h1,h2⟩=>⟨s,hq _ _ h1,h2⟩
theorem lok_seq {x y:Code}(h:LOK P V x st (thenL (fun s=>LOK P V y s Q) Q)):LOK P V (.seq x y) st Q:=fun w0 B S0 R0 a w hV hi=>
 wp_seq (wp_mono (h w0 B S0 R0 a w hV hi) fun e a' w' ⟨s,h1,h2⟩=>by
  cases e with
  | normal=>exact h1 w0 B S0 R0 a' w' hV h2
  | _=>exact⟨s,h1,h2⟩)
theorem lok_skip (h:Q .normal st):LOK P V .skip st Q:=fun _ _ _ _ _ _ _ hi=>wp_skip ⟨st,h,hi⟩
theorem lok_ret (h:Q .ret st):LOK P V .ret st Q:=fun _ _ _ _ _ _ _ hi=>wp_ret ⟨st,h,hi⟩
theorem lok_exit {id:Nat}(h:Q (.exit id) st):LOK P V (.exit id) st Q:=fun _ _ _ _ _ _ _ hi=>wp_exit ⟨st,h,hi⟩
theorem zz9 {id:Nat}{c:Code}(h:LOK P V c st (blockL id Q)):LOK P V (.block id c) st Q:=fun w0 B S0 R0 a w hV hi=>
 wp_block (wp_mono (h w0 B S0 R0 a w hV hi) fun e a' w' ⟨s,h1,h2⟩=>by
  cases e with
  | exit id'=>
   simp only [blockL] at h1
   simp only [Exit.inBlock]
   split
   ·rename_i he; rw [if_pos he] at h1; exact⟨s,h1,h2⟩
   ·rename_i he; rw [if_neg he] at h1; exact⟨s,h1,h2⟩
  | _=>exact⟨s,h1,h2⟩)
theorem lok_region (E:Env P){id:Nat}{ops:List Oper}{r:LState×Prop}(he:evOps P E ops.toArray ops st True=r) (hv:r.2) (h:Q .normal r.1):LOK P V (.region id ops.toArray false) st Q:=fun w0 B S0 R0 a w hV hi=>by
 subst he
 exact wp_region_lit (evOps_sound E ops st True a w hi hv fun a' w' hi'=>⟨_,h,hi'⟩)
theorem lok_cond {c:Operand}{x y:Code}{b:Bool}{q:Prop}(he:ev st c=(.one (.p (.val (.bool b))),q)) (hq:q) (hx:b=true→LOK P V x st Q) (hy:b=false→LOK P V y st Q):LOK P V (.cond c x y) st Q:=fun w0 B S0 R0 a w hV hi=>by
 obtain⟨S,ρ,i,rest⟩:=hi
 have r:=ev_rep i (x:=c) (by rw [he]; exact hq)
 rw [he] at r
 exact wp_cond_split (repL_val r) (fun hb=>hx hb w0 B S0 R0 a w hV ⟨S,ρ,i,rest⟩) fun hb=>hy hb w0 B S0 R0 a w hV ⟨S,ρ,i,rest⟩
theorem lok_imp {c:Code}(hi:Imp V st st') (h:LOK P V c st' Q):LOK P V c st Q:=fun w0 B S0 R0 a w hV inv=>h w0 B S0 R0 a w hV (hi w0 B S0 R0 a w hV inv)
theorem wp_in_ghost {α:Type}{c:Code}{Q:Exit→Act→World→Prop}(I:α→Act→World→Prop) (μ:α→Nat)
  (round:∀x a w,I x a w→c.wp P (Exit.then (fun a' w'=>∃y,I y a' w'∧μ y<μ x) Q) a w) {x:α} {a:Act} {w:World} (h0:I x a w) (b:Frame) (k:List Item) (cs:List Frame) :
  ∃e a' w',Q e a' w'∧Arrives P (lone (b.at a (.code c :: .inLoop c :: k)) cs w) b k cs e a' w':=by
 have key:∀n x a w,μ x=n→I x a w→∃e a' w',Q e a' w'∧Arrives P (lone (b.at a (.code c :: .inLoop c :: k)) cs w) b k cs e a' w':=by
  intro n
  induction n using Nat.strongRecOn with
  | _ n ih=>
   intro x a w hn hI
   obtain⟨e,a₁,w₁,hq,harr⟩:=round x a w hI b (.inLoop c :: k) cs
   cases e with
   | normal=>
    obtain⟨y,hI₁,hlt⟩:=hq
    obtain⟨e₂,a₂,w₂,hq₂,harr₂⟩:=ih (μ y) (hn ▸ hlt) y a₁ w₁ rfl hI₁
    exact⟨e₂,a₂,w₂,hq₂,.of_steps (Steps.trans harr (.one step_inLoop)) harr₂⟩
   | exit id=>exact⟨_,a₁,w₁,hq,.pass (x:=.inLoop c) rfl (fun _ _=>.inl (by simp)) harr⟩
   | goto l=>exact⟨_,a₁,w₁,hq,.pass (x:=.inLoop c) rfl (fun _ _=>.inl (by simp)) harr⟩
   | ret=>exact⟨_,a₁,w₁,hq,.pass (x:=.inLoop c) rfl (fun _ _=>.inl (by simp)) harr⟩
   | panic ch=>exact⟨_,a₁,w₁,hq,.pass (x:=.inLoop c) rfl (fun _ _=>.inl (by simp)) harr⟩
   | outgrown=>exact⟨_,a₁,w₁,hq,.pass (x:=.inLoop c) rfl (fun _ _=>.inl (by simp)) harr⟩
 exact key _ x a w rfl h0
theorem wp_loop_ghost {α:Type}{c:Code}{Q:Exit→Act→World→Prop}(I:α→Act→World→Prop) (μ:α→Nat)
  (round:∀x a w,I x a w→c.wp P (Exit.then (fun a' w'=>∃y,I y a' w'∧μ y<μ x) Q) a w) {x:α} {a:Act} {w:World} (h0:I x a w):(Code.loop c).wp P Q a w:=by
 intro b k cs
 obtain⟨e,a',w',hq,harr⟩:=wp_in_ghost (P:=P) I μ round h0 b k cs
 exact⟨e,a',w',hq,.of_steps (.one step_loop) harr⟩
theorem lok_loop {α:Type}{c:Code}(I:α→LState) (C:α→Prop) (μ:α→Nat) (x:α) (h0:C x)
  (round:∀x,C x→LOK P V c (I x) (thenL (fun s=>∃y,C y∧μ y<μ x∧Imp V s (I y)) Q)):LOK P V (.loop c) (I x) Q:=fun w0 B S0 R0 a w hV hi=>by
 refine wp_loop_ghost (P:=P) (fun x a w=>C x∧Inv w0 B S0 R0 (I x) a w) μ (fun x a w ⟨hC,hI⟩=>?_) (x:=x) ⟨h0,hi⟩
 refine wp_mono (round x hC w0 B S0 R0 a w hV hI) fun e a' w' ⟨s,h1,h2⟩=>?_
 cases e with
 | normal=>
  obtain⟨y,hy,hm,him⟩:=h1
  exact⟨y,⟨hy,him w0 B S0 R0 a' w' hV h2⟩,hm⟩
 | _=>exact⟨s,h1,h2⟩
theorem lok_imp_post {c:Code}(h:LOK P V c st fun e s=>∃s',Imp V s s'∧Q e s'):LOK P V c st Q:=fun w0 B S0 R0 a w hV hi=>
 wp_mono (h w0 B S0 R0 a w hV hi) fun _ a' w' ⟨_,⟨s',h1,h2⟩,h3⟩=>⟨s',h2,h1 w0 B S0 R0 a' w' hV h3⟩
end
inductive LeP:PV→PV→Prop
 | refl (x:PV):LeP x x
 | nil (e:Nat):LeP .nil (.sl e [])
 | sl {e:Nat} {xs ys:List (List PV)} (hl:xs.length=ys.length) (hx:∀i (h1:i<xs.length) (h2:i<ys.length),xs[i].length=ys[i].length)
   (h:∀i j (h1:i<xs.length) (h2:i<ys.length) (h3:j<xs[i].length) (h4:j<ys[i].length),LeP xs[i][j] ys[i][j]):LeP (.sl e xs) (.sl e ys)
theorem RepP.le {w:World}{S:Seen}{x y:PV}(l:LeP x y):∀ {v:Value},RepP w S v x→RepP w S v y:=by
 induction l with
 | refl x=>exact fun r=>r
 | nil e=>intro v r; cases r; exact .slnil e
 | @sl e xs ys hl hx _ ih=>
  intro v r
  cases r with
  | slnil=>
   have:ys=[]:=List.eq_nil_of_length_eq_zero (by simpa using hl.symm)
   subst this; exact .slnil e
  | sl b o n cap e f xs hn hcap he hm hle hc hr=>
   refine .sl b o n cap e f ys (by omega) hcap he hm (fun y hy=>?_) hc (fun i j hi hj=>?_)
   ·obtain⟨k,hk,rfl⟩:=List.getElem_of_mem hy
    rw [← hx k (by omega) hk]; exact hle _ (List.getElem_mem _)
   ·have hi':i<xs.length:=by omega
    exact ih i j hi' hi (by rw [hx i hi' hi]; exact hj) hj (hr i j hi' (by rw [hx i hi' hi]; exact hj))
inductive LeC (h:Heap):CV→CV→Prop
 | refl (c:CV):LeC h c c
 | p {x y:PV} (l:LeP x y):LeC h (.p x) (.p y)
 | fl {e:Nat} {xs:List (List PV)} {y:PV} (l:LeP (.sl e xs) y):LeC h (.fl e xs) (.p y)
 | vw {id e:Nat} (hb:h id=some (.arr e [])):LeC h (.p .nil) (.vw id)
 | dead (c:CV):LeC h c .dead
inductive LeCs (h:Heap):List CV→List CV→Prop
 | nil:LeCs h [] []
 | cons {c d:CV} {cs ds:List CV} (h1:LeC h c d) (h2:LeCs h cs ds):LeCs h (c :: cs) (d :: ds)
inductive LeL (h:Heap):LV→LV→Prop
 | one {c d:CV} (h1:LeC h c d):LeL h (.one c) (.one d)
 | agg {cs ds:List CV} (h1:LeCs h cs ds):LeL h (.agg cs) (.agg ds)
inductive LeLs (h:Heap):List LV→List LV→Prop
 | nil:LeLs h [] []
 | cons {c d:LV} {cs ds:List LV} (h1:LeL h c d) (h2:LeLs h cs ds):LeLs h (c :: cs) (d :: ds)
inductive LeS (h:Heap):SV→SV→Prop
 | dead (s:SV):LeS h s .dead
 | refl (s:SV):LeS h s s
 | x {l m:LV} (h1:LeL h l m):LeS h (.x l) (.x m)
 | tup {l m:List LV} (h1:LeLs h l m):LeS h (.tup l) (.tup m)
inductive LeB (h:Heap):Blk→Blk→Prop
 | refl (b:Blk):LeB h b b
 | var {cs ds:List CV} (h1:LeCs h cs ds):LeB h (.var cs) (.var ds)
 | arr {e:Nat} {xs ys:List (List PV)} (l:LeP (.sl e xs) (.sl e ys)):LeB h (.arr e xs) (.arr e ys)
section
variable {w:World} {S:Seen} {ρ:Place} {h:Heap}
end
theorem mkS_mem {l:List (Nat×SV)}{t:Nat}:mkS l t = .dead∨∃v,(t,v)∈l∧mkS l t=v:=by
 induction l with
 | nil=>exact .inl rfl
 | cons p l ih=>
  obtain⟨d,v⟩:=p
  simp only [mkS]
  split
  ·rename_i h; subst h; exact .inr ⟨v,by simp,rfl⟩
  ·rcases ih with ih | ⟨v',h1,h2⟩
   ·exact .inl ih
   ·exact .inr ⟨v',by simp [h1],h2⟩
theorem mkH_mem {m:List (Nat×Blk)}{t:Nat}{b:Blk}(h:mkH m t=some b):(t,b)∈m:=by
 induction m with
 | nil=>cases h
 | cons p l ih=>
  obtain⟨d,v⟩:=p
  simp only [mkH] at h
  split at h
  ·rename_i hd; subst hd; cases h; simp
  ·simp [ih h]
theorem mkH_dom {m:List (Nat×Blk)}{t:Nat}(h:t∈m.map (·.1)):mkH m t≠none:=by
 induction m with
 | nil=>cases h
 | cons p l ih=>
  obtain⟨d,v⟩:=p
  simp only [mkH]
  split
  ·simp
  ·rename_i hd
   simp only [List.map_cons,List.mem_cons] at h
   exact ih (h.resolve_left hd)
theorem imp_weaken {V:List Nat}(st:LState) (l:List (Nat×SV)) (m:List (Nat×Blk)) (hl:∀p∈l,LeS (mkH m) (st.s p.1) p.2)
  (hm:∀p∈m,(∃b,st.h p.1=some b∧LeB (mkH m) b p.2)∨(st.h p.1=none∧∃e,1≤e∧p.2 = .arr e []))
  (hr:(l.all fun p=>(refsS p.2).all fun i=>(m.map (·.1)).contains i)=true) (hrb:(m.all fun p=>(refsB p.2).all fun i=>(m.map (·.1)).contains i)=true)
  (hvv:(V.all fun id=>(mkH m id).isSome)=true):Imp V st ⟨st.n,mkS l,mkH m⟩:=by
 rintro w0 B S0 R0 a w hV0 ⟨S,ρ,i,hS,hS',hR⟩
 have hV:∀id p,R0 id=some p→(mkH m id).isSome=true:=fun id p hp=>List.all_eq_true.1 hvv id (hV0 id p hp)
 let ρ':Place:=fun id=>if (mkH m id).isSome then ρ id else none
 have hρ:∀id,id∈m.map (·.1)→ρ' id=ρ id:=fun id hid=>by
  have:=mkH_dom hid
  simp only [ρ']; rw [if_pos (Option.isSome_iff_ne_none.2 this)]
 have hH:∀id b,mkH m id=some b→(∃b0,st.h id=some b0∧LeB (mkH m) b0 b)∨(st.h id=none∧∃e,1≤e∧b = .arr e []):=fun id b hb=>hm _ (mkH_mem hb)
 have keep:∀id,id∈m.map (·.1)→Keeps w w ρ ρ' st.h (mkH m) id:=fun id hid=>by
  refine⟨hρ id hid,fun e xs hx=>?_,fun e xs b o c el _ _ hrow=>⟨c,hrow,rfl⟩⟩
  obtain⟨b,hb⟩:=Option.ne_none_iff_exists'.1 (mkH_dom hid)
  rcases hH id b hb with⟨b0,h1,h2⟩ | ⟨h1,_⟩
  ·rw [hx] at h1; cases h1
   cases h2 with
   | refl=>exact⟨xs,hb,rfl⟩
   | @arr _ _ ys l=>
    refine⟨ys,hb,?_⟩
    cases l with
    | refl=>rfl
    | sl hl=>exact hl.symm
  ·rw [hx] at h1; cases h1
 have sC:∀ {v:Value} {c d:CV},LeC (mkH m) c d→(∀id∈refsC d,id∈m.map (·.1))→RepC w S ρ st.h v c→RepC w S ρ' (mkH m) v d:=by
  intro v c d l hrd r
  cases l with
  | refl=>exact r.mono (fun b o hs=>⟨hs,rfl⟩) fun id hid=>keep id (hrd id hid)
  | p l=>cases r with | p r=>exact .p (r.le l)
  | fl l=>cases r with | fl r=>exact .p (r.le l)
  | vw hb=>cases r with | p r=>cases r; exact .vwnil hb
  | dead=>exact .dead r.plain
 have sCs:∀ {vs:List Value} {cs ds:List CV},LeCs (mkH m) cs ds→(∀id∈ds.flatMap refsC,id∈m.map (·.1))→RepCs w S ρ st.h vs cs→RepCs w S ρ' (mkH m) vs ds:=by
  intro vs cs ds l
  induction l generalizing vs with
  | nil=>intro _ r; exact⟨r.1,fun i hv hc=>absurd hc (by simp)⟩
  | @cons c d cs ds h1 h2 ih=>
   intro hrd r
   cases vs with
   | nil=>have:=r.1; simp at this
   | cons v vs=>
    have r0:=sC h1 (fun id hid=>hrd id (by simp [hid])) (r.2 0 (by simp) (by simp))
    obtain⟨g1,g2⟩:=ih (vs:=vs) (fun id hid=>hrd id (by simp only [List.flatMap_cons,List.mem_append]; exact .inr hid)) ⟨by have:=r.1; simpa using this,fun i hv hc=>by have:=r.2 (i+1) (by simp; omega) (by simp; omega); simpa using this⟩
    refine⟨by simp [g1],fun i hv hc=>?_⟩
    cases i with
    | zero=>exact r0
    | succ i=>exact g2 i (by simpa using hv) (by simpa using hc)
 have sCr:∀ {vs:List Value} {cs:List CV},(∀id∈cs.flatMap refsC,id∈m.map (·.1))→RepCs w S ρ st.h vs cs→RepCs w S ρ' (mkH m) vs cs:=fun hrd r=>r.mono (fun b o hs=>⟨hs,rfl⟩) fun id hid=>keep id (hrd id hid)
 have sL:∀ {v:Value} {c d:LV},LeL (mkH m) c d→(∀id∈refsL d,id∈m.map (·.1))→RepL w S ρ st.h v c→RepL w S ρ' (mkH m) v d:=by
  intro v c d l hrd r
  cases l with
  | one l=>exact sC l hrd r
  | agg l=>obtain⟨vs,rfl,r⟩:=r; exact⟨vs,rfl,sCs l hrd r⟩
 have sLs:∀ {vs:List Value} {cs ds:List LV},LeLs (mkH m) cs ds→(∀id∈ds.flatMap refsL,id∈m.map (·.1))→RepLs w S ρ st.h vs cs→RepLs w S ρ' (mkH m) vs ds:=by
  intro vs cs ds l
  induction l generalizing vs with
  | nil=>intro _ r; exact⟨r.1,fun i hv hc=>absurd hc (by simp)⟩
  | @cons c d cs ds h1 h2 ih=>
   intro hrd r
   cases vs with
   | nil=>have:=r.1; simp at this
   | cons v vs=>
    have r0:=sL h1 (fun id hid=>hrd id (by simp [hid])) (r.2 0 (by simp) (by simp))
    obtain⟨g1,g2⟩:=ih (vs:=vs) (fun id hid=>hrd id (by simp only [List.flatMap_cons,List.mem_append]; exact .inr hid)) ⟨by have:=r.1; simpa using this,fun i hv hc=>by have:=r.2 (i+1) (by simp; omega) (by simp; omega); simpa using this⟩
    refine⟨by simp [g1],fun i hv hc=>?_⟩
    cases i with
    | zero=>exact r0
    | succ i=>exact g2 i (by simpa using hv) (by simpa using hc)
 simp only [List.all_eq_true,List.contains_eq_mem,decide_eq_true_eq] at hr hrb
 refine⟨S,ρ',⟨⟨fun id b hb=>?_,fun id hid=>?_,fun id b o hp=>?_,fun x y b o o' h1 h2=>?_,fun b o hs=>⟨(i.mem.sep b o hs).1,fun id o' hp=>?_⟩,i.mem.size,i.mem.frame,i.mem.calm,i.mem.rows,i.mem.tab⟩,i.tmps,i.defers.mono (fun _ _ _=>rfl) (fun id b o hp=>.inl ⟨id,o,by simp only [ρ'] at hp; split at hp; exact hp; cases hp⟩),fun t=>?_⟩,hS,hS',fun id p hp=>?_,fun id b o hid hp=>?_⟩
 ·have hid:id∈m.map (·.1):=List.mem_map.2 ⟨_,mkH_mem hb,rfl⟩
  have hrefs:∀x∈refsB b,x∈m.map (·.1):=fun x hx=>hrb _ (mkH_mem hb) x hx
  rcases hH id b hb with⟨b0,h1,h2⟩ | ⟨h1,e,he,rfl⟩
  ·have r:=i.mem.blocks id b0 h1
   cases h2 with
   | refl=>
    cases b with
    | var cs=>
     obtain⟨b,c,el,hp,hrow,hc⟩:=r
     exact⟨b,c,el,by rw [hρ id hid]; exact hp,hrow,sCr hrefs hc⟩
    | arr e xs=>
     obtain⟨g1,g2,g3,g4⟩:=r
     refine⟨g1,g2,g3,?_⟩
     rcases g4 with⟨g4,g5⟩ | ⟨b,o,c,el,hp,rest⟩
     ·exact .inl ⟨by rw [hρ id hid]; exact g4,g5⟩
     ·exact .inr ⟨b,o,c,el,by rw [hρ id hid]; exact hp,rest⟩
   | var l=>
    obtain⟨b,c,el,hp,hrow,hc⟩:=r
    exact⟨b,c,el,by rw [hρ id hid]; exact hp,hrow,sCs l hrefs hc⟩
   | @arr e xs ys l=>
    obtain⟨g1,g2,g3,g4⟩:=r
    cases l with
    | refl=>
     refine⟨g1,g2,g3,?_⟩
     rcases g4 with⟨g4,g5⟩ | ⟨b,o,c,el,hp,rest⟩
     ·exact .inl ⟨by rw [hρ id hid]; exact g4,g5⟩
     ·exact .inr ⟨b,o,c,el,by rw [hρ id hid]; exact hp,rest⟩
    | sl hl2 hx h2=>
     refine⟨g1,fun y hy=>?_,by omega,?_⟩
     ·obtain⟨k,hk,rfl⟩:=List.getElem_of_mem hy
      rw [← hx k (by omega) hk]; exact g2 _ (List.getElem_mem _)
     ·rcases g4 with⟨g4,g5⟩ | ⟨b,o,c,el,hp,hrow,⟨ho,hz⟩,hc⟩
      ·subst g5
       exact .inl ⟨by rw [hρ id hid]; exact g4,List.eq_nil_of_length_eq_zero (by simpa using hl2.symm)⟩
      ·refine .inr ⟨b,o,c,el,by rw [hρ id hid]; exact hp,hrow,⟨ho,by rw [← hl2]; exact hz⟩,fun k j hk hj=>?_⟩
       have hk':k<xs.length:=by omega
       have hj':j<xs[k].length:=by rw [hx k hk' hk]; exact hj
       obtain⟨u,hu,hru⟩:=hc k j hk' hj'
       exact⟨u,hu,hru.le (h2 k j hk' hk hj' hj)⟩
  ·exact⟨he,by simp,by simp,.inl ⟨by rw [hρ id hid]; exact i.mem.dom id h1,rfl⟩⟩
 ·simp only [ρ']; rw [if_neg (by simpa using hid)]
 ·simp only [ρ'] at hp
  split at hp
  ·exact i.mem.place id b o hp
  ·cases hp
 ·simp only [ρ'] at h1 h2
  split at h1
  ·split at h2
   ·exact i.mem.inj x y b o o' h1 h2
   ·cases h2
  ·cases h1
 ·simp only [ρ'] at hp
  split at hp
  ·exact (i.mem.sep b o hs).2 id o' hp
  ·cases hp
 ·rcases mkS_mem (l:=l) (t:=t) with h0 | ⟨v,h1,h2⟩
  ·simp only [h0]; trivial
  ·simp only [h2]
   have hle:=hl _ h1
   have hrf:=hr _ h1
   have rs:=i.slots t
   simp only at hle hrf
   generalize st.s t=sv at hle rs
   cases hle with
   | dead=>trivial
   | refl=>
    exact rs.mono (fun b o hs=>⟨hs,rfl⟩) fun id hid=>keep id (hrf id hid)
   | x h3=>exact sL h3 hrf rs
   | tup h3=>obtain⟨vs,hv,rs⟩:=rs; exact⟨vs,hv,sLs h3 hrf rs⟩
 ·obtain⟨g1,g2,g3⟩:=hR.1 id p hp
  have hv:=hV id p hp
  refine⟨g1,?_,hv⟩
  simp only [ρ']
  have hv':(mkH m id).isSome=true:=hv
  cases hb:mkH m id with
  | none=>rw [hb] at hv'; cases hv'
  | some b=>simp; exact g2
 ·simp only [ρ'] at hp
  split at hp
  ·exact hR.2 id b o hid hp
  ·cases hp
end Go.LS
