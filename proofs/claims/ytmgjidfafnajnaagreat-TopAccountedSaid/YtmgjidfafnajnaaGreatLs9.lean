/-
  The framework LS, part 9: a logical block is bound anew.
  No condition: lemmas.
-/
import Derived.Test.YtmgjidfafnajnaaGreatLs8
namespace Go.LS
set_option linter.all false
set_option linter.unusedSimpArgs false
set_option linter.unusedVariables false
section
variable {P:Program} {o:Oper} {a:Act} {w w' w0:World} {B:List Nat} {S S':Seen} {ρ:Place} {st:LState} {h:Heap}
theorem refs_kill (id:Nat) (c:CV):∀i∈refsC (killC id c),i≠id∧i∈refsC c:=by
 intro i hi
 cases c <;> simp only [killC] at hi
 case vw k=>split at hi <;> simp_all [refsC]
 case ptr k o=>split at hi <;> simp_all [refsC]
 case ap k x y=>split at hi <;> simp_all [refsC]
 case fn f ids=>split at hi <;> simp_all [refsC]; rintro rfl; simp_all
 all_goals simp_all [refsC]
theorem RepC.kill {id:Nat}{ρ':Place}{h':Heap}{v:Value}{c:CV}(r:RepC w S ρ h v c)
  (hm:∀b o,S b o→S' b o∧w'.cell? ⟨b,o,none⟩=w.cell? ⟨b,o,none⟩) (hk:∀i,i≠id→Keeps w w' ρ ρ' h h' i):RepC w' S' ρ' h' v (killC id c):=by
 by_cases hd:killC id c = .dead
 ·rw [hd]; exact .dead r.plain
 ·have hc:killC id c=c:=by
   cases c <;> simp only [killC] at hd ⊢
   all_goals (try (split at hd <;> simp_all))
  rw [hc]
  exact r.mono hm fun i hi=>hk i (refs_kill id c i (by rw [hc]; exact hi)).1
theorem RepCs.kill {id:Nat}{ρ':Place}{h':Heap}{vs:List Value}{cs:List CV}(r:RepCs w S ρ h vs cs)
  (hm:∀b o,S b o→S' b o∧w'.cell? ⟨b,o,none⟩=w.cell? ⟨b,o,none⟩) (hk:∀i,i≠id→Keeps w w' ρ ρ' h h' i):RepCs w' S' ρ' h' vs (cs.map (killC id)):=
 ⟨by simpa using r.1,fun i hv hc=>by simp only [List.getElem_map]; exact (r.2 i hv (by simpa using hc)).kill hm hk⟩
theorem RepL.kill {id:Nat}{ρ':Place}{h':Heap}{v:Value}{l:LV}(r:RepL w S ρ h v l)
  (hm:∀b o,S b o→S' b o∧w'.cell? ⟨b,o,none⟩=w.cell? ⟨b,o,none⟩) (hk:∀i,i≠id→Keeps w w' ρ ρ' h h' i):RepL w' S' ρ' h' v (l.map (killC id)):=by
 cases l with
 | one c=>exact RepC.kill r hm hk
 | agg cs=>obtain⟨vs,rfl,r⟩:=r; exact⟨vs,rfl,r.kill hm hk⟩
theorem RepS.kill {id:Nat}{ρ':Place}{h':Heap}{v:Value}{s:SV}(r:RepS w S ρ h v s)
  (hm:∀b o,S b o→S' b o∧w'.cell? ⟨b,o,none⟩=w.cell? ⟨b,o,none⟩) (hk:∀i,i≠id→Keeps w w' ρ ρ' h h' i):RepS w' S' ρ' h' v (s.map (killC id)):=by
 cases s with
 | dead=>trivial
 | x l=>exact RepL.kill r hm hk
 | tup ls=>
  obtain⟨vs,rfl,r⟩:=r
  exact⟨vs,rfl,by simpa using r.1,fun i hv hc=>by simp only [List.getElem_map]; exact (r.2 i hv (by simpa using hc)).kill hm hk⟩
 | wh g l=>exact⟨fun hg=>(r.1 hg).kill hm hk,r.2⟩
structure Turn (w w':World) (S S':Seen) (ρ:Place) (id:Nat) (pl:Option (Nat×Nat)):Prop where
 size:w.heap.size≤w'.heap.size
 old:∀b,b<w.heap.size→(∀o,ρ id≠some (b,o))→w'.heap[b]?=w.heap[b]?
 sub:∀b o,S b o→S' b o
 new:∀b o,S' b o→S b o∨(w.heap.size≤b∧b<w'.heap.size)
 place:∀b o,pl=some (b,o)→b<w'.heap.size∧(w.heap.size≤b∨∃o',ρ id=some (b,o'))∧∀o',¬ S' b o'
 calm:Calm w w'
 rows:RowsKept w w'
theorem Turn.seen {w0:World}{id:Nat}{pl:Option (Nat×Nat)}(m:Mem w0 B w S ρ h) (t:Turn w w' S S' ρ id pl) :
  ∀b o,S b o→S' b o∧w'.cell? ⟨b,o,none⟩=w.cell? ⟨b,o,none⟩:=fun b o hs=>
 ⟨t.sub b o hs,by simp only [World.cell?,t.old b (m.sep b o hs).1 fun o'=>(m.sep b o hs).2 id o']⟩
theorem Turn.keeps {w0:World}{id:Nat}{pl:Option (Nat×Nat)}{blk:Blk}(m:Mem w0 B w S ρ h) (t:Turn w w' S S' ρ id pl) :
  ∀i,i≠id→Keeps w w' ρ (upd ρ id pl) h (upd (killH id h) id (some blk)) i:=fun i hi=>
 ⟨by simp [upd,hi],fun e xs hx=>⟨xs,by simp [upd,hi,killH,hx,Blk.map],rfl⟩,fun _ _ b o c el _ hp hr=>⟨c,by
  unfold Row at *
  rw [t.old b (m.place i b o hp).1 fun o' hp'=>hi (m.inj i id b o o' hp hp')]; exact hr,rfl⟩⟩
theorem Mem.bind {w0:World}{id:Nat}{pl:Option (Nat×Nat)}{blk:Blk}(m:Mem w0 B w S ρ h) (t:Turn w w' S S' ρ id pl)
  (rb:RepB w' S' (upd ρ id pl) (upd (killH id h) id (some blk)) id blk):Mem w0 B w' S' (upd ρ id pl) (upd (killH id h) id (some blk)) where
 blocks:=fun i b hb=>by
  by_cases hi:i=id
  ·subst hi
   simp [upd] at hb; subst hb; exact rb
  ·simp only [upd,hi,if_false,killH] at hb
   obtain⟨b0,h0,rfl⟩:=Option.map_eq_some_iff.1 hb
   have hs:=t.seen m
   have hk:=t.keeps (blk:=blk) m
   have r:=m.blocks i b0 h0
   cases b0 with
   | var cs=>
    obtain⟨b,c,el,hp,hr,hc⟩:=r
    refine⟨b,c,el,by simpa [upd,hi] using hp,?_,hc.kill hs hk⟩
    unfold Row at *
    rw [t.old b (m.place i b 0 hp).1 fun o' hp'=>hi (m.inj i id b 0 o' hp hp')]; exact hr
   | arr e xs=>
    obtain⟨h1,h2,h3,h4⟩:=r
    refine⟨h1,h2,h3,?_⟩
    rcases h4 with⟨h4,h5⟩ | ⟨b,o,c,el,hp,hr,hz,hc⟩
    ·exact .inl ⟨by simpa [upd,hi] using h4,h5⟩
    ·refine .inr ⟨b,o,c,el,by simpa [upd,hi] using hp,?_,hz,fun k j hk' hj=>?_⟩
     ·unfold Row at *
      rw [t.old b (m.place i b o hp).1 fun o' hp'=>hi (m.inj i id b o o' hp hp')]; exact hr
     ·obtain⟨v,hv,hr⟩:=hc k j hk' hj
      exact⟨v,hv,hr.mono hs⟩
 dom:=fun i hi=>by
  by_cases hid:i=id
  ·subst hid; simp [upd] at hi
  ·simp only [upd,hid,if_false,killH] at hi ⊢
   exact m.dom i (by simpa using hi)
 place:=fun i b o hp=>by
  by_cases hi:i=id
  ·subst hi
   simp [upd] at hp
   obtain⟨h1,h2,_⟩:=t.place b o hp
   refine⟨h1,?_⟩
   rcases h2 with h2 | ⟨o',h2⟩
   ·exact .inl (Nat.le_trans m.size h2)
   ·exact (m.place i b o' h2).2
  ·simp [upd,hi] at hp
   exact⟨Nat.lt_of_lt_of_le (m.place i b o hp).1 t.size,(m.place i b o hp).2⟩
 inj:=fun i j b o o' hi hj=>by
  by_cases h1:i=id <;> by_cases h2:j=id
  ·rw [h1,h2]
  ·subst h1
   simp [upd,h2] at hi hj
   obtain⟨_,h3,_⟩:=t.place b o hi
   rcases h3 with h3 | ⟨o2,h3⟩
   ·have:=(m.place j b o' hj).1; omega
   ·exact (m.inj i j b o2 o' h3 hj)
  ·subst h2
   simp [upd,h1] at hi hj
   obtain⟨_,h3,_⟩:=t.place b o' hj
   rcases h3 with h3 | ⟨o2,h3⟩
   ·have:=(m.place i b o hi).1; omega
   ·exact (m.inj i j b o o2 hi h3)
  ·simp [upd,h1,h2] at hi hj
   exact m.inj i j b o o' hi hj
 sep:=fun b o hs=>by
  have hne:∀o',pl≠some (b,o'):=fun o' hp=>(t.place b o' hp).2.2 o hs
  rcases t.new b o hs with hs' | ⟨h1,h2⟩
  ·refine⟨Nat.lt_of_lt_of_le (m.sep b o hs').1 t.size,fun i o' hp=>?_⟩
   by_cases hi:i=id
   ·subst hi; simp [upd] at hp; exact hne o' hp
   ·simp [upd,hi] at hp; exact (m.sep b o hs').2 i o' hp
  ·refine⟨h2,fun i o' hp=>?_⟩
   by_cases hi:i=id
   ·subst hi; simp [upd] at hp; exact hne o' hp
   ·simp [upd,hi] at hp; have:=(m.place i b o' hp).1; omega
 size:=Nat.le_trans m.size t.size
 frame:=fun b hb hB=>by
  rw [t.old b (Nat.lt_of_lt_of_le hb m.size) fun o' hp=>?_]
  ·exact m.frame b hb hB
  ·rcases (m.place id b o' hp).2 with h | h
   ·omega
   ·exact hB h
 calm:=m.calm.trans t.calm
 rows:=m.rows.trans t.rows
 tab:=m.tab
theorem InvAt.bind {w0:World}{id d:Nat}{pl:Option (Nat×Nat)}{blk:Blk}{v:Value}{l:LV}(i:InvAt w0 B S ρ st a w) (t:Turn w w' S S' ρ id pl) (hd:d<st.n)
  (rb:RepB w' S' (upd ρ id pl) (upd (killH id st.h) id (some blk)) id blk) (rv:RepL w' S' (upd ρ id pl) (upd (killH id st.h) id (some blk)) v l) :
  InvAt w0 B S' (upd ρ id pl) (bindB st id blk d l) (a.put (some d) v) w':=by
 refine⟨i.mem.bind t rb,by simp [Act.put,bindB,i.tmps],i.defers.mono (fun b hb hn=>t.old b hb (hn id)) (fun k b o hp=>by
  by_cases hk:k=id
  ·subst hk
   simp [upd] at hp
   rcases (t.place b o hp).2.1 with h | ⟨o',h⟩
   ·exact .inr h
   ·exact .inl ⟨_,o',h⟩
  ·simp [upd,hk] at hp
   exact .inl ⟨k,o,hp⟩),fun k=>?_⟩
 rw [getD_put a d k v (by rw [i.tmps]; exact hd)]
 simp only [bindB,upd]
 split
 ·exact rv
 ·exact (i.slots k).kill (t.seen i.mem) (t.keeps i.mem)
theorem Turn.ofGrow {id:Nat}{pl:Option (Nat×Nat)}(g:Grow w w' S S') (hp:∀b o,pl=some (b,o)→b<w'.heap.size∧(w.heap.size≤b∨∃o',ρ id=some (b,o'))∧∀o',¬ S' b o'):Turn w w' S S' ρ id pl:=
 ⟨g.size,fun b hb _=>g.old b hb,g.sub,g.new,hp,g.calm,g.rows⟩
theorem grow_alloc' (w:World) (S:Seen) (ob:Obj):Grow w (w.alloc ob) S S:=
 ⟨by simp,fun b hb=>alloc_old w ob b hb,fun b o h=>h,fun b o h=>.inl h,⟨rfl,rfl,rfl⟩⟩
end
end Go.LS
