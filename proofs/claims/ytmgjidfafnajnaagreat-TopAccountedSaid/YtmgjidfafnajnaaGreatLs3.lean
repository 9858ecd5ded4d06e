/-
  The framework LS, part 3: how readings are carried from one world to another.
  No condition: lemmas.
-/
import Derived.Test.YtmgjidfafnajnaaGreatLs2
import Derived.Laws.Rows
import Derived.Laws.Cells
import Derived.Laws.Small
import Derived.Laws.Slices
namespace Go.LS
set_option linter.all false
set_option linter.unusedSimpArgs false
set_option linter.unusedVariables false
theorem RepP.mono {w w':World}{S S':Seen}{v:Value}{x:PV}(r:RepP w S v x)
  (hm:∀b o,S b o→S' b o∧w'.cell? ⟨b,o,none⟩=w.cell? ⟨b,o,none⟩):RepP w' S' v x:=by
 induction r with
 | val v hv=>exact .val v hv
 | nil=>exact .nil
 | slnil e=>exact .slnil e
 | sl b o n cap e f xs hn hcap he hr hl hc _ ih=>
  refine .sl b o n cap e f xs hn hcap he hr hl (fun i j hi hj=>?_) (fun i j hi hj=>ih i j hi hj)
  obtain⟨h1,h2⟩:=hc i j hi hj
  exact⟨(hm _ _ h1).1,by rw [(hm _ _ h1).2]; exact h2⟩
theorem Shows.mono {w w':World}{S S':Seen}{b o:Nat}{cs:List PV}(r:Shows w S b o cs)
  (hm:∀b o,S b o→S' b o∧w'.cell? ⟨b,o,none⟩=w.cell? ⟨b,o,none⟩):Shows w' S' b o cs:=by
 intro j hj
 obtain⟨v,h1,h2,h3⟩:=r j hj
 exact⟨v,(hm _ _ h1).1,by rw [(hm _ _ h1).2]; exact h2,h3.mono hm⟩
structure Keeps (w w':World) (ρ ρ':Place) (h h':Heap) (id:Nat):Prop where
 place:ρ' id=ρ id
 arr:∀e xs,h id=some (.arr e xs)→∃xs',h' id=some (.arr e xs')∧xs'.length=xs.length
 row:∀e xs b o c el,h id=some (.arr e xs)→ρ id=some (b,o)→Row w b c el→∃c',Row w' b c' el∧c'.size=c.size
theorem RepC.mono {w w':World}{S S':Seen}{ρ ρ':Place}{h h':Heap}{v:Value}{c:CV}(r:RepC w S ρ h v c)
  (hm:∀b o,S b o→S' b o∧w'.cell? ⟨b,o,none⟩=w.cell? ⟨b,o,none⟩) (hk:∀id∈refsC c,Keeps w w' ρ ρ' h h' id):RepC w' S' ρ' h' v c:=by
 cases r with
 | p r=>exact .p (r.mono hm)
 | fl r=>exact .fl (r.mono hm)
 | @vw id e b o cap xs c el hb hp hrow hcap hroom hmx=>
  have k:=hk id (by simp [refsC])
  obtain⟨xs',h1,h2⟩:=k.arr _ _ hb
  obtain⟨c',h3,h4⟩:=k.row _ _ _ _ _ _ hb hp hrow
  rw [← h2]
  exact .vw h1 (k.place.trans hp) h3 (by omega) (by omega) (by omega)
 | @vwnil id e hb=>
  have k:=hk id (by simp [refsC])
  obtain⟨xs',h1,h2⟩:=k.arr _ _ hb
  have:xs'=[]:=List.eq_nil_of_length_eq_zero (by simpa using h2)
  subst this
  exact .vwnil h1
 | @ptr id off b o hp=>exact .ptr ((hk id (by simp [refsC])).place.trans hp)
 | @ap id e i j b o xs hb hp=>
  have k:=hk id (by simp [refsC])
  obtain⟨xs',h1,_⟩:=k.arr _ _ hb
  exact .ap h1 (k.place.trans hp)
 | ep r=>exact .ep (r.mono hm)
 | @fn f ids vs hn hv=>
  refine .fn hn fun i hi=>?_
  obtain⟨b,o,h1,h2⟩:=hv i hi
  exact⟨b,o,(hk ids[i] (by simp [refsC])).place.trans h1,h2⟩
 | dead hv=>exact .dead hv
theorem RepCs.mono {w w':World}{S S':Seen}{ρ ρ':Place}{h h':Heap}{vs:List Value}{cs:List CV}(r:RepCs w S ρ h vs cs)
  (hm:∀b o,S b o→S' b o∧w'.cell? ⟨b,o,none⟩=w.cell? ⟨b,o,none⟩) (hk:∀id∈cs.flatMap refsC,Keeps w w' ρ ρ' h h' id):RepCs w' S' ρ' h' vs cs:=
 ⟨r.1,fun i hv hc=>(r.2 i hv hc).mono hm fun id hid=>hk id (List.mem_flatMap.2 ⟨cs[i],List.getElem_mem hc,hid⟩)⟩
theorem RepL.mono {w w':World}{S S':Seen}{ρ ρ':Place}{h h':Heap}{v:Value}{l:LV}(r:RepL w S ρ h v l)
  (hm:∀b o,S b o→S' b o∧w'.cell? ⟨b,o,none⟩=w.cell? ⟨b,o,none⟩) (hk:∀id∈refsL l,Keeps w w' ρ ρ' h h' id):RepL w' S' ρ' h' v l:=by
 cases l with
 | one c=>exact RepC.mono r hm hk
 | agg cs=>obtain⟨vs,rfl,r⟩:=r; exact⟨vs,rfl,r.mono hm hk⟩
theorem RepLs.mono {w w':World}{S S':Seen}{ρ ρ':Place}{h h':Heap}{vs:List Value}{ls:List LV}(r:RepLs w S ρ h vs ls)
  (hm:∀b o,S b o→S' b o∧w'.cell? ⟨b,o,none⟩=w.cell? ⟨b,o,none⟩) (hk:∀id∈ls.flatMap refsL,Keeps w w' ρ ρ' h h' id):RepLs w' S' ρ' h' vs ls:=
 ⟨r.1,fun i hv hc=>(r.2 i hv hc).mono hm fun id hid=>hk id (List.mem_flatMap.2 ⟨ls[i],List.getElem_mem hc,hid⟩)⟩
theorem RepS.mono {w w':World}{S S':Seen}{ρ ρ':Place}{h h':Heap}{v:Value}{s:SV}(r:RepS w S ρ h v s)
  (hm:∀b o,S b o→S' b o∧w'.cell? ⟨b,o,none⟩=w.cell? ⟨b,o,none⟩) (hk:∀id∈refsS s,Keeps w w' ρ ρ' h h' id):RepS w' S' ρ' h' v s:=by
 cases s with
 | dead=>trivial
 | x l=>exact RepL.mono r hm hk
 | tup ls=>obtain⟨vs,rfl,r⟩:=r; exact⟨vs,rfl,r.mono hm hk⟩
 | wh g l=>exact⟨fun hg=>(r.1 hg).mono hm hk,r.2⟩
structure Grow (w w':World) (S S':Seen):Prop where
 size:w.heap.size≤w'.heap.size
 old:∀b,b<w.heap.size→w'.heap[b]?=w.heap[b]?
 sub:∀b o,S b o→S' b o
 new:∀b o,S' b o→S b o∨(w.heap.size≤b∧b<w'.heap.size)
 calm:Calm w w'
theorem Grow.refl (w:World) (S:Seen):Grow w w S S:=⟨Nat.le_refl _,fun _ _=>rfl,fun _ _ h=>h,fun _ _ h=>.inl h,Calm.refl w⟩
theorem Grow.rows {w w':World}{S S':Seen}(g:Grow w w' S S'):RowsKept w w':=fun b c el h=>by
 refine⟨c,?_,rfl⟩
 unfold Row at *
 have hb:b<w.heap.size:=by
  rcases Nat.lt_or_ge b w.heap.size with h1 | h1
  ·exact h1
  ·rw [Array.getElem?_eq_none h1] at h; cases h
 rw [g.old b hb]; exact h
theorem Grow.cell {w w':World}{S S':Seen}(g:Grow w w' S S'){b o:Nat}(h:b<w.heap.size):w'.cell? ⟨b,o,none⟩=w.cell? ⟨b,o,none⟩:=by
 simp only [World.cell?,g.old b h]
theorem Grow.seen {w w':World}{S S':Seen}(g:Grow w w' S S') (hs:∀b o,S b o→b<w.heap.size) :
  ∀b o,S b o→S' b o∧w'.cell? ⟨b,o,none⟩=w.cell? ⟨b,o,none⟩:=fun b o h=>⟨g.sub b o h,g.cell (hs b o h)⟩
theorem Mem.keeps {w0:World}{B:List Nat}{w w':World}{S S':Seen}{ρ:Place}{h:Heap}(m:Mem w0 B w S ρ h) (g:Grow w w' S S') (id:Nat):Keeps w w' ρ ρ h h id:=
 ⟨rfl,fun e xs hx=>⟨xs,hx,rfl⟩,fun _ _ b o c el _ hp hr=>⟨c,by have:=(m.place id b o hp).1; unfold Row at *; rw [g.old b this]; exact hr,rfl⟩⟩
theorem RepB.grow {w0:World}{B:List Nat}{w w':World}{S S':Seen}{ρ:Place}{h:Heap}(m:Mem w0 B w S ρ h) (g:Grow w w' S S'){id:Nat}{blk:Blk}
  (r:RepB w S ρ h id blk):RepB w' S' ρ h id blk:=by
 have hs:=g.seen fun b o h=>(m.sep b o h).1
 cases blk with
 | var cs=>
  obtain⟨b,c,el,hp,hr,hc⟩:=r
  refine⟨b,c,el,hp,?_,hc.mono hs fun id _=>m.keeps g id⟩
  unfold Row at *; rw [g.old b (m.place id b 0 hp).1]; exact hr
 | arr e xs=>
  obtain⟨h1,h2,h3,h4⟩:=r
  refine⟨h1,h2,h3,?_⟩
  rcases h4 with h4 | ⟨b,o,c,el,hp,hr,hz,hc⟩
  ·exact .inl h4
  ·refine .inr ⟨b,o,c,el,hp,?_,hz,fun i j hi hj=>?_⟩
   ·unfold Row at *; rw [g.old b (m.place id b o hp).1]; exact hr
   ·obtain⟨v,hv,hr⟩:=hc i j hi hj
    exact⟨v,hv,hr.mono hs⟩
theorem Mem.grow {w0:World}{B:List Nat}{w w':World}{S S':Seen}{ρ:Place}{h:Heap}(m:Mem w0 B w S ρ h) (g:Grow w w' S S'):Mem w0 B w' S' ρ h where
 blocks:=fun id blk hb=>(m.blocks id blk hb).grow m g
 dom:=m.dom
 place:=fun id b o hp=>⟨Nat.lt_of_lt_of_le (m.place id b o hp).1 g.size,(m.place id b o hp).2⟩
 inj:=m.inj
 sep:=fun b o hs=>by
  rcases g.new b o hs with hs | ⟨hs,hs'⟩
  ·exact⟨Nat.lt_of_lt_of_le (m.sep b o hs).1 g.size,(m.sep b o hs).2⟩
  ·exact⟨hs',fun id o' hp=>by have:=(m.place id b o' hp).1; omega⟩
 size:=Nat.le_trans m.size g.size
 frame:=fun b hb hB=>by rw [g.old b (Nat.lt_of_lt_of_le hb m.size)]; exact m.frame b hb hB
 calm:=m.calm.trans g.calm
 rows:=m.rows.trans g.rows
 tab:=m.tab
theorem Mem.other {w0:World}{B:List Nat}{w w':World}{S:Seen}{ρ:Place}{h:Heap}{D:Nat}{x y:Option (List Deferred)}(m:Mem w0 B w S ρ h) (hs:w'.heap.size=w.heap.size) (hk:∀b,b≠D→w'.heap[b]?=w.heap[b]?)
  (hD:∀id o,ρ id≠some (D,o)) (h0:w0.heap.size≤D) (h1:w.heap[D]?=some (.deferred x)) (h2:w'.heap[D]?=some (.deferred y)) (hc:Calm w w'):Mem w0 B w' S ρ h ∧
   (∀b o,w'.cell? ⟨b,o,none⟩=w.cell? ⟨b,o,none⟩)∧∀id,Keeps w w' ρ ρ h h id:=by
 have cell:∀b o,w'.cell? ⟨b,o,none⟩=w.cell? ⟨b,o,none⟩:=fun b o=>by
  by_cases e:b=D
  ·subst e; simp only [World.cell?,h1,h2]
  ·simp only [World.cell?,hk b e]
 have row:∀b c el,Row w b c el→Row w' b c el:=fun b c el hr=>by
  unfold Row at *
  by_cases e:b=D
  ·subst e; rw [h1] at hr; cases hr
  ·rw [hk b e]; exact hr
 have keeps:∀id,Keeps w w' ρ ρ h h id:=fun id=>⟨rfl,fun e xs hx=>⟨xs,hx,rfl⟩,fun _ _ b o c el _ hp hr=>⟨c,row _ _ _ hr,rfl⟩⟩
 have hsn:∀b o,S b o→S b o∧w'.cell? ⟨b,o,none⟩=w.cell? ⟨b,o,none⟩:=fun b o h=>⟨h,cell b o⟩
 refine⟨⟨fun id blk hb=>?_,m.dom,fun id b o hp=>⟨by rw [hs]; exact (m.place id b o hp).1,(m.place id b o hp).2⟩,m.inj,fun b o h=>⟨by rw [hs]; exact (m.sep b o h).1,(m.sep b o h).2⟩,by rw [hs]; exact m.size,
  fun b hb hB=>by rw [hk b (by omega)]; exact m.frame b hb hB,m.calm.trans hc,m.rows.trans (fun b c el hr=>⟨c,row _ _ _ hr,rfl⟩),m.tab⟩,cell,keeps⟩
 have r:=m.blocks id blk hb
 cases blk with
 | var cs=>
  obtain⟨b,c,el,hp,hr,hc⟩:=r
  exact⟨b,c,el,hp,row _ _ _ hr,hc.mono hsn fun id _=>keeps id⟩
 | arr e xs=>
  obtain⟨g1,g2,g3,g4⟩:=r
  refine⟨g1,g2,g3,?_⟩
  rcases g4 with g4 | ⟨b,o,c,el,hp,hr,hz,hc⟩
  ·exact .inl g4
  ·exact .inr ⟨b,o,c,el,hp,row _ _ _ hr,hz,fun i j hi hj=>by
    obtain⟨v,hv,hr⟩:=hc i j hi hj
    exact⟨v,hv,hr.mono hsn⟩⟩
theorem getD_put (a:Act) (d t:Nat) (v:Value) (hd:d<a.tmps.size):(a.put (some d) v).tmps.getD t undef=if t=d then v else a.tmps.getD t undef:=by
 simp only [Act.put,Array.getD_eq_getD_getElem?,Array.getElem?_setIfInBounds]
 by_cases h:t=d
 ·subst h; simp [hd]
 ·simp [h,Ne.symm h]
theorem InvAt.putQ {w0:World}{B:List Nat}{S S':Seen}{ρ:Place}{st:LState}{a:Act}{w w':World}(i:InvAt w0 B S ρ st a w) (g:Grow w w' S S')
  {d:Option Nat} {v:Value} {s:SV} (hd:dstOk st d) (r:RepS w' S' ρ st.h v s):InvAt w0 B S' ρ (putV st d s) (a.put d v) w':=by
 cases d with
 | none=>exact hd.elim
 | some d=>
  have hd':d<a.tmps.size:=by rw [i.tmps]; exact hd
  refine⟨i.mem.grow g,?_,i.defers.mono (fun b hb _=>g.old b hb) (fun id b o h=>.inl ⟨id,o,h⟩),fun t=>?_⟩
  ·simp [Act.put,putV,i.tmps]
  ·rw [getD_put a d t v hd']
   simp only [putV,upd]
   split
   ·exact r
   ·exact (i.slots t).mono (g.seen fun b o h=>(i.mem.sep b o h).1) fun id _=>i.mem.keeps g id
end Go.LS
