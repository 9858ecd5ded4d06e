/-
  Walks of entry.step and of the conditions of custody.step. No condition but those that each theorem names.
-/
import Derived.Test.YtmgjidfafnajnaaGreatZXC
import Derived.Test.YtmgjidfafnajnaaGreatZXA
import Derived.Test.YtmgjidfafnajnaaGreatZXB
import Derived.Test.YtmgjidfafnajnaaGreatSh
import Derived.BigQuiet
import Derived.Laws.EntriesVeiled
namespace Go.Proofs
open Go.RowKit Go.LS Go.Deep
set_option linter.all false
def SlAt (w:World) (v:Value) (n z:Nat) (xs:List Value):Prop:=
 xs.length=n*z∧((v = .slice none 0 0∧n=0)∨∃b o cap,v = .slice (some ⟨b,o,none⟩) n cap∧∀j u,xs[j]?=some u→b<w.heap.size∧w.cell? ⟨b,o+j,none⟩=some u)
theorem SlAt.since {w w':World}{v:Value}{n z:Nat}{xs:List Value}(h:SlAt w v n z xs) (hs:w.Since w.heap.size w'):SlAt w' v n z xs:=by
 refine⟨h.1,?_⟩
 rcases h.2 with h' | ⟨b,o,cap,rfl,h'⟩
 ·exact .inl h'
 ·refine .inr ⟨b,o,cap,rfl,fun j u hj=>?_⟩
  obtain⟨h1,h2⟩:=h' j u hj
  exact⟨Nat.lt_of_lt_of_le h1 hs.size,(hs.cell (a:=⟨b,o+j,none⟩) h1).trans h2⟩
theorem SlAt.form {w:World}{v:Value}{n z:Nat}{xs:List Value}(h:SlAt w v n z xs):∃ao cap,v = .slice ao n cap∧∀ (j:Nat) (u:Value),xs[j]?=some u→∃b o,ao=some ⟨b,o,none⟩∧b<w.heap.size∧∀ (j:Nat) (u:Value),xs[j]?=some u→w.cell? ⟨b,o+j,none⟩=some u:=by
 rcases h.2 with⟨rfl,rfl⟩ | ⟨b,o,cap,rfl,h'⟩
 ·refine⟨none,0,rfl,fun j u hj=>?_⟩
  have h0:xs=[]:=List.eq_nil_of_length_eq_zero (by rw [h.1]; omega)
  subst h0
  simp at hj
 ·exact⟨_,cap,rfl,fun j u hj=>⟨b,o,rfl,(h' j u hj).1,fun j u hj=>(h' j u hj).2⟩⟩
abbrev Enr:=Int×Int×Int×Bool
def enrZ (l:List Enr):List Value:=l.flatMap fun x=>[.int .i64 x.1,.int .i64 x.2.1,.int .i64 x.2.2.1,.bool x.2.2.2]
theorem flat_len {α:Type}(f:α→List Value) (z:Nat) (hf:∀x,(f x).length=z) (l:List α):(l.flatMap f).length=l.length*z:=by
 induction l with
 | nil=>simp
 | cons x l ih=>rw [List.flatMap_cons,List.length_append,ih,hf,List.length_cons,Nat.succ_mul]; omega
theorem flat_take {α:Type}(f:α→List Value) (z:Nat) (hf:∀x,(f x).length=z):∀ (l:List α) (i:Nat),(l.flatMap f).take (i*z)=(l.take i).flatMap f
 | [],i=>by simp
 | x :: l,0=>by simp
 | x :: l,i+1=>by
  rw [List.take_succ_cons,List.flatMap_cons,List.flatMap_cons,← flat_take f z hf l i,List.take_append,List.take_of_length_le (by rw [hf,Nat.succ_mul]; omega),hf,Nat.succ_mul,Nat.add_sub_cancel]
theorem flat_drop {α:Type}(f:α→List Value) (z:Nat) (hf:∀x,(f x).length=z):∀ (l:List α) (i:Nat),(l.flatMap f).drop (i*z)=(l.drop i).flatMap f
 | [],i=>by simp
 | x :: l,0=>by simp
 | x :: l,i+1=>by
  rw [List.drop_succ_cons,List.flatMap_cons,← flat_drop f z hf l i,List.drop_append,List.drop_of_length_le (by rw [hf,Nat.succ_mul]; omega),hf,Nat.succ_mul,Nat.add_sub_cancel,List.nil_append]
theorem flat_get {α:Type}(f:α→List Value) (z:Nat) (hf:∀x,(f x).length=z) (l:List α) (i j:Nat) (hi:i<l.length) (hj:j<z):(l.flatMap f)[i*z+j]?=(f l[i])[j]?:=by
 rw [← List.getElem?_drop,flat_drop f z hf,List.drop_eq_getElem_cons hi,List.flatMap_cons,List.getElem?_append_left (by rw [hf]; exact hj)]
theorem enr_four (x:Enr):([Value.int .i64 x.1,.int .i64 x.2.1,.int .i64 x.2.2.1,.bool x.2.2.2]:List Value).length=4:=rfl
theorem enrZ_len (l:List Enr):(enrZ l).length=l.length*4:=flat_len _ 4 enr_four l
theorem enrZ_take (l:List Enr) (i:Nat):(enrZ l).take (i*4)=enrZ (l.take i):=flat_take _ 4 enr_four l i
theorem enrZ_drop (l:List Enr) (i:Nat):(enrZ l).drop (i*4)=enrZ (l.drop i):=flat_drop _ 4 enr_four l i
theorem enrZ_app (l m:List Enr):enrZ (l++m)=enrZ l++enrZ m:=by simp [enrZ]
theorem enrZ_one (l:List Enr):∀u∈enrZ l,u.oneCell'=true:=fun u hu=>by
 obtain⟨x,_,hx⟩:=List.mem_flatMap.1 hu
 simp at hx
 rcases hx with rfl | rfl | rfl | rfl <;> rfl
theorem enrZ_get (l:List Enr) (i:Nat) (h:i<l.length):(enrZ l)[i*4]?=some (.int .i64 l[i].1)∧(enrZ l)[i*4+1]?=some (.int .i64 l[i].2.1)∧(enrZ l)[i*4+2]?=some (.int .i64 l[i].2.2.1)∧(enrZ l)[i*4+3]?=some (.bool l[i].2.2.2):=by
 have:=fun j hj=>flat_get (fun x:Enr=>[.int .i64 x.1,.int .i64 x.2.1,.int .i64 x.2.2.1,.bool x.2.2.2]) 4 enr_four l i j h hj
 exact⟨this 0 (by decide),this 1 (by decide),this 2 (by decide),this 3 (by decide)⟩
theorem enrZ_set (l:List Enr) (i:Nat) (h:i<l.length) (to:Int):(enrZ l).set (i*4+1) (.int .i64 to)=enrZ (l.set i (l[i].1,to,l[i].2.2)):=by
 have h1:enrZ l=enrZ (l.take i)++(enrZ [l[i]]++enrZ (l.drop (i+1))):=by rw [← enrZ_app,← enrZ_app]; congr 1; rw [List.singleton_append,← List.drop_eq_getElem_cons h,List.take_append_drop]
 have h2:enrZ (l.set i (l[i].1,to,l[i].2.2))=enrZ (l.take i)++(enrZ [(l[i].1,to,l[i].2.2)]++enrZ (l.drop (i+1))):=by
  rw [← enrZ_app,← enrZ_app]; congr 1; rw [List.set_eq_take_append_cons_drop,if_pos h]; simp
 have hl:(enrZ (l.take i)).length=i*4:=by rw [enrZ_len,List.length_take,Nat.min_eq_left (by omega)]
 rw [h1,h2,List.set_append_right _ _ (by omega),hl,show i*4+1 - i*4=1 by omega]
 rfl
theorem Tryz.CloneE_walk (v:Value) (l:List Enr) (w:World) (hn:l.length≤1000) (h:SlAt w v l.length 4 (enrZ l)) :
  Calls Tryz.prog 47 #[v] w fun e w'=>∃v',e = .returned v'∧w'.ownsRow w.heap.size 91 4 v' l.length (enrZ l)∧Below w.heap.size w w':=by
 obtain⟨i9,hi9,hz90,hz91,hz92⟩:=info_parts Tryz.info91
 rcases h.2 with⟨rfl,h0⟩ | ⟨b,o,cap,rfl,hc⟩
 ·refine (Tryz.slices_CloneE_nil 0 0 w).mono ?_
  rintro e w' ⟨rfl,rfl⟩
  have h1:l=[]:=List.eq_nil_of_length_eq_zero h0
  subst h1
  exact⟨_,rfl,World.ownsRow_nil _ _ _ _,Below.refl _ _⟩
 ·refine (Tryz.slices_CloneE i9 _ 4 32 hi9 hz90 hz91 hz92 rfl (by decide) Tryz.sizeOf91 b o l.length cap (enrZ l) w (enrZ_len l) (by unfold maxLen; omega) (by omega) (fun j u hj=>(hc j u hj).2) (enrZ_one l)).mono ?_
  rintro e w' ⟨v',rfl,h1,_,h2⟩
  exact⟨v',rfl,h1,h2⟩
def stepE (vE:Bool) (place:Nat) (there:Bool) (l:List Enr) (dc dl:Int) (c:Nat→Int):List Enr×Int:=
 if vE=false then ([],2) else if c 1≠0∧c 1≠c 5 then ([],28) else if dl<c 0 then ([],27)
 else if c 3=1 then
  if there=true then (if (l.getD place (0,0,0,false)).2.1=c 5 then ([],5) else ([],9))
  else (l.take place++[(c 4,c 5,c 6,decide (dc<c 0))]++l.drop place,0)
 else if there=false∨(l.getD place (0,0,0,false)).2.1≠c 5 then ([],4)
 else if c 3=2 then (l.take place++l.drop (place+1),0)
 else (l.set place ((l.getD place (0,0,0,false)).1,c 7,(l.getD place (0,0,0,false)).2.2),0)
def StepEPost (r:List Enr×Int) (w:World) (e:Ending) (w':World):Prop:=
 ∃v,e = .returned (.tuple #[v,.int .i64 r.2])∧w.Since w.heap.size w'∧w'.ownsRow w.heap.size 91 4 v r.1.length (enrZ r.1)
theorem own_setE {w:World}{B e size g n cap:Nat}{xs:List Value}(h:w.ownsRow B e size (.slice (some ⟨g,0,none⟩) n cap) n xs) (k:Nat) (hk:k<n*size) (u:Value) :
  (w.setCell ⟨g,k,none⟩ u).ownsRow B e size (.slice (some ⟨g,0,none⟩) n cap) n (xs.set k u):=by
 rcases h.2 with⟨h1,_⟩ | ⟨g',cap',cur,e1,hb,hc,hn,hm,hs,ht⟩
 ·cases h1
 ·cases e1
  refine⟨by rw [List.length_set]; exact h.1,.inr ⟨g,cap,cur.setIfInBounds k u,rfl,hb,?_,hn,hm,by simpa using hs,?_⟩⟩
  ·simp [World.setCell,hc,Array.getElem?_modify]
  ·rw [← ht,Array.toList_setIfInBounds,List.take_set]
theorem own_baseE {w:World}{B B' e size n:Nat}{v:Value}{xs:List Value}(h:w.ownsRow B e size v n xs) (hB:B'≤B):w.ownsRow B' e size v n xs:=by
 refine⟨h.1,?_⟩
 rcases h.2 with h1 | ⟨g,cap,cur,e1,hb,rest⟩
 ·exact .inl h1
 ·exact .inr ⟨g,cap,cur,e1,Nat.le_trans hB hb,rest⟩
theorem since_drewN (w:World) (n:Nat):w.Since w.heap.size (w.drewN n):=⟨rfl,rfl,rfl,Nat.le_refl _,fun _ _=>rfl⟩
structure StepW (w wr:World) (dc dl:Int) (c:Nat→Int):Prop where
 since:w.Since w.heap.size wr
 b0:wr.heap[w.heap.size]?=some (.cells #[.int .i64 dc,.int .i64 dl] 26)
 b1:wr.heap[w.heap.size+1]?=some (.cells #[.int .i64 (c 0),.int .i64 (c 1),.int .i64 (c 2),.int .i64 (c 3),.int .i64 (c 4),.int .i64 (c 5),.int .i64 (c 6),.int .i64 (c 7)] 40)
theorem StepW.keep {w wr w':World}{dc dl:Int}{c:Nat→Int}(h:StepW w wr dc dl c) (hs:wr.Since wr.heap.size w'):StepW w w' dc dl c:=by
 have l0:=(Array.getElem?_eq_some_iff.1 h.b0).1
 have l1:=(Array.getElem?_eq_some_iff.1 h.b1).1
 exact⟨h.since.trans (zJ9 hs (by omega)),(hs.block _ l0).trans h.b0,(hs.block _ l1).trans h.b1⟩
theorem sinceOf {w w':World}(h:Below w.heap.size w w'):w.Since w.heap.size w':=⟨h.os,h.tape,h.output,h.size,h.block⟩
theorem StepW.le {w wr:World}{dc dl:Int}{c:Nat→Int}(h:StepW w wr dc dl c):w.heap.size+2≤wr.heap.size:=(Array.getElem?_eq_some_iff.1 h.b1).1
theorem stepE_err {r:List Enr×Int}{w wr:World}{k:Int}(h:w.Since w.heap.size wr) (hr:r=([],k)):StepEPost r w (.returned (.tuple #[.slice none 0 0,.int .i64 k])) wr:=by
 subst hr
 exact⟨_,rfl,h,World.ownsRow_nil _ _ _ _⟩
set_option maxHeartbeats 64000000 in
set_option maxRecDepth 100000 in
theorem Tryz.stepE_walk (v:Value) (l:List Enr) (dc dl:Int) (c:Nat→Int) (vE:Bool) (place:Nat) (there:Bool) (w:World) (hn:l.length≤250) (hl:SlAt w v l.length 4 (enrZ l)) (hp:place≤l.length) (hpt:there=true→place<l.length)
  (hV:∀w1,w.Since w.heap.size w1→Calls Tryz.prog 44 #[.agg #[.int .i64 (c 0),.int .i64 (c 1),.int .i64 (c 2),.int .i64 (c 3),.int .i64 (c 4),.int .i64 (c 5),.int .i64 (c 6),.int .i64 (c 7)]] w1 fun e w'=>e = .returned (.bool vE)∧Below w1.heap.size w1 w')
  (hBS:∀w1,w.Since w.heap.size w1→Calls Tryz.prog 45 #[v,.agg #[.int .i64 (c 4),.int .i64 (c 5),.int .i64 (c 6)],.func (.func 46) #[] #[]] w1 fun e w'=>e = .returned (.tuple #[.int .i64 (place:Int),.bool there])∧Below w1.heap.size w1 w') :
  Calls Tryz.prog 32 #[v,.agg #[.int .i64 dc,.int .i64 dl],.agg #[.int .i64 (c 0),.int .i64 (c 1),.int .i64 (c 2),.int .i64 (c 3),.int .i64 (c 4),.int .i64 (c 5),.int .i64 (c 6),.int .i64 (c 7)]] w (StepEPost (stepE vE place there l dc dl c) w):=by
 obtain⟨ao,cap,rfl,hao⟩:=hl.form
 obtain⟨r,hr⟩:∃r,r=stepE vE place there l dc dl c:=⟨_,rfl⟩
 rw [← hr]
 unfold stepE at hr
 obtain⟨a0,h0⟩:∃a,a=c 0:=⟨_,rfl⟩
 obtain⟨a1,h1⟩:∃a,a=c 1:=⟨_,rfl⟩
 obtain⟨a2,h2⟩:∃a,a=c 2:=⟨_,rfl⟩
 obtain⟨a3,h3⟩:∃a,a=c 3:=⟨_,rfl⟩
 obtain⟨a4,h4⟩:∃a,a=c 4:=⟨_,rfl⟩
 obtain⟨a5,h5⟩:∃a,a=c 5:=⟨_,rfl⟩
 obtain⟨a6,h6⟩:∃a,a=c 6:=⟨_,rfl⟩
 obtain⟨a7,h7⟩:∃a,a=c 7:=⟨_,rfl⟩
 have hW0:StepW w ((w.alloc (.cells #[.int .i64 dc,.int .i64 dl] 26)).alloc (.cells #[.int .i64 (c 0),.int .i64 (c 1),.int .i64 (c 2),.int .i64 (c 3),.int .i64 (c 4),.int .i64 (c 5),.int .i64 (c 6),.int .i64 (c 7)] 40)) dc dl c:=
  ⟨((World.Since.refl _ _).alloc (Nat.le_refl _) _).alloc (by simp) _,(blk_alloc_lt _ _ _ (by simp)).trans (heap_alloc_new _ _),by have:=heap_alloc_new (w.alloc (.cells #[.int .i64 dc,.int .i64 dl] 26)) (.cells #[.int .i64 (c 0),.int .i64 (c 1),.int .i64 (c 2),.int .i64 (c 3),.int .i64 (c 4),.int .i64 (c 5),.int .i64 (c 6),.int .i64 (c 7)] 40); simpa using this⟩
 have cells:∀ {wr:World},StepW w wr dc dl c→(wr.cell? ⟨w.heap.size,0,none⟩=some (.int .i64 dc)∧wr.cell? ⟨w.heap.size,1,none⟩=some (.int .i64 dl))∧wr.cell? ⟨w.heap.size+1,0,none⟩=some (.int .i64 a0)∧wr.cell? ⟨w.heap.size+1,1,none⟩=some (.int .i64 a1)∧wr.cell? ⟨w.heap.size+1,2,none⟩=some (.int .i64 a2)∧wr.cell? ⟨w.heap.size+1,3,none⟩=some (.int .i64 a3)∧wr.cell? ⟨w.heap.size+1,4,none⟩=some (.int .i64 a4)∧wr.cell? ⟨w.heap.size+1,5,none⟩=some (.int .i64 a5)∧wr.cell? ⟨w.heap.size+1,6,none⟩=some (.int .i64 a6)∧wr.cell? ⟨w.heap.size+1,7,none⟩=some (.int .i64 a7):=fun {wr} h=>by
  rw [h0,h1,h2,h3,h4,h5,h6,h7]
  exact⟨⟨cell_blk h.b0 0,cell_blk h.b0 1⟩,cell_blk h.b1 0,cell_blk h.b1 1,cell_blk h.b1 2,cell_blk h.b1 3,cell_blk h.b1 4,cell_blk h.b1 5,cell_blk h.b1 6,cell_blk h.b1 7⟩
 have hVc:=hV _ hW0.since
 have hBS':=fun w1 (h:StepW w w1 dc dl c)=>hBS w1 h.since
 rw [← h0,← h1,← h2,← h3,← h4,← h5,← h6,← h7] at hVc
 rw [← h4,← h5,← h6] at hBS'
 rw [← h0,← h1,← h3,← h4,← h5,← h6,← h7] at hr
 rw [← h0,← h1,← h2,← h3,← h4,← h5,← h6,← h7] at hW0 ⊢
 have HR:=Lib.hid hr
 clear hV hBS hr h0 h1 h2 h3 h4 h5 h6 h7
 go_enter Tryz.func32,Tryz.ntmps32
 go_wp2_with fail
 refine hVc.mono ?_
 rintro e w3 ⟨rfl,hb3⟩
 have hW3:=hW0.keep (sinceOf hb3)
 obtain⟨⟨d0,d1⟩,e0,e1,e2,e3,e4,e5,e6,e7⟩:=cells hW3
 clear hVc hb3 hW0
 cases hvE:vE
 ·go_wp2
  refine bodyPost_ret (results_tmp2 rfl _ _ _) rfl ?_
  exact stepE_err hW3.since (by rw [HR.out,if_pos hvE])
 ·obtain⟨q1,hq1⟩:∃q,(a1 != 0)=q:=⟨_,rfl⟩
  obtain⟨q2,hq2⟩:∃q,(a1 != a5)=q:=⟨_,rfl⟩
  obtain⟨q3,hq3⟩:∃q,decide (dl<a0)=q:=⟨_,rfl⟩
  have hfor:(a1≠0∧a1≠a5)↔(q1&&q2)=true:=by rw [← hq1,← hq2]; simp
  have hlate:dl<a0↔q3=true:=by rw [← hq3]; simp
  have HFOR:=Lib.hid hfor
  have HLATE:=Lib.hid hlate
  clear hfor hlate
  rcases Bool.eq_false_or_eq_true (q1&&q2) with hqq | hqq
  ·obtain⟨rfl,rfl⟩:q1=true∧q2=true:=by simpa using hqq
   go_wp2
   refine bodyPost_ret (results_tmp2 rfl _ _ _) rfl ?_
   exact stepE_err hW3.since (by rw [HR.out,if_neg (by simp [hvE]),if_pos (by simpa using HFOR.out)])
  ·have hnf:¬ (a1≠0∧a1≠a5):=fun h=>by
    have:=HFOR.out.1 h
    rw [hqq] at this; cases this
   have HNF:=Lib.hid hnf
   clear hnf HFOR
   cases q3
   ·have hnl:¬ dl<a0:=by simpa using hq3
    have hR1:=HR.out
    rw [if_neg (by simp [hvE]),if_neg HNF.out,if_neg hnl] at hR1
    have HR1:=Lib.hid hR1
    clear HR HNF HLATE hR1 hnl
    have e1':=Lib.hid e1
    have hq:=Lib.hid hqq
    cases q1
    case' true=>obtain rfl:q2=false:=by simpa using hqq
    all_goals
     clear hqq hq
     go_wp2_with fail
     refine (hBS' _ hW3).mono ?_
     rintro e w4 ⟨rfl,hb4⟩
     have hW4:=hW3.keep (sinceOf hb4)
     obtain⟨⟨d0,d1⟩,e0,e1,e2,e3,e4,e5,e6,e7⟩:=cells hW4
     clear hBS' hb4 hW3
     cases hth:there
     ·go_wp2_with fail
      go_quiet (fail)
      rename_i nq _
      have hW5:=hW4.keep (since_drewN w4 nq)
      obtain⟨⟨d0,d1⟩,e0,e1,e2,e3,e4,e5,e6,e7⟩:=cells hW5
      have hcl:=Tryz.CloneE_walk (.slice ao l.length cap) l (w4.drewN nq) (by omega) (hl.since hW5.since)
      generalize w4.drewN nq=w5 at *
      clear hW4
      go_wp2_with fail
      refine hcl.mono ?_
      rintro e w6 ⟨v',rfl,hown,hb6⟩
      have hW6:=hW5.keep (sinceOf hb6)
      obtain⟨⟨d0,d1⟩,e0,e1,e2,e3,e4,e5,e6,e7⟩:=cells hW6
      have hown:=own_baseE hown (Nat.le_trans (Nat.le_add_right _ 2) hW5.le)
      clear hcl hb6 hW5 cells
      by_cases k1:a3=1
      ·have h300:¬ ((300:Int)≤(l.length:Int)):=by omega
       have hle6:=hW6.le
       have hins:=Tryz.InsertE_walk w.heap.size v' l.length (enrZ l) w6.heap.size [.int .i64 a4,.int .i64 a5,.int .i64 a6,.bool (decide (dc<a0))] place (w6.alloc (.cells #[.int .i64 a4,.int .i64 a5,.int .i64 a6,.bool (decide (dc<a0))] 91)) (by omega) hp (own_keep hown ((World.Since.refl _ _).alloc (Nat.le_refl _) _)) (by simp; omega)
        (fun e=>by have:=(hown.lt _ e).2; omega) (heap_alloc_new w6 _) rfl (enrZ_one l) (by intro y hy; simp at hy; rcases hy with rfl | rfl | rfl | rfl <;> rfl)
       have hsA:w.Since w.heap.size (w6.alloc (.cells #[.int .i64 a4,.int .i64 a5,.int .i64 a6,.bool (decide (dc<a0))] 91)):=hW6.since.alloc (by omega) _
       have hsz:(w6.alloc (.cells #[.int .i64 a4,.int .i64 a5,.int .i64 a6,.bool (decide (dc<a0))] 91)).heap.size=w6.heap.size+1:=by simp
       go_wp2_with fail
       refine hins.mono ?_
       rintro e w8 ⟨g,cp,rfl,hown8,hg8,hat8⟩
       go_wp2
       refine bodyPost_ret (results_tmp2 rfl _ _ _) rfl ?_
       have hR:=HR1.out
       rw [if_pos k1,if_neg (by simp [hth])] at hR
       subst hR
       refine⟨_,rfl,?_,?_⟩
       ·refine⟨hg8.os.trans hsA.os,hg8.tape.trans hsA.tape,hg8.output.trans hsA.output,Nat.le_trans hsA.size hg8.size,fun k hk=>(hg8.block k (by rw [hsz]; omega) (fun e=>?_)).trans (hsA.block k hk)⟩
        have:=(hown.lt k e.symm).1
        omega
       ·have hlen:(l.take place++[(a4,a5,a6,decide (dc<a0))]++l.drop place).length=l.length+1:=by simp; omega
        rw [hlen,enrZ_app,enrZ_app,← enrZ_take,← enrZ_drop]
        exact hown8
      ·go_wp2
       refine bodyPost_ret (results_tmp2 rfl _ _ _) rfl ?_
       exact stepE_err hW6.since (by rw [HR1.out,if_neg k1,if_pos (.inl hth)])
     ·have hpl:=hpt hth
      obtain⟨g0,g1,g2,g3⟩:=enrZ_get l place hpl
      obtain⟨b,o,rfl,hbw,hcell⟩:=hao _ _ g1
      have cP:w4.cell? ⟨b,o+place*4+1,none⟩=some (.int .i64 l[place].2.1):=(hW4.since.cell (a:=⟨b,o+place*4+1,none⟩) hbw).trans (by rw [Nat.add_assoc]; exact hcell _ _ g1)
      have hgd:l.getD place (0,0,0,false)=l[place]:=by rw [List.getD_eq_getElem?_getD,List.getElem?_eq_getElem hpl]; rfl
      have hpi:(place:Int)<(l.length:Int):=by omega
      have hR2:=HR1.out
      rw [hgd] at hR2
      have hset:=enrZ_set l place hpl a7
      have HR2:=Lib.hid hR2
      have HSET:=Lib.hid hset
      clear hR2 HR1 hgd hset g0 g1 g2 g3
      generalize l[place]=x at *
      obtain⟨x1,x2,x3,x4⟩:=x
      dsimp only at cP
      clear hao hcell
      go_wp2_with fail
      go_quiet (fail)
      rename_i nq _
      have hW5:=hW4.keep (since_drewN w4 nq)
      obtain⟨⟨d0,d1⟩,e0,e1,e2,e3,e4,e5,e6,e7⟩:=cells hW5
      have hcl:=Tryz.CloneE_walk (.slice (some ⟨b,o,none⟩) l.length cap) l (w4.drewN nq) (by omega) (hl.since hW5.since)
      generalize w4.drewN nq=w5 at *
      clear hW4
      go_wp2_with fail
      refine hcl.mono ?_
      rintro e w6 ⟨v',rfl,hown,hb6⟩
      have hW6:=hW5.keep (sinceOf hb6)
      obtain⟨⟨d0,d1⟩,e0,e1,e2,e3,e4,e5,e6,e7⟩:=cells hW6
      have hown:=own_baseE hown (Nat.le_trans (Nat.le_add_right _ 2) hW5.le)
      clear hcl hb6 hW5 cells cP
      obtain⟨g6,cp6,rfl,hg61,hg62⟩:=hown.form (by omega)
      by_cases k1:a3=1
      ·by_cases hx:x2=a5
       ·have hxb:(x2==a5)=true:=by simpa using hx
        go_wp2
        refine bodyPost_ret (results_tmp2 rfl _ _ _) rfl ?_
        exact stepE_err hW6.since (by rw [HR2.out,if_pos k1,if_pos hth,if_pos hx])
       ·have hxb:(x2==a5)=false:=by simpa using hx
        go_wp2
        refine bodyPost_ret (results_tmp2 rfl _ _ _) rfl ?_
        exact stepE_err hW6.since (by rw [HR2.out,if_pos k1,if_pos hth,if_neg hx])
      ·by_cases hx:x2=a5
       ·have hxb:(x2==a5)=true:=by simpa using hx
        have hnt:¬ (there=false∨((x1,x2,x3,x4):Enr).2.1≠a5):=by simp [hth,hx]
        have hR:=HR2.out
        rw [if_neg k1,if_neg hnt] at hR
        by_cases k2:a3=2
        ·rw [if_pos k2] at hR
         have HR3:=Lib.hid hR
         have hdel:=Tryz.DeleteE_walk w.heap.size g6 cp6 l.length (enrZ l) place w6 (by omega) hpl hown (enrZ_one l)
         clear hR HR2 hnt
         go_wp2_with fail
         refine hdel.mono ?_
         rintro e w8 ⟨rfl,hown8,hg8⟩
         go_wp2
         refine bodyPost_ret (results_tmp2 rfl _ _ _) rfl ?_
         have hR:=HR3.out
         subst hR
         refine⟨_,rfl,?_,?_⟩
         ·refine⟨hg8.os.trans hW6.since.os,hg8.tape.trans hW6.since.tape,hg8.output.trans hW6.since.output,Nat.le_trans hW6.since.size hg8.size,fun k hk=>(hg8.block k (by have:=hW6.le; omega) (fun e=>?_)).trans (hW6.since.block k hk)⟩
          have:=Option.some.inj e
          omega
         ·have hlen:(l.take place++l.drop (place+1)).length=l.length - 1:=by simp; omega
          rw [hlen,enrZ_app,← enrZ_take,← enrZ_drop]
          exact hown8
        ·rw [if_neg k2] at hR
         have HR3:=Lib.hid hR
         have hcap:=hown.frozenAt (place*4+1)
         have hsome:∃u,w6.cell? ⟨g6,place*4+1,none⟩=some u:=by
          have hlen:=enrZ_len l
          exact⟨_,hown.cellAt (place*4+1) (by omega) |>.trans (List.getElem?_eq_getElem (by omega))⟩
         obtain⟨u6,hu6⟩:=hsome
         have hst:=own_setE hown (place*4+1) (by omega) (.int .i64 a7)
         rw [HSET.out] at hst
         clear hR HR2 hnt HSET
         go_wp2
         refine bodyPost_ret (results_tmp2 rfl _ _ _) rfl ?_
         have hR:=HR3.out
         subst hR
         refine⟨_,rfl,hW6.since.setCell (by show w.heap.size≤g6; omega) _,?_⟩
         rw [List.length_set]
         exact hst
       ·have hxb:(x2==a5)=false:=by simpa using hx
        go_wp2
        refine bodyPost_ret (results_tmp2 rfl _ _ _) rfl ?_
        exact stepE_err hW6.since (by rw [HR2.out,if_neg k1,if_pos (.inr hx)])
   ·cases q1
    ·go_wp2
     refine bodyPost_ret (results_tmp2 rfl _ _ _) rfl ?_
     exact stepE_err hW3.since (by rw [HR.out,if_neg (by simp [hvE]),if_neg HNF.out,if_pos (by simpa using HLATE.out)])
    ·obtain rfl:q2=false:=by simpa using hqq
     go_wp2
     refine bodyPost_ret (results_tmp2 rfl _ _ _) rfl ?_
     exact stepE_err hW3.since (by rw [HR.out,if_neg (by simp [hvE]),if_neg HNF.out,if_pos (by simpa using HLATE.out)])
end Go.Proofs
namespace Go.Proofs
open Go.RowKit Go.LS Go.Deep
set_option linter.all false
def SlW (w:World) (a:Option Addr) (n c:Nat) (l:List Int):Prop:=l.length=n∧((a=none∧n=0∧c=0)∨∃b o,a=some ⟨b,o,none⟩∧(0<n→b<w.heap.size∧IntsAt w b o l))
theorem SlW.since {w w':World}{a:Option Addr}{n c:Nat}{l:List Int}(h:SlW w a n c l){B:Nat}(hs:w.Since w.heap.size w'):SlW w' a n c l:=by
 refine⟨h.1,?_⟩
 rcases h.2 with h1 | ⟨b,o,h1,h2⟩
 ·exact .inl h1
 ·refine .inr ⟨b,o,h1,fun h0=>?_⟩
  obtain⟨h3,h4⟩:=h2 h0
  exact⟨Nat.lt_of_lt_of_le h3 hs.size,fun i hi=>(hs.cell (a:=⟨b,o+i,none⟩) h3).trans (h4 i hi)⟩
theorem SlW.cells {w:World}{a:Option Addr}{n c:Nat}{l:List Int}(h:SlW w a n c l) (h0:0<n):∃b o,a=some ⟨b,o,none⟩∧b<w.heap.size∧IntsAt w b o l:=by
 rcases h.2 with h1 | ⟨b,o,h1,h2⟩
 ·omega
 ·exact⟨b,o,h1,h2 h0⟩
structure BagR where
 bag:Int
 hold:Int
 opn:Bool
 sa:Option Addr
 sn:Nat
 sc:Nat
 pa:Option Addr
 pn:Nat
 pc:Nat
 fa:Option Addr
 fn:Nat
 fc:Nat
 seals:List Int
 packed:List Int
 found:List Int
def BagR.cells (x:BagR):List Value:=[.int .i64 x.bag,.int .i64 x.hold,.bool x.opn,.slice x.sa x.sn x.sc,.slice x.pa x.pn x.pc,.slice x.fa x.fn x.fc]
structure BagOK (w:World) (x:BagR):Prop where
 s:SlW w x.sa x.sn x.sc x.seals
 p:SlW w x.pa x.pn x.pc x.packed
 f:SlW w x.fa x.fn x.fc x.found
theorem BagOK.since {w w':World}{x:BagR}(h:BagOK w x) (hs:w.Since w.heap.size w'):BagOK w' x:=⟨h.s.since (B:=0) hs,h.p.since (B:=0) hs,h.f.since (B:=0) hs⟩
structure BagC (w:World) (b o i:Nat) (x:BagR):Prop where
 c0:w.cell? ⟨b,o+i*6,none⟩=some (.int .i64 x.bag)
 c1:w.cell? ⟨b,o+i*6+1,none⟩=some (.int .i64 x.hold)
 c2:w.cell? ⟨b,o+i*6+2,none⟩=some (.bool x.opn)
 c3:w.cell? ⟨b,o+i*6+3,none⟩=some (.slice x.sa x.sn x.sc)
 c4:w.cell? ⟨b,o+i*6+4,none⟩=some (.slice x.pa x.pn x.pc)
 c5:w.cell? ⟨b,o+i*6+5,none⟩=some (.slice x.fa x.fn x.fc)
structure BagsW (w:World) (ao:Option Addr) (b o n:Nat) (X:Nat→BagR):Prop where
 at':0<n→ao=some ⟨b,o,none⟩∧b<w.heap.size
 row:∀i,i<n→BagC w b o i (X i)
 ok:∀i,i<n→BagOK w (X i)
theorem BagsW.since {w w':World}{ao:Option Addr}{b o n:Nat}{X:Nat→BagR}(h:BagsW w ao b o n X) (hs:w.Since w.heap.size w'):BagsW w' ao b o n X:=by
 have up:∀ {i:Nat} {v:Value},0<n→w.cell? ⟨b,i,none⟩=some v→w'.cell? ⟨b,i,none⟩=some v:=fun {i v} h0 hc=>(hs.cell (a:=⟨b,i,none⟩) (h.at' h0).2).trans hc
 exact⟨fun h0=>⟨(h.at' h0).1,Nat.lt_of_lt_of_le (h.at' h0).2 hs.size⟩,fun i hi=>by
  obtain⟨a0,a1,a2,a3,a4,a5⟩:=h.row i hi
  exact⟨up (by omega) a0,up (by omega) a1,up (by omega) a2,up (by omega) a3,up (by omega) a4,up (by omega) a5⟩,fun i hi=>(h.ok i hi).since hs⟩
theorem mem_getD {l:List Int}{x:Int}:x∈l↔∃i,i<l.length∧l.getD i 0=x:=by
 rw [List.mem_iff_getElem]
 constructor
 ·rintro⟨i,h,e⟩; exact⟨i,h,by rw [List.getD_eq_getElem?_getD,List.getElem?_eq_getElem h]; exact e⟩
 ·rintro⟨i,h,e⟩; exact⟨i,h,by rw [List.getD_eq_getElem?_getD,List.getElem?_eq_getElem h] at e; exact e⟩
set_option maxHeartbeats 4000000 in
set_option maxRecDepth 100000 in
theorem Tryz.Index_walk (a:Option Addr) (n c:Nat) (l:List Int) (x:Int) (w:World) (h:SlW w a n c l) (hn:n≤1000) :
  Calls Tryz.prog 124 #[.slice a n c,.int .i64 x] w fun e w'=>∃r:Int,e = .returned (.int .i64 r)∧w'=w∧(0≤r↔x∈l):=by
 go_enter Tryz.func124,Tryz.ntmps124
 go_wp2
 go_loopw [8] (fun v wr=>∃k:Nat,k≤n∧v = .int .i64 k∧wr=w∧∀i,i<k→l.getD i 0≠x) (fun v _=>n - (RowKit.intOf v).toNat)
 case atStart=>exact⟨0,Nat.zero_le _,rfl,rfl,fun i hi=>absurd hi (by omega)⟩
 case round=>
  obtain⟨k,hk,rfl,rfl,hne⟩:=hrel
  by_cases hkl:k<n
  ·obtain⟨b,o,rfl,hb,hI⟩:=h.cells (by omega)
   have hlen:=h.1
   have hcell:=hI k (by omega)
   have hki:(k:Int)<(n:Int):=by omega
   have hiff:l.getD k 0=x→x∈l:=fun e=>mem_getD.2 ⟨k,by omega,e⟩
   have hnew:l.getD k 0≠x→∀i,i<k+1→l.getD i 0≠x:=fun h1 i hi=>by
    rcases Nat.lt_or_ge i k with h2 | h2
    ·exact hne i h2
    ·rw [show i=k by omega]; exact h1
   clear hI h hne
   generalize l.getD k 0=y at *
   by_cases hy:y=x
   ·have hy2:(x==y)=true:=by simp [hy]
    have hmem:=hiff hy
    clear hiff hnew
    subst hy
    go_wp2
    refine bodyPost_ret (results_tmp rfl _ _ _) rfl ?_
    exact⟨(k:Int),rfl,rfl,fun _=>hmem,fun _=>by omega⟩
   ·have hy2:(x==y)=false:=by simp; exact fun e=>hy e.symm
    have hy3:¬ x=y:=fun e=>hy e.symm
    have HN:=Lib.hid (hnew hy)
    clear hiff hnew
    go_wp2
    exact⟨⟨k+1,by omega,by simp,by simp,HN.out⟩,by simp [RowKit.intOf]; omega⟩
  ·have hke:k=n:=by omega
   subst hke
   have hnm:¬ x∈l:=fun hm=>by
    obtain⟨i,hi,e⟩:=mem_getD.1 hm
    exact hne i (by have:=h.1; omega) e
   clear h hne
   go_wp2
   refine bodyPost_ret (results_tmp rfl _ _ _) rfl ?_
   exact⟨-1,rfl,rfl,fun h=>absurd h (by omega),fun h=>absurd h hnm⟩
theorem Tryz.Contains_walk (a:Option Addr) (n c:Nat) (l:List Int) (x:Int) (w:World) (h:SlW w a n c l) (hn:n≤1000) :
  Calls Tryz.prog 114 #[.slice a n c,.int .i64 x] w fun e w'=>e = .returned (.bool (decide (x∈l)))∧w'=w:=by
 have h1:=Tryz.Index_walk a n c l x w h hn
 go_enter Tryz.func114,Tryz.ntmps114
 go_wp2_with fail
 refine h1.mono ?_
 rintro e w' ⟨r,rfl,rfl,hr⟩
 have hd:decide (x∈l)=decide (0≤r):=by rw [Bool.eq_iff_iff]; simp [hr]
 clear h h1 hr
 go_wp2
 refine bodyPost_ret (results_tmp rfl _ _ _) rfl ?_
 exact⟨by rw [hd]; rfl,rfl⟩
def BagR.val (x:BagR):Value:=.agg #[.int .i64 x.bag,.int .i64 x.hold,.bool x.opn,.slice x.sa x.sn x.sc,.slice x.pa x.pn x.pc,.slice x.fa x.fn x.fc]
theorem Tryz.seals_walk (x:BagR) (w:World):Calls Tryz.prog 95 #[x.val] w fun e w'=>e = .returned (.slice x.sa x.sn x.sc)∧Grown w w':=by
 unfold BagR.val
 go_enter Tryz.func95,Tryz.ntmps95
 go_wp2
 go_ret
 exact⟨rfl,(Grown.refl w).alloc _⟩
theorem Tryz.packed_walk (x:BagR) (w:World):Calls Tryz.prog 98 #[x.val] w fun e w'=>e = .returned (.slice x.pa x.pn x.pc)∧Grown w w':=by
 unfold BagR.val
 go_enter Tryz.func98,Tryz.ntmps98
 go_wp2
 go_ret
 exact⟨rfl,(Grown.refl w).alloc _⟩
theorem SlW.grown {w w':World}{a:Option Addr}{n c:Nat}{l:List Int}(h:SlW w a n c l) (hs:Grown w w'):SlW w' a n c l:=h.since (B:=0) (Grown.since hs)
def listOf (g:Nat) (x:BagR):List Int:=if g=95 then x.seals else x.packed
set_option maxHeartbeats 4000000 in
set_option maxRecDepth 100000 in
theorem Tryz.inSeals_walk (p1 p2:Nat) (m:Int) (x:BagR) (w:World) (h:BagOK w x) (hs:x.sn≤1000) (h1:w.cell? ⟨p1,0,none⟩=some (.func (.func 95) #[] #[])) (h2:w.cell? ⟨p2,0,none⟩=some (.int .i64 m)) :
  Calls Tryz.prog 113 #[x.val,.pointer (some ⟨p1,0,none⟩),.pointer (some ⟨p2,0,none⟩)] w fun e w'=>e = .returned (.bool (decide (m∈listOf 95 x)))∧Grown w w':=by
 have hb1:=World.block_lt_of_cell? w _ h1
 have hb2:=World.block_lt_of_cell? w _ h2
 have hl:∀W,Calls Tryz.prog 95 #[x.val] W fun e w'=>e = .returned (.slice x.sa x.sn x.sc)∧Grown W w':=fun W=>Tryz.seals_walk x W
 have hC:∃q,q=decide (m∈listOf 95 x)∧∀W,Grown w W→Calls Tryz.prog 114 #[.slice x.sa x.sn x.sc,.int .i64 m] W fun e w'=>e = .returned (.bool q)∧w'=W:=⟨_,rfl,fun W hW=>Tryz.Contains_walk _ _ _ _ _ W (h.s.grown hW) hs⟩
 obtain⟨q,hq,hC⟩:=hC
 rw [← hq]
 clear hq h
 unfold BagR.val at *
 go_enter Tryz.func113,Tryz.ntmps113
 go_wp2_with fail
 have hb0:w.heap.size<(w.alloc (.cells #[.int .i64 x.bag,.int .i64 x.hold,.bool x.opn,.slice x.sa x.sn x.sc,.slice x.pa x.pn x.pc,.slice x.fa x.fn x.fc] 99)).heap.size:=by simp
 have hgw:Grown w (w.alloc (.cells #[.int .i64 x.bag,.int .i64 x.hold,.bool x.opn,.slice x.sa x.sn x.sc,.slice x.pa x.pn x.pc,.slice x.fa x.fn x.fc] 99)):=(Grown.refl w).alloc _
 have k1:=(hgw.cell (a:=⟨p1,0,none⟩) hb1).trans h1
 have k2:=(hgw.cell (a:=⟨p2,0,none⟩) hb2).trans h2
 have hb1':=Nat.lt_of_lt_of_le hb1 hgw.size
 have hb2':=Nat.lt_of_lt_of_le hb2 hgw.size
 have hblk:=heap_alloc_new w (.cells #[.int .i64 x.bag,.int .i64 x.hold,.bool x.opn,.slice x.sa x.sn x.sc,.slice x.pa x.pn x.pc,.slice x.fa x.fn x.fc] 99)
 have d0:=cell_blk hblk 0; have d1:=cell_blk hblk 1; have d2:=cell_blk hblk 2; have d3:=cell_blk hblk 3; have d4:=cell_blk hblk 4; have d5:=cell_blk hblk 5
 generalize w.alloc (.cells #[.int .i64 x.bag,.int .i64 x.hold,.bool x.opn,.slice x.sa x.sn x.sc,.slice x.pa x.pn x.pc,.slice x.fa x.fn x.fc] 99)=w0 at *
 generalize w.heap.size=A at *
 simp only [List.getElem?_toArray,List.getElem?_cons_zero,List.getElem?_cons_succ] at d0 d1 d2 d3 d4 d5
 clear hblk h1 h2
 go_region_held3 (fun w'=>w'.cell? ⟨p1,0,none⟩=some (.func (.func 95) #[] #[])∧w'.cell? ⟨p2,0,none⟩=some (.int .i64 m)∧w'.cell? ⟨A,0,none⟩=some (.int .i64 x.bag)∧w'.cell? ⟨A,1,none⟩=some (.int .i64 x.hold)∧w'.cell? ⟨A,2,none⟩=some (.bool x.opn)∧w'.cell? ⟨A,3,none⟩=some (.slice x.sa x.sn x.sc)∧w'.cell? ⟨A,4,none⟩=some (.slice x.pa x.pn x.pc)∧w'.cell? ⟨A,5,none⟩=some (.slice x.fa x.fn x.fc)∧Grown w0 w')
  (first | exact⟨k1,k2,d0,d1,d2,d3,d4,d5,(Grown.refl w0).drew⟩ | (obtain⟨q1,q2,q3,q4,q5,q6,q7,q8,q9⟩:=‹_∧_›; exact⟨q9.cellk hg hb1' q1,q9.cellk hg hb2' q2,q9.cellk hg hb0 q3,q9.cellk hg hb0 q4,q9.cellk hg hb0 q5,q9.cellk hg hb0 q6,q9.cellk hg hb0 q7,q9.cellk hg hb0 q8,q9.trans hg⟩) | assumption)
  (first
  | (go_at_call 114; (with_reducible refine (hC _ (hgw.trans (by obtain⟨_,_,_,_,_,_,_,_,q9⟩:=‹_∧_›; exact q9))).mono ?_); rintro e w' ⟨rfl,rfl⟩)
  | (go_at_call 95; (with_reducible refine (hl _).mono ?_); rintro e w' ⟨rfl,hg⟩))
 rename _∧_=>hS
 go_wp2
 go_ret
 exact⟨rfl,hgw.trans hS.2.2.2.2.2.2.2.2⟩
set_option maxHeartbeats 4000000 in
set_option maxRecDepth 100000 in
theorem Tryz.inPacked_walk (p1 p2:Nat) (m:Int) (x:BagR) (w:World) (h:BagOK w x) (hs:x.pn≤1000) (h1:w.cell? ⟨p1,0,none⟩=some (.func (.func 98) #[] #[])) (h2:w.cell? ⟨p2,0,none⟩=some (.int .i64 m)) :
  Calls Tryz.prog 113 #[x.val,.pointer (some ⟨p1,0,none⟩),.pointer (some ⟨p2,0,none⟩)] w fun e w'=>e = .returned (.bool (decide (m∈listOf 98 x)))∧Grown w w':=by
 have hb1:=World.block_lt_of_cell? w _ h1
 have hb2:=World.block_lt_of_cell? w _ h2
 have hl:∀W,Calls Tryz.prog 98 #[x.val] W fun e w'=>e = .returned (.slice x.pa x.pn x.pc)∧Grown W w':=fun W=>Tryz.packed_walk x W
 have hC:∃q,q=decide (m∈listOf 98 x)∧∀W,Grown w W→Calls Tryz.prog 114 #[.slice x.pa x.pn x.pc,.int .i64 m] W fun e w'=>e = .returned (.bool q)∧w'=W:=⟨_,rfl,fun W hW=>Tryz.Contains_walk _ _ _ _ _ W (h.p.grown hW) hs⟩
 obtain⟨q,hq,hC⟩:=hC
 rw [← hq]
 clear hq h
 unfold BagR.val at *
 go_enter Tryz.func113,Tryz.ntmps113
 go_wp2_with fail
 have hb0:w.heap.size<(w.alloc (.cells #[.int .i64 x.bag,.int .i64 x.hold,.bool x.opn,.slice x.sa x.sn x.sc,.slice x.pa x.pn x.pc,.slice x.fa x.fn x.fc] 99)).heap.size:=by simp
 have hgw:Grown w (w.alloc (.cells #[.int .i64 x.bag,.int .i64 x.hold,.bool x.opn,.slice x.sa x.sn x.sc,.slice x.pa x.pn x.pc,.slice x.fa x.fn x.fc] 99)):=(Grown.refl w).alloc _
 have k1:=(hgw.cell (a:=⟨p1,0,none⟩) hb1).trans h1
 have k2:=(hgw.cell (a:=⟨p2,0,none⟩) hb2).trans h2
 have hb1':=Nat.lt_of_lt_of_le hb1 hgw.size
 have hb2':=Nat.lt_of_lt_of_le hb2 hgw.size
 have hblk:=heap_alloc_new w (.cells #[.int .i64 x.bag,.int .i64 x.hold,.bool x.opn,.slice x.sa x.sn x.sc,.slice x.pa x.pn x.pc,.slice x.fa x.fn x.fc] 99)
 have d0:=cell_blk hblk 0; have d1:=cell_blk hblk 1; have d2:=cell_blk hblk 2; have d3:=cell_blk hblk 3; have d4:=cell_blk hblk 4; have d5:=cell_blk hblk 5
 generalize w.alloc (.cells #[.int .i64 x.bag,.int .i64 x.hold,.bool x.opn,.slice x.sa x.sn x.sc,.slice x.pa x.pn x.pc,.slice x.fa x.fn x.fc] 99)=w0 at *
 generalize w.heap.size=A at *
 simp only [List.getElem?_toArray,List.getElem?_cons_zero,List.getElem?_cons_succ] at d0 d1 d2 d3 d4 d5
 clear hblk h1 h2
 go_region_held3 (fun w'=>w'.cell? ⟨p1,0,none⟩=some (.func (.func 98) #[] #[])∧w'.cell? ⟨p2,0,none⟩=some (.int .i64 m)∧w'.cell? ⟨A,0,none⟩=some (.int .i64 x.bag)∧w'.cell? ⟨A,1,none⟩=some (.int .i64 x.hold)∧w'.cell? ⟨A,2,none⟩=some (.bool x.opn)∧w'.cell? ⟨A,3,none⟩=some (.slice x.sa x.sn x.sc)∧w'.cell? ⟨A,4,none⟩=some (.slice x.pa x.pn x.pc)∧w'.cell? ⟨A,5,none⟩=some (.slice x.fa x.fn x.fc)∧Grown w0 w')
  (first | exact⟨k1,k2,d0,d1,d2,d3,d4,d5,(Grown.refl w0).drew⟩ | (obtain⟨q1,q2,q3,q4,q5,q6,q7,q8,q9⟩:=‹_∧_›; exact⟨q9.cellk hg hb1' q1,q9.cellk hg hb2' q2,q9.cellk hg hb0 q3,q9.cellk hg hb0 q4,q9.cellk hg hb0 q5,q9.cellk hg hb0 q6,q9.cellk hg hb0 q7,q9.cellk hg hb0 q8,q9.trans hg⟩) | assumption)
  (first
  | (go_at_call 114; (with_reducible refine (hC _ (hgw.trans (by obtain⟨_,_,_,_,_,_,_,_,q9⟩:=‹_∧_›; exact q9))).mono ?_); rintro e w' ⟨rfl,rfl⟩)
  | (go_at_call 98; (with_reducible refine (hl _).mono ?_); rintro e w' ⟨rfl,hg⟩))
 rename _∧_=>hS
 go_wp2
 go_ret
 exact⟨rfl,hgw.trans hS.2.2.2.2.2.2.2.2⟩
theorem Tryz.inOne_walk (g:Nat) (hg:g=95∨g=98) (p1 p2:Nat) (m:Int) (x:BagR) (w:World) (h:BagOK w x) (hs:x.sn≤1000) (hp:x.pn≤1000) (h1:w.cell? ⟨p1,0,none⟩=some (.func (.func g) #[] #[])) (h2:w.cell? ⟨p2,0,none⟩=some (.int .i64 m)) :
  Calls Tryz.prog 113 #[x.val,.pointer (some ⟨p1,0,none⟩),.pointer (some ⟨p2,0,none⟩)] w fun e w'=>e = .returned (.bool (decide (m∈listOf g x)))∧Grown w w':=by
 rcases hg with rfl | rfl
 ·exact Tryz.inSeals_walk p1 p2 m x w h hs h1 h2
 ·exact Tryz.inPacked_walk p1 p2 m x w h hp h1 h2
theorem BagsW.grown {w w':World}{ao:Option Addr}{b o n:Nat}{X:Nat→BagR}(h:BagsW w ao b o n X) (hs:Grown w w'):BagsW w' ao b o n X:=h.since (Grown.since hs)
theorem BagOK.grown {w w':World}{x:BagR}(h:BagOK w x) (hs:Grown w w'):BagOK w' x:=h.since (Grown.since hs)
set_option maxHeartbeats 4000000 in
set_option maxRecDepth 100000 in
theorem Tryz.IndexB_walk (g:Nat) (hg:g=95∨g=98) (p1 p2:Nat) (m:Int) (ao:Option Addr) (b o n cap:Nat) (X:Nat→BagR) (w:World) (h:BagsW w ao b o n X) (hn:n≤1000) (hX:∀i,i<n→(X i).sn≤1000∧(X i).pn≤1000)
  (h1:w.cell? ⟨p1,0,none⟩=some (.func (.func g) #[] #[])) (h2:w.cell? ⟨p2,0,none⟩=some (.int .i64 m)) :
  Calls Tryz.prog 123 #[.slice ao n cap,.func (.func 113) #[] #[.pointer (some ⟨p1,0,none⟩),.pointer (some ⟨p2,0,none⟩)]] w fun e w'=>∃r:Int,e = .returned (.int .i64 r)∧Grown w w'∧(0≤r↔∃i,i<n∧m∈listOf g (X i)):=by
 have hb1:=World.block_lt_of_cell? w _ h1
 have hb2:=World.block_lt_of_cell? w _ h2
 have hclo:∀i,i<n→∀W,Grown w W→Calls Tryz.prog 113 #[(X i).val,.pointer (some ⟨p1,0,none⟩),.pointer (some ⟨p2,0,none⟩)] W fun e w'=>e = .returned (.bool (decide (m∈listOf g (X i))))∧Grown W w':=fun i hi W hW=>
  Tryz.inOne_walk g hg p1 p2 m (X i) W ((h.ok i hi).grown hW) (hX i hi).1 (hX i hi).2 ((hW.cell (a:=⟨p1,0,none⟩) hb1).trans h1) ((hW.cell (a:=⟨p2,0,none⟩) hb2).trans h2)
 clear h1 h2 hb1 hb2 hX hg
 unfold BagR.val at *
 go_enter Tryz.func123,Tryz.ntmps123
 go_wp2
 go_loopw [8] (fun v wr=>∃k:Nat,k≤n∧v = .int .i64 k∧Grown w wr∧∀i,i<k→¬ m∈listOf g (X i)) (fun v _=>n - (RowKit.intOf v).toNat)
 case atStart=>exact⟨0,Nat.zero_le _,rfl,Grown.refl _,fun i hi=>absurd hi (by omega)⟩
 case round=>
  obtain⟨k,hk,rfl,hG,hne⟩:=hrel
  by_cases hkl:k<n
  ·have hR:=h.grown hG
   obtain⟨rfl,hb⟩:=hR.at' (by omega)
   obtain⟨c0,c1,c2,c3,c4,c5⟩:=hR.row k hkl
   have hki:(k:Int)<(n:Int):=by omega
   have hck:=hclo k hkl wr hG
   have hyes:m∈listOf g (X k)→∃i,i<n∧m∈listOf g (X i):=fun e=>⟨k,hkl,e⟩
   have hnew:¬ m∈listOf g (X k)→∀i,i<k+1→¬ m∈listOf g (X i):=fun h1 i hi=>by
    rcases Nat.lt_or_ge i k with h2 | h2
    ·exact hne i h2
    ·rw [show i=k by omega]; exact h1
   clear h hclo hR hne
   by_cases hm:m∈listOf g (X k)
   ·rw [decide_eq_true hm] at hck
    have HY:=Lib.hid (hyes hm)
    clear hyes hnew hm
    generalize X k=x at *
    go_wp2_with fail
    refine hck.mono ?_
    rintro e w4 ⟨rfl,hg4⟩
    clear hck c0 c1 c2 c3 c4 c5
    go_wp2
    refine bodyPost_ret (results_tmp rfl _ _ _) rfl ?_
    exact⟨(k:Int),rfl,hG.trans hg4,fun _=>HY.out,fun _=>by omega⟩
   ·rw [decide_eq_false hm] at hck
    have HN:=Lib.hid (hnew hm)
    clear hyes hnew hm
    generalize X k=x at *
    go_wp2_with fail
    refine hck.mono ?_
    rintro e w4 ⟨rfl,hg4⟩
    clear hck c0 c1 c2 c3 c4 c5
    go_wp2
    exact⟨⟨k+1,by omega,by simp,hG.trans hg4,HN.out⟩,by simp [RowKit.intOf]; omega⟩
  ·have hke:k=n:=by omega
   subst hke
   have HN:=Lib.hid hne
   clear h hclo hne
   go_wp2
   refine bodyPost_ret (results_tmp rfl _ _ _) rfl ?_
   exact⟨-1,rfl,hG,fun h=>absurd h (by omega),fun⟨i,hi,h⟩=>absurd h (HN.out i hi)⟩
def inBagsP (g n:Nat) (X:Nat→BagR) (m:Int):Bool:=(List.range n).any fun i=>decide (m∈listOf g (X i))
theorem inBagsP_iff (g n:Nat) (X:Nat→BagR) (m:Int):inBagsP g n X m=true↔∃i,i<n∧m∈listOf g (X i):=by
 unfold inBagsP
 rw [List.any_eq_true]
 constructor
 ·rintro⟨i,hi,h⟩; exact⟨i,List.mem_range.1 hi,by simpa using h⟩
 ·rintro⟨i,hi,h⟩; exact⟨i,List.mem_range.2 hi,by simpa using h⟩
set_option maxHeartbeats 4000000 in
set_option maxRecDepth 100000 in
theorem Tryz.ContainsB_walk (g:Nat) (hg:g=95∨g=98) (p1 p2:Nat) (m:Int) (ao:Option Addr) (b o n cap:Nat) (X:Nat→BagR) (w:World) (h:BagsW w ao b o n X) (hn:n≤1000) (hX:∀i,i<n→(X i).sn≤1000∧(X i).pn≤1000)
  (h1:w.cell? ⟨p1,0,none⟩=some (.func (.func g) #[] #[])) (h2:w.cell? ⟨p2,0,none⟩=some (.int .i64 m)) :
  Calls Tryz.prog 112 #[.slice ao n cap,.func (.func 113) #[] #[.pointer (some ⟨p1,0,none⟩),.pointer (some ⟨p2,0,none⟩)]] w fun e w'=>e = .returned (.bool (inBagsP g n X m))∧Grown w w':=by
 have hI:=Tryz.IndexB_walk g hg p1 p2 m ao b o n cap X w h hn hX h1 h2
 clear h hX h1 h2
 go_enter Tryz.func112,Tryz.ntmps112
 go_wp2_with fail
 refine hI.mono ?_
 rintro e w' ⟨r,rfl,hgr,hr⟩
 have hd:inBagsP g n X m=decide (0≤r):=by rw [Bool.eq_iff_iff,inBagsP_iff]; simp [hr]
 clear hI hr
 go_wp2
 refine bodyPost_ret (results_tmp rfl _ _ _) rfl ?_
 exact⟨by rw [hd]; rfl,hgr⟩
set_option maxHeartbeats 4000000 in
set_option maxRecDepth 100000 in
theorem Tryz.inBags_walk (g:Nat) (hg:g=95∨g=98) (m:Int) (ao:Option Addr) (b o n cap:Nat) (X:Nat→BagR) (w:World) (h:BagsW w ao b o n X) (hn:n≤1000) (hX:∀i,i<n→(X i).sn≤1000∧(X i).pn≤1000) :
  Calls Tryz.prog 94 #[.slice ao n cap,.int .i64 m,.func (.func g) #[] #[]] w fun e w'=>e = .returned (.bool (inBagsP g n X m))∧Grown w w':=by
 have hgw:Grown w ((w.alloc (.cells #[.int .i64 m] 3)).alloc (.cells #[.func (.func g) #[] #[]] 151)):=((Grown.refl w).alloc _).alloc _
 have hI:=Tryz.ContainsB_walk g hg (w.heap.size+1) w.heap.size m ao b o n cap X _ (h.grown hgw) hn hX (by simp) (by simp)
 clear h hX
 go_enter Tryz.func94,Tryz.ntmps94
 go_wp2_with fail
 refine hI.mono ?_
 rintro e w' ⟨rfl,hgr⟩
 have hgt:=hgw.trans hgr
 clear hI hgr hgw
 go_wp2
 refine bodyPost_ret (results_tmp rfl _ _ _) rfl ?_
 exact⟨rfl,hgt⟩
end Go.Proofs
namespace Go.Proofs
open Go.RowKit Go.LS Go.Deep
set_option linter.all false
structure BevR where
 t:Int
 src:Int
 seq:Int
 kind:Int
 bag:Int
 sealQ:Int
 frm:Int
 to':Int
 ca:Option Addr
 cn:Nat
 cc:Nat
 cands:List Int
def BevR.cells (x:BevR):List Value:=[.int .i64 x.t,.int .i64 x.src,.int .i64 x.seq,.int .i64 x.kind,.int .i64 x.bag,.int .i64 x.sealQ,.int .i64 x.frm,.int .i64 x.to',.slice x.ca x.cn x.cc]
structure EvC (w:World) (q:Nat) (x:BevR):Prop where
 c0:w.cell? ⟨q,0,none⟩=some (.int .i64 x.t)
 c1:w.cell? ⟨q,1,none⟩=some (.int .i64 x.src)
 c2:w.cell? ⟨q,2,none⟩=some (.int .i64 x.seq)
 c3:w.cell? ⟨q,3,none⟩=some (.int .i64 x.kind)
 c4:w.cell? ⟨q,4,none⟩=some (.int .i64 x.bag)
 c5:w.cell? ⟨q,5,none⟩=some (.int .i64 x.sealQ)
 c6:w.cell? ⟨q,6,none⟩=some (.int .i64 x.frm)
 c7:w.cell? ⟨q,7,none⟩=some (.int .i64 x.to')
 c8:w.cell? ⟨q,8,none⟩=some (.slice x.ca x.cn x.cc)
theorem EvC.since {w w':World}{q:Nat}{x:BevR}(h:EvC w q x) (hs:w.Since w.heap.size w'):EvC w' q x:=by
 obtain⟨a0,a1,a2,a3,a4,a5,a6,a7,a8⟩:=h
 have hb:q<w.heap.size:=World.block_lt_of_cell? w _ a0
 have up:∀ {i:Nat} {v:Value},w.cell? ⟨q,i,none⟩=some v→w'.cell? ⟨q,i,none⟩=some v:=fun {i v} hc=>(hs.cell (a:=⟨q,i,none⟩) hb).trans hc
 exact⟨up a0,up a1,up a2,up a3,up a4,up a5,up a6,up a7,up a8⟩
theorem EvC.grown {w w':World}{q:Nat}{x:BevR}(h:EvC w q x) (hs:Grown w w'):EvC w' q x:=h.since (Grown.since hs)
theorem Tryz.f91_walk (pe:Nat) (x:BevR) (w:World) (h:EvC w pe x):Calls Tryz.prog 91 #[.pointer (some ⟨pe,0,none⟩)] w fun e w'=>e = .returned (.bool (decide (x.frm=0)))∧Grown w w':=by
 obtain⟨a0,a1,a2,a3,a4,a5,a6,a7,a8⟩:=h
 go_enter Tryz.func91,Tryz.ntmps91
 go_wp2
 go_ret
 exact⟨rfl,Grown.refl w⟩
theorem Tryz.f92_walk (pt:Nat) (b:Bool) (w:World) (h:w.cell? ⟨pt,0,none⟩=some (.bool b)):Calls Tryz.prog 92 #[.pointer (some ⟨pt,0,none⟩)] w fun e w'=>e = .returned (.bool b)∧Grown w w':=by
 go_enter Tryz.func92,Tryz.ntmps92
 go_wp2
 go_ret
 exact⟨rfl,Grown.refl w⟩
theorem Tryz.f100_walk (pt:Nat) (b:Bool) (w:World) (h:w.cell? ⟨pt,0,none⟩=some (.bool b)):Calls Tryz.prog 100 #[.pointer (some ⟨pt,0,none⟩)] w fun e w'=>e = .returned (.bool (!b))∧Grown w w':=by
 go_enter Tryz.func100,Tryz.ntmps100
 go_wp2
 go_ret
 exact⟨rfl,Grown.refl w⟩
theorem Tryz.f99_walk (pl:Nat) (ao:Option Addr) (n cap:Nat) (w:World) (h:w.cell? ⟨pl,0,none⟩=some (.slice ao n cap)):Calls Tryz.prog 99 #[.pointer (some ⟨pl,0,none⟩)] w fun e w'=>e = .returned (.bool (decide ((20:Int)≤(n:Int))))∧Grown w w':=by
 go_enter Tryz.func99,Tryz.ntmps99
 go_wp2
 go_ret
 exact⟨rfl,Grown.refl w⟩
theorem Tryz.f65_walk (pe:Nat) (x:BevR) (w:World) (h:EvC w pe x):Calls Tryz.prog 65 #[.pointer (some ⟨pe,0,none⟩)] w fun e w'=>e = .returned (.bool (!decide (x.src=0) && !decide (x.src=x.frm)))∧Grown w w':=by
 obtain⟨a0,a1,a2,a3,a4,a5,a6,a7,a8⟩:=h
 generalize x.src=s at *
 generalize x.frm=f at *
 by_cases h1:s=0
 ·subst h1
  go_enter Tryz.func65,Tryz.ntmps65
  go_wp2
  go_ret
  exact⟨rfl,Grown.refl w⟩
 ·have h2:(s != 0)=true:=by simpa using h1
  have h3:decide (s=0)=false:=by simpa using h1
  have h4:(s != f)=(!decide (s=f)):=by rw [Bool.eq_iff_iff]; simp
  rw [h3]
  go_enter Tryz.func65,Tryz.ntmps65
  go_wp2
  go_ret
  exact⟨by simp,Grown.refl w⟩
theorem Tryz.f63_walk (pe:Nat) (x:BevR) (q:Bool) (w:World) (h:EvC w pe x) (hq:∀W,w.Since w.heap.size W→Calls Tryz.prog 64 #[.agg x.cells.toArray] W fun e w'=>e = .returned (.bool q)∧W.Since W.heap.size w'):Calls Tryz.prog 63 #[.pointer (some ⟨pe,0,none⟩)] w fun e w'=>e = .returned (.bool q)∧w.Since w.heap.size w':=by
 obtain⟨a0,a1,a2,a3,a4,a5,a6,a7,a8⟩:=h
 have hq0:=hq w (World.Since.refl _ w)
 unfold BevR.cells at *
 go_enter Tryz.func63,Tryz.ntmps63
 go_wp2_with fail
 refine hq0.mono ?_
 rintro e w' ⟨rfl,hg⟩
 clear hq hq0
 go_wp2
 refine bodyPost_ret (results_tmp rfl _ _ _) rfl ?_
 exact⟨rfl,hg⟩
theorem Tryz.f97_walk (pl:Nat) (m:Int) (ao:Option Addr) (b o n cap:Nat) (X:Nat→BagR) (w:World) (h:BagsW w ao b o n X) (hn:n≤1000) (hX:∀i,i<n→(X i).sn≤1000∧(X i).pn≤1000) (hl:w.cell? ⟨pl,0,none⟩=some (.slice ao n cap)) :
  Calls Tryz.prog 97 #[.int .i64 m,.pointer (some ⟨pl,0,none⟩)] w fun e w'=>e = .returned (.bool (inBagsP 98 n X m))∧Grown w w':=by
 have hI:=Tryz.inBags_walk 98 (.inr rfl) m ao b o n cap X w h hn hX
 clear h hX
 go_enter Tryz.func97,Tryz.ntmps97
 go_wp2_with fail
 refine hI.mono ?_
 rintro e w' ⟨rfl,hg⟩
 clear hI
 go_wp2
 refine bodyPost_ret (results_tmp rfl _ _ _) rfl ?_
 exact⟨rfl,hg⟩
set_option maxHeartbeats 4000000 in
set_option maxRecDepth 100000 in
theorem Tryz.IndexC_walk (a:Option Addr) (n c:Nat) (l:List Int) (pl:Nat) (p:Int→Bool) (w:World) (h:SlW w a n c l) (hn:n≤1000)
  (hp:∀m W,Grown w W→Calls Tryz.prog 97 #[.int .i64 m,.pointer (some ⟨pl,0,none⟩)] W fun e w'=>e = .returned (.bool (p m))∧Grown W w') :
  Calls Tryz.prog 115 #[.slice a n c,.func (.func 97) #[] #[.pointer (some ⟨pl,0,none⟩)]] w fun e w'=>∃r:Int,e = .returned (.int .i64 r)∧Grown w w'∧(0≤r↔l.any p=true):=by
 go_enter Tryz.func115,Tryz.ntmps115
 go_wp2
 go_loopw [8] (fun v wr=>∃k:Nat,k≤n∧v = .int .i64 k∧Grown w wr∧∀i,i<k→p (l.getD i 0)=false) (fun v _=>n - (RowKit.intOf v).toNat)
 case atStart=>exact⟨0,Nat.zero_le _,rfl,Grown.refl _,fun i hi=>absurd hi (by omega)⟩
 case round=>
  obtain⟨k,hk,rfl,hG,hne⟩:=hrel
  by_cases hkl:k<n
  ·have hR:=h.grown hG
   obtain⟨b,o,rfl,hb,hI⟩:=hR.cells (by omega)
   have hlen:=h.1
   have hcell:=hI k (by omega)
   have hki:(k:Int)<(n:Int):=by omega
   have hpk:=hp (l.getD k 0) wr hG
   have hiff:p (l.getD k 0)=true→l.any p=true:=fun e=>List.any_eq_true.2 ⟨_,mem_getD.2 ⟨k,by omega,rfl⟩,e⟩
   have hnew:p (l.getD k 0)=false→∀i,i<k+1→p (l.getD i 0)=false:=fun h1 i hi=>by
    rcases Nat.lt_or_ge i k with h2 | h2
    ·exact hne i h2
    ·rw [show i=k by omega]; exact h1
   clear hI h hne hp hR
   generalize l.getD k 0=y at *
   cases hy:p y
   ·rw [hy] at hpk
    have HN:=Lib.hid (hnew hy)
    clear hiff hnew hy
    go_wp2_with fail
    refine hpk.mono ?_
    rintro e w4 ⟨rfl,hg4⟩
    clear hpk hcell
    go_wp2
    exact⟨⟨k+1,by omega,by simp,hG.trans hg4,HN.out⟩,by simp [RowKit.intOf]; omega⟩
   ·rw [hy] at hpk
    have HY:=Lib.hid (hiff hy)
    clear hiff hnew hy
    go_wp2_with fail
    refine hpk.mono ?_
    rintro e w4 ⟨rfl,hg4⟩
    clear hpk hcell
    go_wp2
    refine bodyPost_ret (results_tmp rfl _ _ _) rfl ?_
    exact⟨(k:Int),rfl,hG.trans hg4,fun _=>HY.out,fun _=>by omega⟩
  ·have hke:k=n:=by omega
   subst hke
   have hnm:l.any p=false:=by
    rw [List.any_eq_false]
    intro y hy
    obtain⟨i,hi,rfl⟩:=mem_getD.1 hy
    rw [hne i (by have:=h.1; omega)]; simp
   have HN:=Lib.hid hnm
   clear h hne hp hnm
   go_wp2
   refine bodyPost_ret (results_tmp rfl _ _ _) rfl ?_
   exact⟨-1,rfl,hG,fun h=>absurd h (by omega),fun h=>by rw [HN.out] at h; cases h⟩
theorem Tryz.ContainsC_walk (a:Option Addr) (n c:Nat) (l:List Int) (pl:Nat) (p:Int→Bool) (w:World) (h:SlW w a n c l) (hn:n≤1000)
  (hp:∀m W,Grown w W→Calls Tryz.prog 97 #[.int .i64 m,.pointer (some ⟨pl,0,none⟩)] W fun e w'=>e = .returned (.bool (p m))∧Grown W w') :
  Calls Tryz.prog 96 #[.slice a n c,.func (.func 97) #[] #[.pointer (some ⟨pl,0,none⟩)]] w fun e w'=>e = .returned (.bool (l.any p))∧Grown w w':=by
 have hI:=Tryz.IndexC_walk a n c l pl p w h hn hp
 clear h hp
 go_enter Tryz.func96,Tryz.ntmps96
 go_wp2_with fail
 refine hI.mono ?_
 rintro e w' ⟨r,rfl,hgr,hr⟩
 have hd:l.any p=decide (0≤r):=by rw [Bool.eq_iff_iff]; simp [hr]
 clear hI hr
 go_wp2
 refine bodyPost_ret (results_tmp rfl _ _ _) rfl ?_
 exact⟨by rw [hd]; rfl,hgr⟩
set_option maxHeartbeats 4000000 in
set_option maxRecDepth 100000 in
theorem Tryz.f93_walk (pl pe:Nat) (x:BevR) (ao:Option Addr) (b o n cap:Nat) (X:Nat→BagR) (w:World) (h:BagsW w ao b o n X) (hn:n≤1000) (hX:∀i,i<n→(X i).sn≤1000∧(X i).pn≤1000) (hl:w.cell? ⟨pl,0,none⟩=some (.slice ao n cap))
  (he:EvC w pe x) (hc:SlW w x.ca x.cn x.cc x.cands) (hcn:x.cn≤1000) :
  Calls Tryz.prog 93 #[.pointer (some ⟨pl,0,none⟩),.pointer (some ⟨pe,0,none⟩)] w fun e w'=>e = .returned (.bool (inBagsP 95 n X x.sealQ||x.cands.any (inBagsP 98 n X)))∧Grown w w':=by
 have hI:=Tryz.inBags_walk 95 (.inl rfl) x.sealQ ao b o n cap X w h hn hX
 have hb:=World.block_lt_of_cell? w _ hl
 have hC:∀W,Grown w W→Calls Tryz.prog 96 #[.slice x.ca x.cn x.cc,.func (.func 97) #[] #[.pointer (some ⟨pl,0,none⟩)]] W fun e w'=>e = .returned (.bool (x.cands.any (inBagsP 98 n X)))∧Grown W w':=fun W hW=>
  Tryz.ContainsC_walk _ _ _ _ pl _ W (hc.grown hW) hcn fun m W2 hW2=>Tryz.f97_walk pl m ao b o n cap X W2 (h.grown (hW.trans hW2)) hn hX (((hW.trans hW2).cell (a:=⟨pl,0,none⟩) hb).trans hl)
 clear h hX hc
 generalize inBagsP 95 n X x.sealQ=q1 at *
 generalize x.cands.any (inBagsP 98 n X)=q2 at *
 have heW:∀W,Grown w W→EvC W pe x:=fun W hW=>he.grown hW
 have ⟨a0,a1,a2,a3,a4,a5,a6,a7,a8⟩:=he
 clear he
 cases q1
 ·go_enter Tryz.func93,Tryz.ntmps93
  go_wp2_with fail
  refine hI.mono ?_
  rintro e w' ⟨rfl,hg⟩
  have ⟨b0,b1,b2,b3,b4,b5,b6,b7,b8⟩:=heW _ hg
  have hC2:=hC _ hg
  clear hI hC heW a0 a1 a2 a3 a4 a5 a6 a7 a8
  go_wp2_with fail
  refine hC2.mono ?_
  rintro e w'' ⟨rfl,hg2⟩
  clear hC2
  go_wp2
  refine bodyPost_ret (results_tmp rfl _ _ _) rfl ?_
  exact⟨by simp,hg.trans hg2⟩
 ·go_enter Tryz.func93,Tryz.ntmps93
  go_wp2_with fail
  refine hI.mono ?_
  rintro e w' ⟨rfl,hg⟩
  clear hI hC heW a0 a1 a2 a3 a4 a5 a6 a7 a8
  go_wp2
  refine bodyPost_ret (results_tmp rfl _ _ _) rfl ?_
  exact⟨by simp,hg⟩
end Go.Proofs
namespace Go.Proofs
open Go.RowKit Go.LS Go.Deep Go.Sort
set_option linter.all false
def stateP (y:BagR) (x:BevR):Bool:=y.opn || !decide (y.hold=x.frm)||(decide (x.kind=2)&&decide (x.to'=x.frm))||(decide (x.kind=3) && !decide (x.frm=0))
set_option maxHeartbeats 8000000 in
set_option maxRecDepth 100000 in
theorem Tryz.f101_walk (pl pp pe:Nat) (x:BevR) (ao:Option Addr) (b o n cap k:Nat) (X:Nat→BagR) (w:World) (h:BagsW w ao b o n X) (hk:k<n) (hl:w.cell? ⟨pl,0,none⟩=some (.slice ao n cap)) (hp:w.cell? ⟨pp,0,none⟩=some (.int .i64 (k:Int)))
  (he:EvC w pe x):Calls Tryz.prog 101 #[.pointer (some ⟨pl,0,none⟩),.pointer (some ⟨pp,0,none⟩),.pointer (some ⟨pe,0,none⟩)] w fun e w'=>e = .returned (.bool (stateP (X k) x))∧Grown w w':=by
 obtain⟨rfl,hb⟩:=h.at' (by omega)
 obtain⟨c0,c1,c2,c3,c4,c5⟩:=h.row k hk
 obtain⟨a0,a1,a2,a3,a4,a5,a6,a7,a8⟩:=he
 have hk0:(0:Int)≤(k:Int):=by omega
 have hk1:(k:Int)<(n:Int):=by omega
 clear h
 unfold stateP
 generalize X k=y at *
 generalize x.frm=f at *
 generalize x.kind=kd at *
 generalize x.to'=tt at *
 generalize y.opn=op at *
 generalize y.hold=ho at *
 have fin:∀nq,Grown w (w.drewN nq):=fun nq=>⟨nq,#[],by rw [grow_empty]⟩
 cases op
 ·by_cases h1:ho=f
  ·have h1':(ho != f)=false:=by simpa using h1
   by_cases h2:kd=2
   ·subst h2
    by_cases h3:tt=f
    ·have h3':(tt==f)=true:=by simpa using h3
     go_enter Tryz.func101,Tryz.ntmps101
     go_wp2_with fail
     go_quiet (fail)
     go_wp2
     go_ret
     exact⟨by simp [h1,h3],fin _⟩
    ·have h3':(tt==f)=false:=by simpa using h3
     go_enter Tryz.func101,Tryz.ntmps101
     go_wp2_with fail
     go_quiet (fail)
     go_wp2
     go_ret
     exact⟨by simp [h1,h3],fin _⟩
   ·have h2':(kd==2)=false:=by simpa using h2
    by_cases h4:kd=3
    ·subst h4
     by_cases h5:f=0
     ·subst h5
      go_enter Tryz.func101,Tryz.ntmps101
      go_wp2_with fail
      go_quiet (fail)
      go_wp2
      go_ret
      exact⟨by simp [h1],fin _⟩
     ·have h5':(f != 0)=true:=by simpa using h5
      go_enter Tryz.func101,Tryz.ntmps101
      go_wp2_with fail
      go_quiet (fail)
      go_wp2
      go_ret
      exact⟨by simp [h1,h5],fin _⟩
    ·have h4':(kd==3)=false:=by simpa using h4
     go_enter Tryz.func101,Tryz.ntmps101
     go_wp2_with fail
     go_quiet (fail)
     go_wp2
     go_ret
     exact⟨by simp [h1,h2,h4],fin _⟩
  ·have h1':(ho != f)=true:=by simpa using h1
   go_enter Tryz.func101,Tryz.ntmps101
   go_wp2_with fail
   go_quiet (fail)
   go_wp2
   go_ret
   exact⟨by simp [h1],fin _⟩
 ·go_enter Tryz.func101,Tryz.ntmps101
  go_wp2_with fail
  go_quiet (fail)
  go_wp2
  go_ret
  exact⟨by simp,fin _⟩
def confP (n:Nat) (X:Nat→BagR) (k:Nat) (x:BevR):Bool:=if x.kind=4 then inBagsP 95 n X x.sealQ else !decide ((X k).seals.getD ((X k).sn - 1) 0=x.sealQ)
set_option maxHeartbeats 8000000 in
set_option maxRecDepth 100000 in
theorem Tryz.f102_walk (pl pp pe:Nat) (x:BevR) (ao:Option Addr) (b o n cap k:Nat) (X:Nat→BagR) (w:World) (h:BagsW w ao b o n X) (hn:n≤1000) (hX:∀i,i<n→(X i).sn≤1000∧(X i).pn≤1000) (hk:k<n) (hs:0<(X k).sn)
  (hl:w.cell? ⟨pl,0,none⟩=some (.slice ao n cap)) (hp:w.cell? ⟨pp,0,none⟩=some (.int .i64 (k:Int)))
  (he:EvC w pe x):Calls Tryz.prog 102 #[.pointer (some ⟨pe,0,none⟩),.pointer (some ⟨pl,0,none⟩),.pointer (some ⟨pp,0,none⟩)] w fun e w'=>e = .returned (.bool (confP n X k x))∧Grown w w':=by
 obtain⟨rfl,hb⟩:=h.at' (by omega)
 obtain⟨c0,c1,c2,c3,c4,c5⟩:=h.row k hk
 have hok:=(h.ok k hk).s
 have hI:=Tryz.inBags_walk 95 (.inl rfl) x.sealQ _ b o n cap X w h hn hX
 obtain⟨a0,a1,a2,a3,a4,a5,a6,a7,a8⟩:=he
 have hk0:(0:Int)≤(k:Int):=by omega
 have hk1:(k:Int)<(n:Int):=by omega
 have hsn:=(hX k hk).1
 clear h hX
 unfold confP
 have fin:∀nq,Grown w (w.drewN nq):=fun nq=>⟨nq,#[],by rw [grow_empty]⟩
 generalize inBagsP 95 n X x.sealQ=q at *
 generalize X k=y at *
 by_cases h1:x.kind=4
 ·rw [if_pos h1]
  rw [h1] at a3
  clear hok
  go_enter Tryz.func102,Tryz.ntmps102
  go_wp2_with fail
  refine hI.mono ?_
  rintro e w' ⟨rfl,hg⟩
  clear hI
  go_wp2
  refine bodyPost_ret (results_tmp rfl _ _ _) rfl ?_
  exact⟨rfl,hg⟩
 ·rw [if_neg h1]
  obtain⟨B,O,hsa,hB,hIn⟩:=hok.cells hs
  rw [hsa] at c3
  have hcell:=hIn (y.sn - 1) (by have:=hok.1; omega)
  generalize y.seals.getD (y.sn - 1) 0=z at *
  have h2:(x.kind==4)=false:=by simpa using h1
  have e1:((y.sn:Int) - 1)=((y.sn - 1:Nat):Int):=by omega
  have hm0:(0:Int)≤((y.sn - 1:Nat):Int):=by omega
  have hm1:((y.sn - 1:Nat):Int)<(y.sn:Int):=by omega
  clear hI hok hIn hsa
  generalize x.kind=kd at *
  generalize x.sealQ=sl at *
  have h3:(z != sl) = !decide (z=sl):=by rw [Bool.eq_iff_iff]; simp
  generalize y.sn - 1=m at *
  go_enter Tryz.func102,Tryz.ntmps102
  go_wp2_with fail
  go_quiet (fail)
  go_wp2
  go_ret
  exact⟨by simp [h3],fin _⟩
set_option maxHeartbeats 8000000 in
set_option maxRecDepth 100000 in
theorem Tryz.f103_walk (pl pp pe:Nat) (x:BevR) (ao:Option Addr) (b o n cap k:Nat) (X:Nat→BagR) (w:World) (h:BagsW w ao b o n X) (hk:k<n)
  (hl:w.cell? ⟨pl,0,none⟩=some (.slice ao n cap)) (hp:w.cell? ⟨pp,0,none⟩=some (.int .i64 (k:Int)))
  (he:EvC w pe x):Calls Tryz.prog 103 #[.pointer (some ⟨pe,0,none⟩),.pointer (some ⟨pl,0,none⟩),.pointer (some ⟨pp,0,none⟩)] w fun e w'=>e = .returned (.bool (decide (x.kind=4)&&decide ((300:Int)≤((X k).sn:Int))))∧Grown w w':=by
 obtain⟨rfl,hb⟩:=h.at' (by omega)
 obtain⟨c0,c1,c2,c3,c4,c5⟩:=h.row k hk
 obtain⟨a0,a1,a2,a3,a4,a5,a6,a7,a8⟩:=he
 have hk0:(0:Int)≤(k:Int):=by omega
 have hk1:(k:Int)<(n:Int):=by omega
 clear h
 generalize X k=y at *
 generalize x.kind=kd at *
 by_cases h1:kd=4
 ·subst h1
  go_enter Tryz.func103,Tryz.ntmps103
  go_wp2
  go_ret
  exact⟨by simp,Grown.refl w⟩
 ·have h2:(kd==4)=false:=by simpa using h1
  go_enter Tryz.func103,Tryz.ntmps103
  go_wp2
  go_ret
  exact⟨by simp [h1],Grown.refl w⟩
def firstP (code:Nat→Int) (hold:Nat→Bool):Nat→Nat→Int
 | 0,_=>0
 | m+1,i=>if hold i then code i else firstP code hold m (i+1)
theorem firstP_zero (code:Nat→Int) (hold:Nat→Bool) (i:Nat):firstP code hold 0 i=0:=rfl
theorem firstP_succ (code:Nat→Int) (hold:Nat→Bool) (m i:Nat):firstP code hold (m+1) i=if hold i then code i else firstP code hold m (i+1):=rfl
set_option maxHeartbeats 8000000 in
set_option maxRecDepth 100000 in
theorem Tryz.first_walk (r n cap:Nat) (code:Nat→Int) (g:Nat→Nat) (caps:Nat→Array Value) (hold:Nat→Bool) (w:World) (hn:n≤1000) (hr:r<w.heap.size)
  (hc:∀i,i<n→w.cell? ⟨r,i*2,none⟩=some (.int .i64 (code i))∧w.cell? ⟨r,i*2+1,none⟩=some (.func (.func (g i)) #[] (caps i)))
  (eg:∀i,i<n→∀args w,(callFunc (g i) args).run Tryz.prog w = .ok (.enter (g i) args) w)
  (hclo:∀i,i<n→(∀j,j<i→hold j=false)→∀W,w.Since w.heap.size W→Calls Tryz.prog (g i) (caps i) W fun e w'=>e = .returned (.bool (hold i))∧W.Since W.heap.size w') :
  Calls Tryz.prog 68 #[.slice (some ⟨r,0,none⟩) n cap] w fun e w'=>e = .returned (.int .i64 (firstP code hold n 0))∧w.Since w.heap.size w':=by
 obtain⟨F,hF⟩:∃F,F=firstP code hold n 0:=⟨_,rfl⟩
 rw [← hF]
 go_enter Tryz.func68,Tryz.ntmps68
 go_wp2
 go_loopw [7] (fun v wr=>∃k:Nat,k≤n∧v = .int .i64 k∧w.Since w.heap.size wr∧(∀i,i<k→hold i=false)∧F=firstP code hold (n - k) k) (fun v _=>n - (RowKit.intOf v).toNat)
 case atStart=>exact⟨0,Nat.zero_le _,rfl,World.Since.refl _ _,fun i hi=>absurd hi (by omega),hF⟩
 case round=>
  clear hF
  obtain⟨k,hk,rfl,hG,hne,hf⟩:=hrel
  by_cases hkl:k<n
  ·obtain⟨c0,c1⟩:=hc k hkl
   have c0:=(hG.cell (a:=⟨r,k*2,none⟩) hr).trans c0
   have c1:=(hG.cell (a:=⟨r,k*2+1,none⟩) hr).trans c1
   have hki:(k:Int)<(n:Int):=by omega
   have hrr:r<wr.heap.size:=Nat.lt_of_lt_of_le hr hG.size
   have hG1:=hG.alloc hG.size (.cells #[.int .i64 (code k),.func (.func (g k)) #[] (caps k)] 130)
   have hck:=hclo k hkl hne _ hG1
   have egk:=eg k hkl
   have hnew:hold k=false→∀i,i<k+1→hold i=false:=fun h1 i hi=>by
    rcases Nat.lt_or_ge i k with h2 | h2
    ·exact hne i h2
    ·rw [show i=k by omega]; exact h1
   rw [show n - k=(n - (k+1))+1 by omega,firstP_succ] at hf
   clear hc eg hclo hne
   generalize code k=cd at *
   generalize g k=gk at *
   generalize caps k=cp at *
   have hblk:=heap_alloc_new wr (.cells #[.int .i64 cd,.func (.func gk) #[] cp] 130)
   cases hh:hold k
   ·rw [hh] at hck hf
    simp only [Bool.false_eq_true,if_false] at hf
    have HN:=Lib.hid (And.intro (hnew hh) hf)
    clear hnew hh hf
    go_wp2_with fail
    refine hck.mono ?_
    rintro e w4 ⟨rfl,hg4⟩
    have hG4:=hG1.trans (zJ9 hg4 (by have:=hG.size; simp; omega))
    clear hck hg4 hG1 hblk egk
    go_wp2
    exact⟨⟨k+1,by omega,by simp,hG4,HN.out.1,HN.out.2⟩,by simp [RowKit.intOf]; omega⟩
   ·rw [hh] at hck hf
    simp only [if_true] at hf
    have HN:=Lib.hid hf
    clear hnew hh hf
    go_wp2_with fail
    refine hck.mono ?_
    rintro e w4 ⟨rfl,hg4⟩
    have hG4:=hG1.trans (zJ9 hg4 (by have:=hG.size; simp; omega))
    have d0:w4.cell? ⟨wr.heap.size,0,none⟩=some (.int .i64 cd):=(hg4.cell (a:=⟨wr.heap.size,0,none⟩) (by simp)).trans (cell_blk hblk 0)
    clear hck hg4 hG1 hblk egk
    go_wp2
    refine bodyPost_ret (results_tmp rfl _ _ _) rfl ?_
    exact⟨by rw [HN.out]; rfl,hG4⟩
  ·have hke:k=n:=by omega
   subst hke
   rw [Nat.sub_self,firstP_zero] at hf
   have HN:=Lib.hid hf
   clear hc eg hclo hne hf
   go_wp2
   refine bodyPost_ret (results_tmp rfl _ _ _) rfl ?_
   exact⟨by rw [HN.out]; rfl,hG⟩
end Go.Proofs
namespace Go.Proofs
open Go.RowKit Go.LS Go.Deep Go.Sort
set_option linter.all false
def apart (u v:Value):Prop:=u.ownBlock=none∨v.ownBlock=none∨u.ownBlock≠v.ownBlock
theorem apart.symm {u v:Value}(h:apart u v):apart v u:=by
 rcases h with h | h | h
 ·exact .inr (.inl h)
 ·exact .inl h
 ·exact .inr (.inr (Ne.symm h))
structure FamI (w:World) (B:Nat) (L:List (Value×List Int)):Prop where
 own:∀p∈L,w.ownsRow B 3 1 p.1 p.2.length (intZ p.2)
 ap:L.Pairwise (fun p q=>apart p.1 q.1)
theorem FamI.nil (w:World) (B:Nat):FamI w B []:=⟨(fun p hp=>absurd hp (by simp)),List.Pairwise.nil⟩
theorem FamI.kept {w w':World}{B:Nat}{L:List (Value×List Int)}{row:Option Nat}(h:FamI w B L) (hg:w.grownBy w' row) (hne:∀p∈L,p.1.ownBlock=none∨p.1.ownBlock≠row):FamI w' B L:=
 ⟨fun p hp=>(h.own p hp).kept hg (hne p hp),h.ap⟩
theorem FamI.since {w w':World}{B:Nat}{L:List (Value×List Int)}(h:FamI w B L) (hs:w.Since w.heap.size w'):FamI w' B L:=
 ⟨fun p hp=>own_keep (h.own p hp) hs,h.ap⟩
theorem FamI.lt {w:World}{B:Nat}{L:List (Value×List Int)}(h:FamI w B L):∀p∈L,∀k,p.1.ownBlock=some k→B≤k∧k<w.heap.size:=fun p hp=>(h.own p hp).lt
theorem apart_far {w:World}{B e size n:Nat}{v u:Value}{xs:List Value}(h:w.ownsRow B e size v n xs) (hu:∀k,u.ownBlock=some k→w.heap.size≤k∨k<B):apart v u:=by
 cases h1:v.ownBlock with
 | none=>exact .inl h1
 | some x=>
  cases h2:u.ownBlock with
  | none=>exact .inr (.inl h2)
  | some y=>
   refine .inr (.inr ?_)
   rw [h1,h2]
   intro e
   have e:=Option.some.inj e
   have h3:=h.lt x h1
   have h4:=hu y h2
   omega
theorem FamI.append {w w':World}{B:Nat}{L M:List (Value×List Int)}(h:FamI w B L) (hs:w.Since w.heap.size w') (hm:FamI w' w.heap.size M) (hB:B≤w.heap.size):FamI w' B (L++M):=by
 refine⟨fun p hp=>?_,?_⟩
 ·rcases List.mem_append.1 hp with hp | hp
  ·exact own_keep (h.own p hp) hs
  ·exact own_base (hm.own p hp) hB
 ·rw [List.pairwise_append]
  exact⟨h.ap,hm.ap,fun p hp q hq=>apart_far (h.own p hp) fun k hk=>.inl (hm.lt q hq k hk).1⟩
theorem FamI.setCell {w:World}{B:Nat}{L:List (Value×List Int)}(h:FamI w B L) (g o:Nat) (v:Value) (hne:∀p∈L,p.1.ownBlock≠some g):FamI (w.setCell ⟨g,o,none⟩ v) B L:=
 h.kept (row:=some g) ⟨rfl,rfl,rfl,by simp [World.setCell],fun k hk hne=>blk_setCell_other _ _ _ _ (by intro e; exact hne (by rw [e]))⟩ fun p hp=>.inr (hne p hp)
theorem zE9 {w wr:World}{B:Nat}(h:w.Since B wr) (g o:Nat) (v:Value) (hg:B≤g):w.Since B (wr.setCell ⟨g,o,none⟩ v):=h.setCell (a:=⟨g,o,none⟩) hg v
theorem intZ_one (l:List Int):∀u∈intZ l,u.oneCell'=true:=fun u hu=>by
 obtain⟨x,_,rfl⟩:=List.mem_map.1 hu; rfl
theorem intZ_get (l:List Int) (j:Nat) (u:Value) (h:(intZ l)[j]?=some u):j<l.length∧u = .int .i64 (l.getD j 0):=by
 unfold intZ at h
 rw [List.getElem?_map,Option.map_eq_some_iff] at h
 obtain⟨x,h1,rfl⟩:=h
 obtain⟨h2,h3⟩:=List.getElem?_eq_some_iff.1 h1
 exact⟨h2,by rw [List.getD_eq_getElem?_getD,h1]; rfl⟩
theorem Tryz.CloneI_walk (a:Option Addr) (n c:Nat) (l:List Int) (w:World) (hn:n≤1000) (h:SlW w a n c l) :
  Calls Tryz.prog 60 #[.slice a n c] w fun e w'=>∃v',e = .returned v'∧w'.ownsRow w.heap.size 3 1 v' l.length (intZ l)∧w.Since w.heap.size w':=by
 obtain⟨i3,hi3,hz30,hz31,hz32⟩:=info_parts Tryz.info3
 rcases h.2 with⟨rfl,h0,h0'⟩ | ⟨b,o,rfl,hc⟩
 ·refine (Tryz.slices_Clone_nil n c w).mono ?_
  rintro e w' ⟨rfl,rfl⟩
  have h1:l=[]:=List.eq_nil_of_length_eq_zero (by have:=h.1; omega)
  subst h1
  exact⟨_,rfl,World.ownsRow_nil _ _ _ _,World.Since.refl _ _⟩
 ·have hl:=h.1
  refine (Tryz.slices_Clone i3 _ 1 8 hi3 hz30 hz31 hz32 rfl (by decide) Tryz.sizeOf3 b o n c (intZ l) w (by rw [intZ_len]; omega) (by unfold maxLen; omega) (by omega) (fun j u hj=>?_) (intZ_one l)).mono ?_
  ·obtain⟨h2,rfl⟩:=intZ_get l j u hj
   exact (hc (by omega)).2 j h2
  ·rintro e w' ⟨v',rfl,h1,_,h2⟩
   rw [← hl] at h1
   exact⟨v',rfl,h1,belowSince h2⟩
structure BagN where
 bag:Int
 hold:Int
 opn:Bool
 vs:Value
 vp:Value
 vf:Value
 seals:List Int
 packed:List Int
 found:List Int
def BagN.cells (x:BagN):List Value:=[.int .i64 x.bag,.int .i64 x.hold,.bool x.opn,x.vs,x.vp,x.vf]
def BagN.fam (x:BagN):List (Value×List Int):=[(x.vs,x.seals),(x.vp,x.packed),(x.vf,x.found)]
def BagR.same (x:BagR) (y:BagN):Prop:=y.bag=x.bag∧y.hold=x.hold∧y.opn=x.opn∧y.seals=x.seals∧y.packed=x.packed∧y.found=x.found
theorem arr6 {cs:Array Value}{u0 u1 u2 u3 u4 u5:Value}(h:cs.size=6) (h0:cs[0]?=some u0) (h1:cs[1]?=some u1) (h2:cs[2]?=some u2) (h3:cs[3]?=some u3) (h4:cs[4]?=some u4) (h5:cs[5]?=some u5):cs = #[u0,u1,u2,u3,u4,u5]:=by
 obtain⟨l⟩:=cs
 match l,h with
 | [a,b,c,d,e,f],_=>simp at h0 h1 h2 h3 h4 h5; subst h0 h1 h2 h3 h4 h5; rfl
def sixF (u0 u1 u2 u3 u4 u5:Value) (j:Nat):Value:=if j=0 then u0 else if j=1 then u1 else if j=2 then u2 else if j=3 then u3 else if j=4 then u4 else u5
structure CbW (w W:World) (u0 u1 u2 u3 u4 u5:Value) (f:Nat→Value):Prop where
 since:w.Since w.heap.size W
 row:W.rowIs w.heap.size 99 6 (sixF u0 u1 u2 u3 u4 u5)
 res:W.rowIs (w.heap.size+1) 99 6 f
theorem CbW.le {w W:World}{u0 u1 u2 u3 u4 u5:Value}{f:Nat→Value}(h:CbW w W u0 u1 u2 u3 u4 u5 f):w.heap.size+2≤W.heap.size:=h.res.lt
theorem CbW.keep {w W W':World}{u0 u1 u2 u3 u4 u5:Value}{f:Nat→Value}(h:CbW w W u0 u1 u2 u3 u4 u5 f) (hs:W.Since W.heap.size W'):CbW w W' u0 u1 u2 u3 u4 u5 f:=
 ⟨h.since.trans (zJ9 hs (by have:=h.le; omega)),h.row.of_block (hs.block _ (by have:=h.le; omega)),h.res.of_block (hs.block _ (by have:=h.le; omega))⟩
theorem CbW.set {w W:World}{u0 u1 u2 u3 u4 u5 v0 v1 v2 v3 v4 v5:Value}{f:Nat→Value}(h:CbW w W u0 u1 u2 u3 u4 u5 f) (k:Nat) (v:Value) (he:∀j,j<6→(if j=k then v else sixF u0 u1 u2 u3 u4 u5 j)=sixF v0 v1 v2 v3 v4 v5 j) :
  CbW w (W.setCell ⟨w.heap.size,k,none⟩ v) v0 v1 v2 v3 v4 v5 f:=
 ⟨zE9 h.since _ _ _ (Nat.le_refl _),(h.row.set k v).congr he,h.res.setOther (by show w.heap.size+1≠w.heap.size; omega) v⟩
theorem FamI.far {W:World}{B:Nat}{L:List (Value×List Int)}(h:FamI W B L){g o:Nat}(hg:g<B) (v:Value):FamI (W.setCell ⟨g,o,none⟩ v) B L:=
 h.setCell g o v fun p hp e=>by have:=(h.lt p hp g e).1; omega
set_option maxHeartbeats 8000000 in
set_option maxRecDepth 100000 in
theorem Tryz.cloneBag_walk (x:BagR) (w:World) (h:BagOK w x) (hs:x.sn≤1000) (hp:x.pn≤1000) (hf:x.fn≤1000) :
  Calls Tryz.prog 104 #[x.val] w fun e w'=>∃y:BagN,e = .returned (.agg y.cells.toArray)∧x.same y∧w.Since w.heap.size w'∧FamI w' (w.heap.size+2) y.fam:=by
 have hC1:∀W,w.Since w.heap.size W→Calls Tryz.prog 60 #[.slice x.sa x.sn x.sc] W fun e w'=>∃v',e = .returned v'∧w'.ownsRow W.heap.size 3 1 v' x.seals.length (intZ x.seals)∧W.Since W.heap.size w':=fun W hW=>Tryz.CloneI_walk _ _ _ _ W hs (h.s.since (B:=0) hW)
 have hC2:∀W,w.Since w.heap.size W→Calls Tryz.prog 60 #[.slice x.pa x.pn x.pc] W fun e w'=>∃v',e = .returned v'∧w'.ownsRow W.heap.size 3 1 v' x.packed.length (intZ x.packed)∧W.Since W.heap.size w':=fun W hW=>Tryz.CloneI_walk _ _ _ _ W hp (h.p.since (B:=0) hW)
 have hC3:∀W,w.Since w.heap.size W→Calls Tryz.prog 60 #[.slice x.fa x.fn x.fc] W fun e w'=>∃v',e = .returned v'∧w'.ownsRow W.heap.size 3 1 v' x.found.length (intZ x.found)∧W.Since W.heap.size w':=fun W hW=>Tryz.CloneI_walk _ _ _ _ W hf (h.f.since (B:=0) hW)
 unfold BagR.val
 clear h
 go_enter Tryz.func104,Tryz.ntmps104
 go_wp2_with fail
 have hW0:CbW w ((w.alloc (.cells #[.int .i64 x.bag,.int .i64 x.hold,.bool x.opn,.slice x.sa x.sn x.sc,.slice x.pa x.pn x.pc,.slice x.fa x.fn x.fc] 99)).alloc (.cells #[.int .i64 0,.int .i64 0,.bool false,.slice none 0 0,.slice none 0 0,.slice none 0 0] 99)) (.int .i64 x.bag) (.int .i64 x.hold) (.bool x.opn) (.slice x.sa x.sn x.sc) (.slice x.pa x.pn x.pc) (.slice x.fa x.fn x.fc) (sixF (.int .i64 0) (.int .i64 0) (.bool false) (.slice none 0 0) (.slice none 0 0) (.slice none 0 0)):=by
  refine⟨((World.Since.refl _ _).alloc (Nat.le_refl _) _).alloc (by simp) _,?_,?_⟩
  ·refine World.rowIs.alloc (World.rowIs_alloc w _ 99 _ fun i hi=>?_) _
   match i,hi with
   | 0,_=>rfl
   | 1,_=>rfl
   | 2,_=>rfl
   | 3,_=>rfl
   | 4,_=>rfl
   | 5,_=>rfl
  ·have:=World.rowIs_alloc (w.alloc (.cells #[.int .i64 x.bag,.int .i64 x.hold,.bool x.opn,.slice x.sa x.sn x.sc,.slice x.pa x.pn x.pc,.slice x.fa x.fn x.fc] 99)) #[.int .i64 0,.int .i64 0,.bool false,.slice none 0 0,.slice none 0 0,.slice none 0 0] 99 (sixF (.int .i64 0) (.int .i64 0) (.bool false) (.slice none 0 0) (.slice none 0 0) (.slice none 0 0)) (fun i hi=>by
    match i,hi with
    | 0,_=>rfl
    | 1,_=>rfl
    | 2,_=>rfl
    | 3,_=>rfl
    | 4,_=>rfl
    | 5,_=>rfl)
   simpa using this
 generalize ((w.alloc (.cells #[.int .i64 x.bag,.int .i64 x.hold,.bool x.opn,.slice x.sa x.sn x.sc,.slice x.pa x.pn x.pc,.slice x.fa x.fn x.fc] 99)).alloc (.cells #[.int .i64 0,.int .i64 0,.bool false,.slice none 0 0,.slice none 0 0,.slice none 0 0] 99))=W0 at *
 refine (hC1 _ hW0.since).mono ?_
 rintro e W1 ⟨v3,rfl,o3,s1⟩
 obtain⟨a3,k3,rfl,-⟩:=own_form o3
 have hW1:=hW0.keep s1
 have l0:=hW0.le
 have F1:FamI W1 (w.heap.size+2) [(.slice a3 x.seals.length k3,x.seals)]:=⟨fun p hp=>by simp at hp; subst hp; exact own_base o3 l0,by simp⟩
 have hW2:=hW1.set (v0:=.int .i64 x.bag) (v1:=.int .i64 x.hold) (v2:=.bool x.opn) (v3:=.slice a3 x.seals.length k3) (v4:=.slice x.pa x.pn x.pc) (v5:=.slice x.fa x.fn x.fc) 3 (.slice a3 x.seals.length k3) (fun j hj=>by match j,hj with | 0,_ | 1,_ | 2,_ | 3,_ | 4,_ | 5,_=>rfl)
 have F2:=F1.far (g:=w.heap.size) (o:=3) (by omega) (.slice a3 x.seals.length k3)
 have p3:W1.cell? ⟨w.heap.size,3,none⟩=some (.slice x.sa x.sn x.sc):=hW1.row.cell (i:=3) (by omega)
 have p4:W1.cell? ⟨w.heap.size,4,none⟩=some (.slice x.pa x.pn x.pc):=hW1.row.cell (i:=4) (by omega)
 have fz:=hW1.row.frozen 3
 have hc2:=hC2 _ hW2.since
 clear hC1 hW0 hW1 F1 o3 s1 hC2
 go_wp2_with fail
 generalize W1.setCell ⟨w.heap.size,3,none⟩ (.slice a3 x.seals.length k3)=W2 at *
 refine hc2.mono ?_
 rintro e W3 ⟨v4,rfl,o4,s3⟩
 obtain⟨a4,k4,rfl,-⟩:=own_form o4
 have hW3:=hW2.keep s3
 have l2:=hW2.le
 have F3:=F2.append (M:=[(.slice a4 x.packed.length k4,x.packed)]) s3 ⟨fun p hp=>by simp at hp; subst hp; exact o4,by simp⟩ l2
 have hW4:=hW3.set (v0:=.int .i64 x.bag) (v1:=.int .i64 x.hold) (v2:=.bool x.opn) (v3:=.slice a3 x.seals.length k3) (v4:=.slice a4 x.packed.length k4) (v5:=.slice x.fa x.fn x.fc) 4 (.slice a4 x.packed.length k4) (fun j hj=>by match j,hj with | 0,_ | 1,_ | 2,_ | 3,_ | 4,_ | 5,_=>rfl)
 have F4:=F3.far (g:=w.heap.size) (o:=4) (by omega) (.slice a4 x.packed.length k4)
 have p4:W3.cell? ⟨w.heap.size,4,none⟩=some (.slice x.pa x.pn x.pc):=hW3.row.cell (i:=4) (by omega)
 have p5:W3.cell? ⟨w.heap.size,5,none⟩=some (.slice x.fa x.fn x.fc):=hW3.row.cell (i:=5) (by omega)
 have fz:=hW3.row.frozen 4
 have hc3:=hC3 _ hW4.since
 clear hW2 hW3 F2 F3 o4 s3 hC3 hc2 l0 l2
 go_wp2_with fail
 generalize W3.setCell ⟨w.heap.size,4,none⟩ (.slice a4 x.packed.length k4)=W4 at *
 refine hc3.mono ?_
 rintro e W5 ⟨v5,rfl,o5,s5⟩
 obtain⟨a5,k5,rfl,-⟩:=own_form o5
 have hW5:=hW4.keep s5
 have l4:=hW4.le
 have F5:=F4.append (M:=[(.slice a5 x.found.length k5,x.found)]) s5 ⟨fun p hp=>by simp at hp; subst hp; exact o5,by simp⟩ l4
 have hW6:=hW5.set (v0:=.int .i64 x.bag) (v1:=.int .i64 x.hold) (v2:=.bool x.opn) (v3:=.slice a3 x.seals.length k3) (v4:=.slice a4 x.packed.length k4) (v5:=.slice a5 x.found.length k5) 5 (.slice a5 x.found.length k5) (fun j hj=>by match j,hj with | 0,_ | 1,_ | 2,_ | 3,_ | 4,_ | 5,_=>rfl)
 have F6:=F5.far (g:=w.heap.size) (o:=5) (by omega) (.slice a5 x.found.length k5)
 have p5:W5.cell? ⟨w.heap.size,5,none⟩=some (.slice x.fa x.fn x.fc):=hW5.row.cell (i:=5) (by omega)
 have fz:=hW5.row.frozen 5
 have q0:W5.cell? ⟨w.heap.size,0,none⟩=some (.int .i64 x.bag):=hW5.row.cell (i:=0) (by omega)
 have q1:W5.cell? ⟨w.heap.size,1,none⟩=some (.int .i64 x.hold):=hW5.row.cell (i:=1) (by omega)
 have q2:W5.cell? ⟨w.heap.size,2,none⟩=some (.bool x.opn):=hW5.row.cell (i:=2) (by omega)
 have q3:W5.cell? ⟨w.heap.size,3,none⟩=some (.slice a3 x.seals.length k3):=hW5.row.cell (i:=3) (by omega)
 have q4:W5.cell? ⟨w.heap.size,4,none⟩=some (.slice a4 x.packed.length k4):=hW5.row.cell (i:=4) (by omega)
 have hr:∀j,j<6→∃v,W5.cell? ⟨w.heap.size+1,j,none⟩=some v:=fun j hj=>⟨_,hW5.res.cell hj⟩
 have hfz:=hW5.res.frozen
 have r0:=hfz 0; have r1:=hfz 1; have r2:=hfz 2; have r3:=hfz 3; have r4:=hfz 4; have r5:=hfz 5
 clear hW4 hW5 F4 F5 o5 s5 hc3 l4
 have R:=((((((hW6.res.set 0 (.int .i64 x.bag)).set 1 (.int .i64 x.hold)).set 2 (.bool x.opn)).set 3 (.slice a3 x.seals.length k3)).set 4 (.slice a4 x.packed.length k4)).set 5 (.slice a5 x.found.length k5))
 have G:=(((((F6.far (g:=w.heap.size+1) (o:=0) (by omega) (.int .i64 x.bag)).far (g:=w.heap.size+1) (o:=1) (by omega) (.int .i64 x.hold)).far (g:=w.heap.size+1) (o:=2) (by omega) (.bool x.opn)).far (g:=w.heap.size+1) (o:=3) (by omega) (.slice a3 x.seals.length k3)).far (g:=w.heap.size+1) (o:=4) (by omega) (.slice a4 x.packed.length k4)).far (g:=w.heap.size+1) (o:=5) (by omega) (.slice a5 x.found.length k5)
 have Sn:=zE9 (zE9 (zE9 (zE9 (zE9 (zE9 hW6.since (w.heap.size+1) 0 (.int .i64 x.bag) (by omega)) (w.heap.size+1) 1 (.int .i64 x.hold) (by omega)) (w.heap.size+1) 2 (.bool x.opn) (by omega)) (w.heap.size+1) 3 (.slice a3 x.seals.length k3) (by omega)) (w.heap.size+1) 4 (.slice a4 x.packed.length k4) (by omega)) (w.heap.size+1) 5 (.slice a5 x.found.length k5) (by omega)
 obtain⟨z0,e0⟩:=hr 0 (by omega); obtain⟨z1,e1⟩:=hr 1 (by omega); obtain⟨z2,e2⟩:=hr 2 (by omega); obtain⟨z3,e3⟩:=hr 3 (by omega); obtain⟨z4,e4⟩:=hr 4 (by omega); obtain⟨z5,e5⟩:=hr 5 (by omega)
 clear hr hfz hW6 F6
 go_wp2_with fail
 obtain⟨cs,hheap,hsize,hcell⟩:=R
 have hcs:cs = #[.int .i64 x.bag,.int .i64 x.hold,.bool x.opn,.slice a3 x.seals.length k3,.slice a4 x.packed.length k4,.slice a5 x.found.length k5]:=
  arr6 hsize (hcell 0 (by omega)) (hcell 1 (by omega)) (hcell 2 (by omega)) (hcell 3 (by omega)) (hcell 4 (by omega)) (hcell 5 (by omega))
 refine bodyPost_ret (results_cell_row rfl _ _ (w.heap.size+1) 99 _ _ _ rfl hheap Tryz.underlying99 rfl (by rw [hcs]; kernel_rfl)) rfl ?_
 exact⟨⟨x.bag,x.hold,x.opn,.slice a3 x.seals.length k3,.slice a4 x.packed.length k4,.slice a5 x.found.length k5,x.seals,x.packed,x.found⟩,by rw [hcs]; rfl,⟨rfl,rfl,rfl,rfl,rfl,rfl⟩,Sn,G⟩
def cellsN (l:List BagN):List Value:=l.flatMap BagN.cells
def famN (l:List BagN):List (Value×List Int):=l.flatMap BagN.fam
theorem cellsN_len (l:List BagN):(cellsN l).length=l.length*6:=flat_len _ 6 (fun _=>rfl) l
theorem cellsN_app (l m:List BagN):cellsN (l++m)=cellsN l++cellsN m:=by simp [cellsN]
theorem famN_app (l m:List BagN):famN (l++m)=famN l++famN m:=by simp [famN]
def zeroN:BagN:=⟨0,0,false,.slice none 0 0,.slice none 0 0,.slice none 0 0,[],[],[]⟩
theorem made_zeroN (n:Nat):(madeCells (Value.agg #[.int .i64 0,.int .i64 0,.bool false,.slice none 0 0,.slice none 0 0,.slice none 0 0]).cells (n*6)).toList=cellsN (List.replicate n zeroN):=by
 refine List.ext_getElem? fun i=>?_
 have hl:(cellsN (List.replicate n zeroN)).length=n*6:=by rw [cellsN_len,List.length_replicate]
 by_cases hi:i<n*6
 ·have h1:(cellsN (List.replicate n zeroN))[i]?=zeroN.cells[i % 6]?:=by
   have:=flat_get BagN.cells 6 (fun _=>rfl) (List.replicate n zeroN) (i / 6) (i % 6) (by rw [List.length_replicate]; omega) (by omega)
   rw [show i / 6*6+i % 6=i by omega] at this
   rw [show cellsN (List.replicate n zeroN)=(List.replicate n zeroN).flatMap BagN.cells from rfl,this]
   simp
  rw [h1]
  simp only [madeCells,Array.toList_map,List.getElem?_map]
  rw [show (Array.range (n*6)).toList[i]?=some i by simp [hi]]
  have h2:i % 6<6:=by omega
  show some ((#[Value.int .i64 0,.int .i64 0,.bool false,.slice none 0 0,.slice none 0 0,.slice none 0 0]:Array Value)[i % 6]!)=_
  generalize i % 6=j at *
  match j,h2 with
  | 0,_ | 1,_ | 2,_ | 3,_ | 4,_ | 5,_=>rfl
 ·rw [List.getElem?_eq_none (by simp [madeCells]; omega),List.getElem?_eq_none (by rw [hl]; omega)]
theorem set_at (A C:List Value) (j k:Nat) (u:Value) (hk:k=A.length+j):(A++C).set k u=A++C.set j u:=by
 subst hk
 rw [List.set_append_right _ _ (by omega),Nat.add_sub_cancel_left]
theorem set_six (l:List BagN) (m:Nat) (y:BagN) (k:Nat) (hk:k=l.length) :
  ((((((cellsN (l++List.replicate (m+1) zeroN)).set (k*6) (.int .i64 y.bag)).set (k*6+1) (.int .i64 y.hold)).set (k*6+2) (.bool y.opn)).set (k*6+3) y.vs).set (k*6+4) y.vp).set (k*6+5) y.vf=cellsN ((l++[y])++List.replicate m zeroN):=by
 subst hk
 have hl:=cellsN_len l
 rw [cellsN_app,set_at _ _ 0 _ _ (by omega),set_at _ _ 1 _ _ (by omega),set_at _ _ 2 _ _ (by omega),set_at _ _ 3 _ _ (by omega),set_at _ _ 4 _ _ (by omega),set_at _ _ 5 _ _ (by omega),cellsN_app,cellsN_app,List.append_assoc]
 rfl
structure NextW (w wr:World) (B:Nat) (v:Value) (l:List BagN) (m:Nat):Prop where
 since:w.Since B wr
 le:B≤wr.heap.size
 own:wr.ownsRow B 99 6 v (l.length+m) (cellsN (l++List.replicate m zeroN))
 fam:FamI wr B (famN l)
 ap:∀p∈famN l,apart v p.1
theorem FamI.base {w:World}{B B':Nat}{L:List (Value×List Int)}(h:FamI w B L) (hB:B'≤B):FamI w B' L:=⟨fun p hp=>own_base (h.own p hp) hB,h.ap⟩
theorem apart_some {g n c:Nat}{u:Value}(h:apart (.slice (some ⟨g,0,none⟩) n c) u):u.ownBlock≠some g:=by
 intro e
 rcases h with h | h | h
 ·cases h
 ·rw [h] at e; cases e
 ·exact h e.symm
theorem NextW.put {w wr w4:World}{B N n c m k:Nat}{l:List BagN}{y:BagN}(h:NextW w wr B (.slice (some ⟨N,0,none⟩) n c) l (m+1)) (hn:l.length+(m+1)=n) (hk:k=l.length) (hs:wr.Since wr.heap.size w4) (hy:FamI w4 wr.heap.size y.fam) :
  NextW w ((((((w4.setCell ⟨N,k*6,none⟩ (.int .i64 y.bag)).setCell ⟨N,k*6+1,none⟩ (.int .i64 y.hold)).setCell ⟨N,k*6+2,none⟩ (.bool y.opn)).setCell ⟨N,k*6+3,none⟩ y.vs).setCell ⟨N,k*6+4,none⟩ y.vp).setCell ⟨N,k*6+5,none⟩ y.vf) B (.slice (some ⟨N,0,none⟩) n c) (l++[y]) m:=by
 have hN:=h.own.lt N rfl
 have o4:=own_keep h.own hs
 rw [hn] at o4
 have F4:FamI w4 B (famN (l++[y])):=by
  rw [famN_app]
  have e1:famN [y]=y.fam:=by unfold famN; simp
  rw [e1]
  exact h.fam.append hs hy h.le
 have A4:∀p∈famN (l++[y]),p.1.ownBlock≠some N:=fun p hp=>by
  rw [famN_app] at hp
  rcases List.mem_append.1 hp with hp | hp
  ·exact apart_some (h.ap p hp)
  ·intro e
   have:=(hy.lt p (by simpa [famN] using hp) N e).1
   omega
 have s4:w.Since B w4:=h.since.trans (zJ9 hs h.le)
 have hB:B≤N:=hN.1
 refine⟨zE9 (zE9 (zE9 (zE9 (zE9 (zE9 s4 _ _ _ hB) _ _ _ hB) _ _ _ hB) _ _ _ hB) _ _ _ hB) _ _ _ hB,?_,?_,(((((F4.setCell N _ _ A4).setCell N _ _ A4).setCell N _ _ A4).setCell N _ _ A4).setCell N _ _ A4).setCell N _ _ A4,fun p hp=>.inr (.inr (Ne.symm (A4 p hp)))⟩
 ·simp only [World.setCell,Array.size_modify]
  exact Nat.le_trans h.le hs.size
 ·have o5:=own_set (own_set (own_set (own_set (own_set (own_set o4 (k*6) (by omega) (.int .i64 y.bag)) (k*6+1) (by omega) (.int .i64 y.hold)) (k*6+2) (by omega) (.bool y.opn)) (k*6+3) (by omega) y.vs) (k*6+4) (by omega) y.vp) (k*6+5) (by omega) y.vf
  rw [set_six l m y k hk] at o5
  rw [show (l++[y]).length+m=n by rw [List.length_append,List.length_singleton]; omega]
  exact o5
set_option maxHeartbeats 8000000 in
set_option maxRecDepth 100000 in
theorem Tryz.cloneBags_walk (ao:Option Addr) (b o n cap:Nat) (X:Nat→BagR) (w:World) (h:BagsW w ao b o n X) (hn:n≤1000) (hX:∀i,i<n→(X i).sn≤1000∧(X i).pn≤1000∧(X i).fn≤1000) :
  Calls Tryz.prog 69 #[.slice ao n cap] w fun e w'=>∃ (v:Value) (l:List BagN),e = .returned v∧l.length=n∧(∀i (hi:i<l.length),(X i).same l[i])∧NextW w w' w.heap.size v l 0:=by
 obtain⟨i9,hi9,hz90,hz91,hz92⟩:=info_parts Tryz.info99
 go_enter Tryz.func69,Tryz.ntmps69
 go_wp2_with (first
  | (refine wpList_make_full _ rfl _ _ 54 rfl w.heap.size 99 i9 _ 6 Tryz.underlying54 hi9 hz90 hz91 .i64 .i64 _ _ n rfl rfl rfl rfl (by rw [hz92]; omega) (by unfold maxLen; omega) (Nat.le_refl _) ?_; intro w1 hown1 hg1))
 rw [made_zeroN] at hown1
 have h0:NextW w w1 w.heap.size (.slice (some ⟨w.heap.size,0,none⟩) n n) [] n:=⟨since_none (World.Since.refl _ _) (Nat.le_refl _) hg1,hg1.size,by simpa using hown1,FamI.nil _ _,by simp [famN]⟩
 clear hown1 hg1
 go_loopw [11] (fun v wr=>∃l:List BagN,l.length≤n∧v = .int .i64 (l.length:Int)∧(∀i (hi:i<l.length),(X i).same l[i])∧NextW w wr w.heap.size (.slice (some ⟨w.heap.size,0,none⟩) n n) l (n - l.length)) (fun v _=>n - (RowKit.intOf v).toNat)
 case atStart=>exact⟨[],Nat.zero_le _,rfl,by simp,h0⟩
 case round=>
  clear h0
  obtain⟨l,hl,rfl,hsame,hT⟩:=hrel
  by_cases hkl:l.length<n
  ·have hR:=h.since (hT.since)
   obtain⟨rfl,hb⟩:=hR.at' (by omega)
   obtain⟨c0,c1,c2,c3,c4,c5⟩:=hR.row _ hkl
   have hki:(l.length:Int)<(n:Int):=by omega
   have hs1:wr.Since wr.heap.size (wr.alloc (.cells (X l.length).cells.toArray 99)):=(World.Since.refl _ _).alloc (Nat.le_refl _) _
   have hck:=Tryz.cloneBag_walk (X l.length) _ ((hR.ok _ hkl).since hs1) (hX _ hkl).1 (hX _ hkl).2.1 (hX _ hkl).2.2
   have hN:=hT.own.lt _ rfl
   obtain⟨m,hm⟩:∃m,n - l.length=m+1:=⟨n - l.length - 1,by omega⟩
   rw [hm] at hT
   have hn':l.length+(m+1)=n:=by omega
   have hown:=hT.own
   rw [hn'] at hown
   have hadd:∀y:BagN,(X l.length).same y→∀i (hi:i<(l++[y]).length),(X i).same (l++[y])[i]:=fun y hy i hi=>by
    rw [List.length_append,List.length_singleton] at hi
    by_cases e:i<l.length
    ·rw [List.getElem_append_left e]; exact hsame i e
    ·have e':i=l.length:=by omega
     subst e'
     rw [List.getElem_append_right (by omega)]
     simpa using hy
   clear h hR hX hsame
   unfold BagR.val BagR.cells at hck
   unfold BagR.cells at hs1
   generalize X l.length=x at *
   go_wp2_with fail
   refine hck.mono ?_
   rintro e w4 ⟨y,rfl,hxy,hs4,hf4⟩
   have hs5:=hs1.trans (zJ9 hs4 (by simp))
   have hf5:=hf4.base (B':=wr.heap.size) (by simp; omega)
   have hP:=hT.put (k:=l.length) hn' rfl hs5 hf5
   have o4:=own_keep hown hs5
   have hcl:∀j,j<6→∃u,w4.cell? ⟨w.heap.size,l.length*6+j,none⟩=some u:=fun j hj=>by
    have hlt:l.length*6+j<(cellsN (l++List.replicate (m+1) zeroN)).length:=by rw [cellsN_len]; simp; omega
    exact⟨_,(o4.cellAt (l.length*6+j) (by omega)).trans (List.getElem?_eq_getElem hlt)⟩
   obtain⟨z0,e0⟩:=hcl 0 (by omega); obtain⟨z1,e1⟩:=hcl 1 (by omega); obtain⟨z2,e2⟩:=hcl 2 (by omega); obtain⟨z3,e3⟩:=hcl 3 (by omega); obtain⟨z4,e4⟩:=hcl 4 (by omega); obtain⟨z5,e5⟩:=hcl 5 (by omega)
   rw [Nat.add_zero] at e0
   have f0:=o4.frozenAt (l.length*6); have f1:=o4.frozenAt (l.length*6+1); have f2:=o4.frozenAt (l.length*6+2); have f3:=o4.frozenAt (l.length*6+3); have f4:=o4.frozenAt (l.length*6+4); have f5:=o4.frozenAt (l.length*6+5)
   have hA:=hadd y hxy
   obtain⟨n3,k3,e3'⟩:∃a k,y.vs = .slice a y.seals.length k:=by
    obtain⟨a,k,e,-⟩:=own_form (hf4.own (y.vs,y.seals) (by simp [BagN.fam])); exact⟨a,k,e⟩
   obtain⟨n4,k4,e4'⟩:∃a k,y.vp = .slice a y.packed.length k:=by
    obtain⟨a,k,e,-⟩:=own_form (hf4.own (y.vp,y.packed) (by simp [BagN.fam])); exact⟨a,k,e⟩
   obtain⟨n5,k5,e5'⟩:∃a k,y.vf = .slice a y.found.length k:=by
    obtain⟨a,k,e,-⟩:=own_form (hf4.own (y.vf,y.found) (by simp [BagN.fam])); exact⟨a,k,e⟩
   unfold BagN.cells
   rw [e3',e4',e5'] at hP ⊢
   clear hadd hck hs4 hf4 hf5 hs5 hT hown o4 hcl hs1 c0 c1 c2 c3 c4 c5
   go_wp2_with fail
   have hlen1:(l++[y]).length=l.length+1:=by simp
   exact⟨⟨l++[y],by omega,by simp,hA,by rw [show n - (l++[y]).length=m by omega]; exact hP⟩,by simp [RowKit.intOf]; omega⟩
  ·have hke:l.length=n:=by omega
   rw [show n - l.length=0 by omega] at hT
   have hK:¬ ((l.length:Int)<(n:Int)):=by omega
   clear h hX
   go_wp2
   refine bodyPost_ret (results_tmp rfl _ _ _) rfl ?_
   exact⟨_,rfl,l,hke,hsame,hT⟩
end Go.Proofs
namespace Go.Proofs
open Go.RowKit Go.LS Go.Deep Go.Sort
set_option linter.all false
def BevR.val (x:BevR):Value:=.agg #[.int .i64 x.t,.int .i64 x.src,.int .i64 x.seq,.int .i64 x.kind,.int .i64 x.bag,.int .i64 x.sealQ,.int .i64 x.frm,.int .i64 x.to',.slice x.ca x.cn x.cc]
def ptrAt (b:Nat):Value:=.pointer (some ⟨b,0,none⟩)
def fnAt (g:Nat) (caps:Array Value):Value:=.func (.func g) #[] caps
def newW (w:World) (ao:Option Addr) (n cap:Nat) (x:BevR) (there:Bool):World:=
 (((w.alloc (.cells #[.slice ao n cap] 54)).alloc (.cells x.cells.toArray 44)).alloc (.cells #[.bool there] 4)).alloc (.cells #[.int .i64 8,fnAt 91 #[ptrAt (w.heap.size+1)],.int .i64 5,fnAt 92 #[ptrAt (w.heap.size+2)],.int .i64 9,fnAt 93 #[ptrAt w.heap.size,ptrAt (w.heap.size+1)],.int .i64 3,fnAt 99 #[ptrAt w.heap.size]] 130)
set_option maxHeartbeats 4000000 in
set_option maxRecDepth 100000 in
theorem Tryz.newC_walk (ao:Option Addr) (n cap:Nat) (x:BevR) (there:Bool) (w:World) :
  Calls Tryz.prog 66 #[.slice ao n cap,x.val,.bool there] w fun e w'=>e = .returned (.slice (some ⟨w.heap.size+3,0,none⟩) 4 4)∧w'=newW w ao n cap x there:=by
 unfold newW BevR.val BevR.cells
 go_enter Tryz.func66,Tryz.ntmps66
 go_wp2
 go_ret
 exact⟨rfl,rfl⟩
def oldW (w:World) (ao:Option Addr) (n cap:Nat) (x:BevR) (place:Nat) (there:Bool):World:=
 ((((w.alloc (.cells #[.slice ao n cap] 54)).alloc (.cells x.cells.toArray 44)).alloc (.cells #[.int .i64 (place:Int)] 3)).alloc (.cells #[.bool there] 4)).alloc (.cells #[.int .i64 4,fnAt 100 #[ptrAt (w.heap.size+3)],.int .i64 8,fnAt 101 #[ptrAt w.heap.size,ptrAt (w.heap.size+2),ptrAt (w.heap.size+1)],.int .i64 9,fnAt 102 #[ptrAt (w.heap.size+1),ptrAt w.heap.size,ptrAt (w.heap.size+2)],.int .i64 3,fnAt 103 #[ptrAt (w.heap.size+1),ptrAt w.heap.size,ptrAt (w.heap.size+2)]] 130)
set_option maxHeartbeats 4000000 in
set_option maxRecDepth 100000 in
theorem Tryz.oldC_walk (ao:Option Addr) (n cap:Nat) (x:BevR) (place:Nat) (there:Bool) (w:World) :
  Calls Tryz.prog 67 #[.slice ao n cap,x.val,.int .i64 (place:Int),.bool there] w fun e w'=>e = .returned (.slice (some ⟨w.heap.size+4,0,none⟩) 4 4)∧w'=oldW w ao n cap x place there:=by
 unfold oldW BevR.val BevR.cells
 go_enter Tryz.func67,Tryz.ntmps67
 go_wp2
 go_ret
 exact⟨rfl,rfl⟩
theorem Tryz.info130:(Tryz.prog.info? 130).map (fun i=>(i.zero,i.size,i.bytes))=some (some (.agg #[.int .i64 0,.nilFunc]),2,16):=by kernel_rfl
structure CndW (w:World) (A p:Nat) (x:BevR) (ao:Option Addr) (b o n cap:Nat) (X:Nat→BagR):Prop where
 e:EvC w A x
 l:w.cell? ⟨p,0,none⟩=some (.slice ao n cap)
 e':EvC w (p+1) x
 bags:BagsW w ao b o n X
 cands:SlW w x.ca x.cn x.cc x.cands
theorem CndW.since {w w':World}{A p:Nat}{x:BevR}{ao:Option Addr}{b o n cap:Nat}{X:Nat→BagR}(h:CndW w A p x ao b o n cap X) (hs:w.Since w.heap.size w'):CndW w' A p x ao b o n cap X:=
 ⟨h.e.since hs,(hs.cell (a:=⟨p,0,none⟩) (World.block_lt_of_cell? w _ h.l)).trans h.l,h.e'.since hs,h.bags.since hs,h.cands.since (B:=0) hs⟩
theorem cell_since {w w':World}(hs:w.Since w.heap.size w'){a:Addr}{v:Value}(h:w.cell? a=some v):w'.cell? a=some v:=(hs.cell (World.block_lt_of_cell? w _ h)).trans h
def forP (x:BevR):Bool := !decide (x.src=0) && !decide (x.src=x.frm)
def holdN (rng there:Bool) (n:Nat) (X:Nat→BagR) (x:BevR):Nat→Bool
 | 0=>rng
 | 1=>forP x
 | 2=>decide (x.frm=0)
 | 3=>there
 | 4=>inBagsP 95 n X x.sealQ||x.cands.any (inBagsP 98 n X)
 | _=>decide ((20:Int)≤(n:Int))
def codeN:Nat→Int
 | 0=>2
 | 1=>28
 | 2=>8
 | 3=>5
 | 4=>9
 | _=>3
def gN:Nat→Nat
 | 0=>63
 | 1=>65
 | 2=>91
 | 3=>92
 | 4=>93
 | _=>99
def capsN (A p:Nat):Nat→Array Value
 | 0 => #[ptrAt A]
 | 1 => #[ptrAt A]
 | 2 => #[ptrAt (p+1)]
 | 3 => #[ptrAt (p+2)]
 | 4 => #[ptrAt p,ptrAt (p+1)]
 | _ => #[ptrAt p]
theorem enter63:∀args w,(callFunc 63 args).run Tryz.prog w = .ok (.enter 63 args) w:=enters_of Tryz.func63 (by kernel_rfl) rfl
theorem enter65:∀args w,(callFunc 65 args).run Tryz.prog w = .ok (.enter 65 args) w:=enters_of Tryz.func65 (by kernel_rfl) rfl
theorem enter91:∀args w,(callFunc 91 args).run Tryz.prog w = .ok (.enter 91 args) w:=enters_of Tryz.func91 (by kernel_rfl) rfl
theorem enter92:∀args w,(callFunc 92 args).run Tryz.prog w = .ok (.enter 92 args) w:=enters_of Tryz.func92 (by kernel_rfl) rfl
theorem enter93:∀args w,(callFunc 93 args).run Tryz.prog w = .ok (.enter 93 args) w:=enters_of Tryz.func93 (by kernel_rfl) rfl
theorem enter99:∀args w,(callFunc 99 args).run Tryz.prog w = .ok (.enter 99 args) w:=enters_of Tryz.func99 (by kernel_rfl) rfl
theorem enter100:∀args w,(callFunc 100 args).run Tryz.prog w = .ok (.enter 100 args) w:=enters_of Tryz.func100 (by kernel_rfl) rfl
theorem enter101:∀args w,(callFunc 101 args).run Tryz.prog w = .ok (.enter 101 args) w:=enters_of Tryz.func101 (by kernel_rfl) rfl
theorem enter102:∀args w,(callFunc 102 args).run Tryz.prog w = .ok (.enter 102 args) w:=enters_of Tryz.func102 (by kernel_rfl) rfl
theorem enter103:∀args w,(callFunc 103 args).run Tryz.prog w = .ok (.enter 103 args) w:=enters_of Tryz.func103 (by kernel_rfl) rfl
theorem Tryz.firstN_walk (A p r cap':Nat) (x:BevR) (ao:Option Addr) (b o n cap:Nat) (X:Nat→BagR) (rng there:Bool) (w:World) (h:CndW w A p x ao b o n cap X) (ht:w.cell? ⟨p+2,0,none⟩=some (.bool there)) (hn:n≤1000) (hX:∀i,i<n→(X i).sn≤1000∧(X i).pn≤1000) (hcn:x.cn≤1000)
  (hr:r<w.heap.size) (hc:∀i,i<6→w.cell? ⟨r,i*2,none⟩=some (.int .i64 (codeN i))∧w.cell? ⟨r,i*2+1,none⟩=some (fnAt (gN i) (capsN A p i)))
  (hq:∀W,w.Since w.heap.size W→Calls Tryz.prog 64 #[x.val] W fun e w'=>e = .returned (.bool rng)∧W.Since W.heap.size w') :
  Calls Tryz.prog 68 #[.slice (some ⟨r,0,none⟩) 6 cap'] w fun e w'=>e = .returned (.int .i64 (firstP codeN (holdN rng there n X x) 6 0))∧w.Since w.heap.size w':=by
 refine Tryz.first_walk r 6 cap' codeN gN (capsN A p) (holdN rng there n X x) w (by omega) hr hc ?_ ?_
 ·intro i hi
  match i,hi with
  | 0,_=>exact enter63
  | 1,_=>exact enter65
  | 2,_=>exact enter91
  | 3,_=>exact enter92
  | 4,_=>exact enter93
  | 5,_=>exact enter99
 ·intro i hi _ W hW
  have hD:=h.since hW
  match i,hi with
  | 0,_=>exact Tryz.f63_walk A x rng W hD.e fun W2 hW2=>hq W2 (hW.trans (zJ9 hW2 hW.size))
  | 1,_=>exact (Tryz.f65_walk A x W hD.e).mono fun e w' h'=>⟨h'.1,Grown.since h'.2⟩
  | 2,_=>exact (Tryz.f91_walk (p+1) x W hD.e').mono fun e w' h'=>⟨h'.1,Grown.since h'.2⟩
  | 3,_=>exact (Tryz.f92_walk (p+2) there W (cell_since hW ht)).mono fun e w' h'=>⟨h'.1,Grown.since h'.2⟩
  | 4,_=>exact (Tryz.f93_walk p (p+1) x ao b o n cap X W hD.bags hn hX hD.l hD.e' hD.cands hcn).mono fun e w' h'=>⟨h'.1,Grown.since h'.2⟩
  | 5,_=>exact (Tryz.f99_walk p ao n cap W hD.l).mono fun e w' h'=>⟨h'.1,Grown.since h'.2⟩
def holdO (rng there:Bool) (place n:Nat) (X:Nat→BagR) (x:BevR):Nat→Bool
 | 0=>rng
 | 1=>forP x
 | 2 => !there
 | 3=>stateP (X place) x
 | 4=>confP n X place x
 | _=>decide (x.kind=4)&&decide ((300:Int)≤((X place).sn:Int))
def codeO:Nat→Int
 | 0=>2
 | 1=>28
 | 2=>4
 | 3=>8
 | 4=>9
 | _=>3
def gO:Nat→Nat
 | 0=>63
 | 1=>65
 | 2=>100
 | 3=>101
 | 4=>102
 | _=>103
def capsO (A p:Nat):Nat→Array Value
 | 0 => #[ptrAt A]
 | 1 => #[ptrAt A]
 | 2 => #[ptrAt (p+3)]
 | 3 => #[ptrAt p,ptrAt (p+2),ptrAt (p+1)]
 | 4 => #[ptrAt (p+1),ptrAt p,ptrAt (p+2)]
 | _ => #[ptrAt (p+1),ptrAt p,ptrAt (p+2)]
theorem Tryz.firstO_walk (A p r cap':Nat) (x:BevR) (ao:Option Addr) (b o n cap place:Nat) (X:Nat→BagR) (rng there:Bool) (w:World) (h:CndW w A p x ao b o n cap X) (hp:w.cell? ⟨p+2,0,none⟩=some (.int .i64 (place:Int))) (ht:w.cell? ⟨p+3,0,none⟩=some (.bool there)) (hn:n≤1000) (hX:∀i,i<n→(X i).sn≤1000∧(X i).pn≤1000) (hs:∀i,i<n→0<(X i).sn) (hth:there=true→place<n)
  (hr:r<w.heap.size) (hc:∀i,i<6→w.cell? ⟨r,i*2,none⟩=some (.int .i64 (codeO i))∧w.cell? ⟨r,i*2+1,none⟩=some (fnAt (gO i) (capsO A p i)))
  (hq:∀W,w.Since w.heap.size W→Calls Tryz.prog 64 #[x.val] W fun e w'=>e = .returned (.bool rng)∧W.Since W.heap.size w') :
  Calls Tryz.prog 68 #[.slice (some ⟨r,0,none⟩) 6 cap'] w fun e w'=>e = .returned (.int .i64 (firstP codeO (holdO rng there place n X x) 6 0))∧w.Since w.heap.size w':=by
 refine Tryz.first_walk r 6 cap' codeO gO (capsO A p) (holdO rng there place n X x) w (by omega) hr hc ?_ ?_
 ·intro i hi
  match i,hi with
  | 0,_=>exact enter63
  | 1,_=>exact enter65
  | 2,_=>exact enter100
  | 3,_=>exact enter101
  | 4,_=>exact enter102
  | 5,_=>exact enter103
 ·intro i hi hno W hW
  have hD:=h.since hW
  have hk:3≤i→place<n:=fun h3=>hth (by have:=hno 2 (by omega); simpa [holdO] using this)
  match i,hi,hk with
  | 0,_,_=>exact Tryz.f63_walk A x rng W hD.e fun W2 hW2=>hq W2 (hW.trans (zJ9 hW2 hW.size))
  | 1,_,_=>exact (Tryz.f65_walk A x W hD.e).mono fun e w' h'=>⟨h'.1,Grown.since h'.2⟩
  | 2,_,_=>exact (Tryz.f100_walk (p+3) there W (cell_since hW ht)).mono fun e w' h'=>⟨h'.1,Grown.since h'.2⟩
  | 3,_,hk=>exact (Tryz.f101_walk p (p+2) (p+1) x ao b o n cap place X W hD.bags (hk (by omega)) hD.l (cell_since hW hp) hD.e').mono fun e w' h'=>⟨h'.1,Grown.since h'.2⟩
  | 4,_,hk=>exact (Tryz.f102_walk p (p+2) (p+1) x ao b o n cap place X W hD.bags hn hX (hk (by omega)) (hs _ (hk (by omega))) hD.l (cell_since hW hp) hD.e').mono fun e w' h'=>⟨h'.1,Grown.since h'.2⟩
  | 5,_,hk=>exact (Tryz.f103_walk p (p+2) (p+1) x ao b o n cap place X W hD.bags (hk (by omega)) hD.l (cell_since hW hp) hD.e').mono fun e w' h'=>⟨h'.1,Grown.since h'.2⟩
end Go.Proofs
