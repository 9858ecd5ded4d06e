/-
  Walks of attendance.Compare, custody.Account and copies.Split. No condition but those that each theorem names.
-/
import Derived.Test.YtmgjidfafnajnaaGreatProg
import Derived.KernelRfl
import Derived.Tactics
import Derived.WalkKit
import Derived.BigCall
import Derived.BigGuard
import Derived.LoopTactic
import Derived.Deep.Draws
import Derived.Deep.LoopGhost
import Derived.Deep.OwnRows
import Derived.Deep.AppendLies
import Derived.IntWalk
import Derived.Laws.Rows
import Derived.Maps.OwnSet
import Derived.Maps.Views
import Derived.Carry
import Derived.Test.YtmgjidfafnajnaaGreatLs25
import Derived.DeepKeys5
import Derived.Deep.RegionLaw
import Derived.Deep.RegionWith
import Derived.Deep.RegionHeld3
namespace Go.Proofs
open Go.RowKit Go.LS Go.Deep
set_option linter.all false
def in64 (c:Int):Prop:=-9223372036854775808≤c∧c<9223372036854775808
theorem wf_of {c:Int}(h:in64 c):(Lit.int .i64 c).wf=true:=by
 obtain⟨h1,h2⟩:=h
 simp only [Lit.wf,Bool.and_eq_true,decide_eq_true_eq]
 have e:IntKind.i64.min = -9223372036854775808:=by decide
 have e2:IntKind.i64.max=9223372036854775807:=by decide
 omega
def SetW (w:World) (b n:Nat) (L:List Int):Prop:=∃D:DataW Unit,w.ownsMap Tryz.prog 3 (plainElem Tryz.prog 4) b n D∧∀c,in64 c→D.atKey (.int .i64 c) (.lit (.bool false)) = .lit (.bool (decide (c∈L)))
theorem key_int {c:Int}(h:in64 c):keyOf Tryz.prog 3 (.int .i64 c)=some (.int .i64 c):=Maps.keyOf_int_mk Tryz.underlying3 (wf_of h)
theorem SetW.made (w:World):SetW (w.alloc (.map #[] 0)) w.heap.size 0 []:=
 ⟨_,World.ownsMap_made w Tryz.prog 3 (plainElem Tryz.prog 4),fun c _=>by simp [DataW.atKey]⟩
theorem SetW.kept {w w':World}{b n:Nat}{L:List Int}(h:SetW w b n L){row:Option Nat}(hg:w.grownBy w' row) (hne:some b≠row):SetW w' b n L:=by
 obtain⟨D,h1,h2⟩:=h
 exact⟨D,h1.kept hg hne,h2⟩
theorem SetW.lt {w:World}{b n:Nat}{L:List Int}(h:SetW w b n L):b<w.heap.size:=by
 obtain⟨D,h1,h2⟩:=h
 exact h1.lt
theorem zero4 (w:World):(zeroValue 4).run Tryz.prog w = .ok (.bool false) w:=Tryz.zeroValue4 w
theorem plain_bool_inv {P:Program}{e:TypeId}(he:P.underlying e=some .bool){v:Value}{x:Bool}{ps:List MemPlace}(h:plainElem (H:=Unit) P e v=some (.lit (.bool x),ps)):v = .bool x:=by
 unfold plainElem at h
 rw [he] at h
 cases v <;> simp at h
 rw [h.1]
theorem SetW.look {w:World}{b n:Nat}{L:List Int}(h:SetW w b n L){c:Int}(hc:in64 c):(Instr.lookup 101 (.map (some b)) (.int .i64 c) false).run Tryz.prog w = .ok (.bool (decide (c∈L))) w:=by
 obtain⟨D,h1,h2⟩:=h
 obtain⟨v,ps,hrun,hv⟩:=h1.lookup (Maps.int_keyed Tryz.underlying3) Tryz.underlying101 (zero4 w) (plainElem_bool Tryz.underlying4 false) (key_int hc)
 rw [h2 c hc] at hv
 rw [hrun,plain_bool_inv Tryz.underlying4 hv]
section
variable {P:Program} (w:World) {ops:Array Oper} {rest:List Oper} {o:Oper} {a:Act} {Q:Exit→Act→World→Prop}
theorem wpList_set_put (hg:o.guard=none) (m x v:Operand) (hop:o.op=Op.mapUpdate 101 m x v) (b n:Nat) (L:List Int) (hs:SetW w b n L) (hn:n<maxLen) (c:Int) (hc:in64 c)
  (hm:a.eval m = .map (some b)) (hx:a.eval x = .int .i64 c) (hv:a.eval v = .bool true)
  (hK:∀w',SetW w' b (n+1) (c :: L)→w.grownBy w' (some b)→wpList Tryz.prog ops Q rest (a.put o.dst undef) w'):wpList Tryz.prog ops Q (o :: rest) a w:=by
 obtain⟨D,h1,h2⟩:=hs
 have K:=Maps.int_keyed Tryz.underlying3
 refine wpList_mapUpdate_own w hg m x v 101 hop 3 4 K Tryz.underlying101 (plainElem Tryz.prog 4) b n D hm h1 hn _ _ _ hx hv (key_int hc) _ [] (plainElem_bool Tryz.underlying4 true) fun w' h3 h4=>hK w' ⟨_,h3,fun c' hc'=>?_⟩ h4
 by_cases e:c'=c
 ·subst e
  rw [Maps.atKey_put_same (h1.isMap) (by simp [WideAt.IsKeyLit])]
  simp
 ·rw [Maps.atKey_put_other (by intro e'; injection e' with _ e'; exact e e'),h2 c' hc']
  simp [e]
end
end Go.Proofs
namespace Go.Proofs
open Go.RowKit Go.LS Go.Deep
set_option linter.all false
theorem Tryz.info3:(Tryz.prog.info? 3).map (fun i=>(i.zero,i.size,i.bytes))=some (some (.int .i64 0),1,8):=by kernel_rfl
def IntsAt (w:World) (b o:Nat) (l:List Int):Prop:=∀i,i<l.length→w.cell? ⟨b,o+i,none⟩=some (.int .i64 (l.getD i 0))
def intZ (l:List Int):List Value:=l.map fun x:Int=>Value.int .i64 x
theorem intZ_len (l:List Int):(intZ l).length=l.length:=by simp [intZ]
theorem intZ_app (l m:List Int):intZ (l++m)=intZ l++intZ m:=by simp [intZ]
theorem zJ9 {B B':Nat}{w w':World}(h:w.Since B w') (hB:B'≤B):w.Since B' w':=⟨h.os,h.tape,h.output,h.size,fun k hk=>h.block k (by omega)⟩
theorem own_keep {w w':World}{B e size n:Nat}{v:Value}{xs:List Value}(h:w.ownsRow B e size v n xs) (hS:w.Since w.heap.size w'):w'.ownsRow B e size v n xs:=
 h.kept (row:=none) ⟨hS.os,hS.tape,hS.output,hS.size,fun k hk _=>hS.block k hk⟩ (by cases v.ownBlock <;> simp)
theorem SetW.since {w w':World}{b n B:Nat}{L:List Int}(h:SetW w b n L) (hS:w.Since B w') (hb:b<B):SetW w' b n L:=by
 obtain⟨D,⟨es,clock,h1,h2⟩,h3⟩:=h
 exact⟨D,⟨es,clock,(hS.block b hb).trans h1,h2⟩,h3⟩
structure TwoW (w wr:World) (B:Nat) (v1 v2:Value) (l1 l2:List Int):Prop where
 since:w.Since B wr
 le:B≤wr.heap.size
 own1:wr.ownsRow B 3 1 v1 l1.length (intZ l1)
 own2:wr.ownsRow B 3 1 v2 l2.length (intZ l2)
 ne:v1.ownBlock=none∨v2.ownBlock=none∨v1.ownBlock≠v2.ownBlock
theorem TwoW.swap {w wr:World}{B:Nat}{v1 v2:Value}{l1 l2:List Int}(h:TwoW w wr B v1 v2 l1 l2):TwoW w wr B v2 v1 l2 l1:=
 ⟨h.since,h.le,h.own2,h.own1,by rcases h.ne with e | e | e; exact .inr (.inl e); exact .inl e; exact .inr (.inr (Ne.symm e))⟩
theorem TwoW.keep {w wr w':World}{B:Nat}{v1 v2:Value}{l1 l2:List Int}(h:TwoW w wr B v1 v2 l1 l2) (hS:wr.Since wr.heap.size w'):TwoW w w' B v1 v2 l1 l2:=
 ⟨h.since.trans (zJ9 hS h.le),Nat.le_trans h.le hS.size,own_keep h.own1 hS,own_keep h.own2 hS,h.ne⟩
theorem TwoW.push {w wr w':World}{B g cap:Nat}{v1 v2:Value}{l1 l2:List Int}{c:Int}(h:TwoW w wr B v1 v2 l1 l2)
  (ho:w'.ownsRow B 3 1 (.slice (some ⟨g,0,none⟩) (l1.length+1) cap) (l1.length+1) (intZ l1++[.int .i64 c])) (hg:wr.grownBy w' v1.ownBlock) (hat:v1.ownBlock=some g∨g=wr.heap.size) :
  TwoW w w' B (.slice (some ⟨g,0,none⟩) (l1.length+1) cap) v2 (l1++[c]) l2:=by
 have hlt:=h.own2.lt
 refine⟨⟨hg.os.trans h.since.os,hg.tape.trans h.since.tape,hg.output.trans h.since.output,Nat.le_trans h.since.size hg.size,fun k hk=>?_⟩,Nat.le_trans h.le hg.size,?_,?_,?_⟩
 ·rw [hg.block k (by have:=h.le; omega) ?_]
  ·exact h.since.block k hk
  ·intro e
   have:=(h.own1.lt k e.symm).1
   omega
 ·rw [List.length_append,List.length_singleton,intZ_app]
  exact ho
 ·refine h.own2.kept hg ?_
  rcases h.ne with e | e | e
  ·rw [e]; cases v2.ownBlock <;> simp
  ·exact .inl e
  ·exact .inr (Ne.symm e)
 ·show some g=none∨_∨some g≠_
  right
  cases e2:v2.ownBlock with
  | none=>exact .inl rfl
  | some x=>
   right
   have hx:=(hlt x e2).2
   rcases hat with e | e
   ·rcases h.ne with e' | e' | e'
    ·rw [e'] at e; cases e
    ·rw [e'] at e2; cases e2
    ·rw [e,e2] at e'; exact e'
   ·intro e'; have:=Option.some.inj e'; omega
theorem TwoW.alloc {w wr:World}{B:Nat}{v1 v2:Value}{l1 l2:List Int}(h:TwoW w wr B v1 v2 l1 l2) (o:Obj):TwoW w (wr.alloc o) B v1 v2 l1 l2:=
 h.keep ((World.Since.refl _ _).alloc (Nat.le_refl _) _)
def woP (cand st:Nat→Int) (S:List Int) (k:Nat):List Int:=((List.range k).filter fun i=>decide (st i=1) && !decide (cand i∈S)).map cand
def deP (cand st:Nat→Int) (S:List Int) (k:Nat):List Int:=((List.range k).filter fun i => !decide (st i=1)&&decide (cand i∈S)).map cand
theorem filt_le (p:Nat→Bool) (c:Nat→Int) (k:Nat):(((List.range k).filter p).map c).length≤k:=by
 rw [List.length_map]
 have:=List.length_filter_le p (List.range k)
 rw [List.length_range] at this
 exact this
theorem filt_succ (p:Nat→Bool) (c:Nat→Int) (k:Nat):((List.range (k+1)).filter p).map c=((List.range k).filter p).map c++(if p k=true then [c k] else []):=by
 rw [List.range_succ,List.filter_append,List.map_append]
 congr 1
 rw [List.filter_cons]
 cases p k <;> simp
set_option maxHeartbeats 16000000 in
set_option maxRecDepth 100000 in
theorem Tryz.Compare_walk (ao ao2:Option Addr) (b o cap n b2 o2 cap2:Nat) (cand st lt lf:Nat→Int) (ad:Nat→Option Addr) (ln cp:Nat→Nat) (S:List Int) (w:World)
  (hao:0<n→ao=some ⟨b,o,none⟩∧b<w.heap.size) (hc:∀i,i<n→w.cell? ⟨b,o+i*5,none⟩=some (.int .i64 (cand i))∧w.cell? ⟨b,o+i*5+1,none⟩=some (.int .i64 (st i))∧w.cell? ⟨b,o+i*5+2,none⟩=some (.int .i64 (lt i))∧w.cell? ⟨b,o+i*5+3,none⟩=some (.int .i64 (lf i))∧w.cell? ⟨b,o+i*5+4,none⟩=some (.slice (ad i) (ln i) (cp i))) (hcand:∀i,i<n→in64 (cand i))
  (hao2:0<S.length→ao2=some ⟨b2,o2,none⟩∧b2<w.heap.size) (hI:IntsAt w b2 o2 S) (hS:∀x∈S,in64 x) (hn:n≤1000) (hS1:S.length≤1000) :
  Calls Tryz.prog 18 #[.slice ao n cap,.slice ao2 S.length cap2] w fun e w'=>∃v1 v2 w1,e = .returned (.tuple #[v1,v2])∧w.Since w.heap.size w1∧TwoW w1 w' (w.heap.size+1) v1 v2 (woP cand st S n) (deP cand st S n):=by
 obtain⟨i3,hi3,hz30,hz31,hz32⟩:=info_parts Tryz.info3
 have hmm:=@run_makeMap Tryz.prog
 go_enter Tryz.func18,Tryz.ntmps18
 go_wp2
 go_loopw [15] (fun v wr=>∃k:Nat,k≤S.length∧v = .int .i64 k∧w.Since w.heap.size wr∧w.heap.size+1≤wr.heap.size∧SetW wr w.heap.size k (S.take k).reverse) (fun v _=>S.length - (RowKit.intOf v).toNat)
 case atStart=>exact⟨0,Nat.zero_le _,rfl,(World.Since.refl _ _).alloc (Nat.le_refl _) _,by simp,SetW.made w⟩
 case round=>
  obtain⟨k,hk,rfl,hs,hz,hM⟩:=hrel
  by_cases hkl:k<S.length
  ·obtain⟨rfl,hb2⟩:=hao2 (by omega)
   have hcell:wr.cell? ⟨b2,o2+k,none⟩=some (.int .i64 (S.getD k 0)):=(hs.cell (a:=⟨b2,o2+k,none⟩) hb2).trans (hI k hkl)
   have hmem:in64 (S.getD k 0):=by
    rw [List.getD_eq_getElem?_getD,List.getElem?_eq_getElem hkl]; exact hS _ (List.getElem_mem hkl)
   have hki:(k:Int)<(S.length:Int):=by omega
   have htk:(S.take (k+1)).reverse=S.getD k 0 :: (S.take k).reverse:=by
    rw [List.take_succ,List.reverse_append,List.getElem?_eq_getElem hkl,List.getD_eq_getElem?_getD,List.getElem?_eq_getElem hkl]; rfl
   generalize S.getD k 0=c at hcell hmem htk
   generalize (S.take k).reverse=L at hM htk
   clear hI hS hc hcand
   go_wp2_with (first | (at_mapUpdate; refine wpList_set_put _ rfl _ _ _ rfl w.heap.size k L hM (by unfold maxLen; omega) c hmem rfl rfl rfl ?_; intro w1 hM1 hg1))
   refine⟨⟨k+1,by omega,by simp,⟨hg1.os.trans hs.os,hg1.tape.trans hs.tape,hg1.output.trans hs.output,Nat.le_trans hs.size hg1.size,fun j hj=>?_⟩,?_,by rw [htk]; exact hM1⟩,by simp [RowKit.intOf]; omega⟩
   ·rw [hg1.block j (by omega) (by intro e; have:=Option.some.inj e; omega)]
    exact hs.block j hj
   ·have:=hg1.size; omega
  ·have hke:k=S.length:=by omega
   subst hke
   rw [List.take_length] at hM
   have hMe:∀c,(c∈S.reverse)=(c∈S):=fun c=>by simp
   clear hI hS hao2 hk hkl
   generalize S.reverse=R at hM hMe
   rename World=>wS
   go_wp2
   go_loopw [4,5,24] (fun v1 v2 i wi=>∃j:Nat,j≤n∧i = .int .i64 j∧TwoW wS wi (w.heap.size+1) v1 v2 (woP cand st S j) (deP cand st S j)) (fun _ _ v _=>n - (RowKit.intOf v).toNat)
   case atStart=>exact⟨0,Nat.zero_le _,rfl,World.Since.refl _ _,hz,World.ownsRow_nil _ _ _ _,World.ownsRow_nil _ _ _ _,.inl rfl⟩
   case round=>
    obtain⟨j,hj,rfl,hT⟩:=hrel
    by_cases hjl:j<n
    ·obtain⟨rfl,hb⟩:=hao (by omega)
     obtain⟨k0,k1,k2,k3,k4⟩:=hc j hjl
     have up:∀ {i:Nat} {v:Value},w.cell? ⟨b,i,none⟩=some v→wr.cell? ⟨b,i,none⟩=some v:=fun {i v} h=>(hT.since.cell (a:=⟨b,i,none⟩) (by show b<_; omega)).trans ((hs.cell (a:=⟨b,i,none⟩) hb).trans h)
     have c0:=up k0; have c1:=up k1; have c2:=up k2; have c3:=up k3; have c4:=up k4
     have hcj:=hcand j hjl
     have hMw:=hM.since (hT.since) (by omega)
     have hji:(j:Int)<(n:Int):=by omega
     clear hc hcand hM up k0 k1 k2 k3 k4 hao
     have hlook:∀ob,(Instr.lookup 101 (.map (some w.heap.size)) (.int .i64 (cand j)) false).run Tryz.prog (wr.alloc ob) = .ok (.bool (decide (cand j∈S))) (wr.alloc ob):=fun ob=>by
      have:=(hMw.since (((World.Since.refl wr.heap.size wr).alloc (Nat.le_refl _) ob)) hMw.lt).look hcj
      rw [this]
      simp [hMe]
     have w1:woP cand st S (j+1)=woP cand st S j++(if (decide (st j=1) && !decide (cand j∈S))=true then [cand j] else []):=filt_succ _ _ _
     have w2:deP cand st S (j+1)=deP cand st S j++(if (!decide (st j=1)&&decide (cand j∈S))=true then [cand j] else []):=filt_succ _ _ _
     have n1:(woP cand st S j).length≤j:=filt_le _ _ _
     have n2:(deP cand st S j).length≤j:=filt_le _ _ _
     have hle:=hT.le
     clear hMe hMw
     by_cases h1:st j=1
     ·rw [h1] at c1
      by_cases hm:cand j∈S
      ·rw [decide_eq_true hm] at hlook
       rw [decide_eq_true h1,decide_eq_true hm] at w1 w2
       go_wp2
       exact⟨⟨j+1,by omega,by simp,by rw [w1,w2]; simpa using hT.alloc _⟩,by simp [RowKit.intOf]; omega⟩
      ·rw [decide_eq_false hm] at hlook
       rw [decide_eq_true h1,decide_eq_false hm] at w1 w2
       go_wp2_with (refine wpList_append_lies _ rfl (.tmp 40) (.tmp 43) 22 rfl (w.heap.size+1) 3 i3 (.int .i64 0) 1 8 Tryz.underlying22 hi3 hz30 hz31 hz32 rfl (by decide) _ _ _ rfl ((hT.alloc _).alloc _).own1 ⟨wr.heap.size+1,0,none⟩ 1 1 [.int .i64 (cand j)] rfl rfl (World.news_of_block (cs := #[.int .i64 (cand j)]) (t:=3) (fr:=(0,0)) (by have:=heap_alloc_new (wr.alloc (.cells #[.int .i64 (cand j),.int .i64 1,.int .i64 (lt j),.int .i64 (lf j),.slice (ad j) (ln j) (cp j)] 60)) (.cells #[.int .i64 (cand j)] 3); simpa using this)) (by simp [Value.oneCell']) (by omega) (by unfold maxLen; omega) (by omega) (by simp; omega) _ rfl ?_; intro gg ncap wA hownA hgrow hat hlt2)
       exact⟨⟨j+1,by omega,by simp,by rw [w1,w2]; simpa using ((hT.alloc _).alloc _).push hownA hgrow hat⟩,by simp [RowKit.intOf]; omega⟩
     ·have hb1:decide (st j=1)=false:=decide_eq_false h1
      have hb2:(st j==1)=false:=by simpa using h1
      by_cases hm:cand j∈S
      ·rw [decide_eq_true hm] at hlook
       rw [decide_eq_false h1,decide_eq_true hm] at w1 w2
       go_wp2_with (refine wpList_append_lies _ rfl (.tmp 54) (.tmp 57) 22 rfl (w.heap.size+1) 3 i3 (.int .i64 0) 1 8 Tryz.underlying22 hi3 hz30 hz31 hz32 rfl (by decide) _ _ _ rfl ((hT.alloc _).alloc _).own2 ⟨wr.heap.size+1,0,none⟩ 1 1 [.int .i64 (cand j)] rfl rfl (World.news_of_block (cs := #[.int .i64 (cand j)]) (t:=3) (fr:=(0,0)) (by have:=heap_alloc_new (wr.alloc (.cells #[.int .i64 (cand j),.int .i64 (st j),.int .i64 (lt j),.int .i64 (lf j),.slice (ad j) (ln j) (cp j)] 60)) (.cells #[.int .i64 (cand j)] 3); simpa using this)) (by simp [Value.oneCell']) (by omega) (by unfold maxLen; omega) (by omega) (by simp; omega) _ rfl ?_; intro gg ncap wA hownA hgrow hat hlt2)
       exact⟨⟨j+1,by omega,by simp,by rw [w1,w2]; simpa using (((hT.alloc _).alloc _).swap.push hownA hgrow hat).swap⟩,by simp [RowKit.intOf]; omega⟩
      ·rw [decide_eq_false hm] at hlook
       rw [decide_eq_false h1,decide_eq_false hm] at w1 w2
       go_wp2
       exact⟨⟨j+1,by omega,by simp,by rw [w1,w2]; simpa using hT.alloc _⟩,by simp [RowKit.intOf]; omega⟩
    ·have hje:j=n:=by omega
     subst hje
     clear hc hcand hM hMe
     go_wp2
     refine bodyPost_ret (results_tmp2 rfl _ _ _) rfl ?_
     exact⟨u4,u5,wS,rfl,hs,hT⟩
end Go.Proofs
namespace Go.Proofs
open Go.RowKit Go.LS Go.Deep
set_option linter.all false
theorem SetW.congr {w:World}{b n:Nat}{L L':List Int}(h:SetW w b n L) (e:∀c,c∈L↔c∈L'):SetW w b n L':=by
 obtain⟨D,h1,h2⟩:=h
 exact⟨D,h1,fun c hc=>by rw [h2 c hc]; simp [e c]⟩
structure ThreeW (w wr:World) (M N:Nat) (P O F:List Int):Prop where
 since:w.Since M wr
 le:M+3≤wr.heap.size
 s0:∃n,n≤N∧SetW wr M n P
 s1:∃n,n≤N∧SetW wr (M+1) n O
 s2:∃n,n≤N∧SetW wr (M+2) n F
theorem since_grown {w wr w':World}{M b:Nat}(h:w.Since M wr) (hM:M≤wr.heap.size) (hg:wr.grownBy w' (some b)) (hb:M≤b):w.Since M w':=
 ⟨hg.os.trans h.os,hg.tape.trans h.tape,hg.output.trans h.output,Nat.le_trans h.size hg.size,fun k hk=>(hg.block k (by omega) (by intro e; have:=Option.some.inj e; omega)).trans (h.block k hk)⟩
theorem ThreeW.put0 {w wr w':World}{M N n:Nat}{P O F:List Int}{c:Int}(h:ThreeW w wr M N P O F) (hn:n≤N) (hs:SetW w' M (n+1) (c :: P)) (hg:wr.grownBy w' (some M)):ThreeW w w' M (N+1) (c :: P) O F:=by
 have hle:=h.le
 obtain⟨n1,a1,b1⟩:=h.s1
 obtain⟨n2,a2,b2⟩:=h.s2
 exact⟨since_grown h.since (by omega) hg (Nat.le_refl _),Nat.le_trans h.le hg.size,⟨_,by omega,hs⟩,⟨n1,by omega,b1.kept hg (by intro e; have:=Option.some.inj e; omega)⟩,⟨n2,by omega,b2.kept hg (by intro e; have:=Option.some.inj e; omega)⟩⟩
theorem ThreeW.put1 {w wr w':World}{M N n:Nat}{P O F:List Int}{c:Int}(h:ThreeW w wr M N P O F) (hn:n≤N) (hs:SetW w' (M+1) (n+1) (c :: O)) (hg:wr.grownBy w' (some (M+1))):ThreeW w w' M (N+1) P (c :: O) F:=by
 have hle:=h.le
 obtain⟨n1,a1,b1⟩:=h.s0
 obtain⟨n2,a2,b2⟩:=h.s2
 exact⟨since_grown h.since (by omega) hg (by omega),Nat.le_trans h.le hg.size,⟨n1,by omega,b1.kept hg (by intro e; have:=Option.some.inj e; omega)⟩,⟨_,by omega,hs⟩,⟨n2,by omega,b2.kept hg (by intro e; have:=Option.some.inj e; omega)⟩⟩
theorem ThreeW.put2 {w wr w':World}{M N n:Nat}{P O F:List Int}{c:Int}(h:ThreeW w wr M N P O F) (hn:n≤N) (hs:SetW w' (M+2) (n+1) (c :: F)) (hg:wr.grownBy w' (some (M+2))):ThreeW w w' M (N+1) P O (c :: F):=by
 have hle:=h.le
 obtain⟨n1,a1,b1⟩:=h.s0
 obtain⟨n2,a2,b2⟩:=h.s1
 exact⟨since_grown h.since (by omega) hg (by omega),Nat.le_trans h.le hg.size,⟨n1,by omega,b1.kept hg (by intro e; have:=Option.some.inj e; omega)⟩,⟨n2,by omega,b2.kept hg (by intro e; have:=Option.some.inj e; omega)⟩,⟨_,by omega,hs⟩⟩
theorem ThreeW.keep {w wr w':World}{M N:Nat}{P O F:List Int}(h:ThreeW w wr M N P O F) (hS:wr.Since wr.heap.size w'):ThreeW w w' M N P O F:=by
 have hle:=h.le
 obtain⟨n0,a0,b0⟩:=h.s0
 obtain⟨n1,a1,b1⟩:=h.s1
 obtain⟨n2,a2,b2⟩:=h.s2
 exact⟨h.since.trans (zJ9 hS (by omega)),Nat.le_trans h.le hS.size,⟨n0,a0,b0.since hS (by omega)⟩,⟨n1,a1,b1.since hS (by omega)⟩,⟨n2,a2,b2.since hS (by omega)⟩⟩
theorem ThreeW.more {w wr:World}{M N N':Nat}{P O F:List Int}(h:ThreeW w wr M N P O F) (hN:N≤N'):ThreeW w wr M N' P O F:=by
 obtain⟨n0,a0,b0⟩:=h.s0
 obtain⟨n1,a1,b1⟩:=h.s1
 obtain⟨n2,a2,b2⟩:=h.s2
 exact⟨h.since,h.le,⟨n0,by omega,b0⟩,⟨n1,by omega,b1⟩,⟨n2,by omega,b2⟩⟩
theorem ThreeW.congr {w wr:World}{M N:Nat}{P O F P' O' F':List Int}(h:ThreeW w wr M N P O F) (e1:∀c,c∈P↔c∈P') (e2:∀c,c∈O↔c∈O') (e3:∀c,c∈F↔c∈F'):ThreeW w wr M N P' O' F':=by
 obtain⟨n0,a0,b0⟩:=h.s0
 obtain⟨n1,a1,b1⟩:=h.s1
 obtain⟨n2,a2,b2⟩:=h.s2
 exact⟨h.since,h.le,⟨n0,a0,b0.congr e1⟩,⟨n1,a1,b1.congr e2⟩,⟨n2,a2,b2.congr e3⟩⟩
structure RowsW (w wr:World) (B:Nat) (vs:Nat→Value) (ls:Nat→List Int):Prop where
 since:w.Since B wr
 le:B≤wr.heap.size
 own:∀i,i<4→wr.ownsRow B 3 1 (vs i) (ls i).length (intZ (ls i))
 ne:∀i j,i<4→j<4→i≠j→(vs i).ownBlock=none∨(vs i).ownBlock≠(vs j).ownBlock
theorem RowsW.keep {w wr w':World}{B:Nat}{vs:Nat→Value}{ls:Nat→List Int}(h:RowsW w wr B vs ls) (hS:wr.Since wr.heap.size w'):RowsW w w' B vs ls:=
 ⟨h.since.trans (zJ9 hS h.le),Nat.le_trans h.le hS.size,fun i hi=>own_keep (h.own i hi) hS,h.ne⟩
theorem RowsW.alloc {w wr:World}{B:Nat}{vs:Nat→Value}{ls:Nat→List Int}(h:RowsW w wr B vs ls) (o:Obj):RowsW w (wr.alloc o) B vs ls:=h.keep ((World.Since.refl _ _).alloc (Nat.le_refl _) _)
def updF {α:Type}(f:Nat→α) (i:Nat) (x:α):Nat→α:=fun j=>if j=i then x else f j
theorem RowsW.push {w wr w':World}{B g cap:Nat}{vs:Nat→Value}{ls:Nat→List Int}{c:Int}(h:RowsW w wr B vs ls) (i:Nat) (hi:i<4)
  (ho:w'.ownsRow B 3 1 (.slice (some ⟨g,0,none⟩) ((ls i).length+1) cap) ((ls i).length+1) (intZ (ls i)++[.int .i64 c])) (hg:wr.grownBy w' (vs i).ownBlock) (hat:(vs i).ownBlock=some g∨g=wr.heap.size) :
  RowsW w w' B (updF vs i (.slice (some ⟨g,0,none⟩) ((ls i).length+1) cap)) (updF ls i (ls i++[c])):=by
 have far:∀j,j<4→j≠i→(vs j).ownBlock=none∨(vs j).ownBlock≠some g:=by
  intro j hj hne
  cases e2:(vs j).ownBlock with
  | none=>exact .inl rfl
  | some x=>
   right
   have hx:=((h.own j hj).lt x e2).2
   rcases hat with e | e
   ·rcases h.ne j i hj hi hne with e' | e'
    ·rw [e'] at e2; cases e2
    ·rw [e,e2] at e'; exact e'
   ·intro e'; have:=Option.some.inj e'; omega
 refine⟨⟨hg.os.trans h.since.os,hg.tape.trans h.since.tape,hg.output.trans h.since.output,Nat.le_trans h.since.size hg.size,fun k hk=>?_⟩,Nat.le_trans h.le hg.size,fun j hj=>?_,fun j k hj hk hne=>?_⟩
 ·rw [hg.block k (by have:=h.le; omega) ?_]
  ·exact h.since.block k hk
  ·intro e
   have:=((h.own i hi).lt k e.symm).1
   omega
 ·unfold updF
  by_cases e:j=i
  ·rw [if_pos e,if_pos e,List.length_append,List.length_singleton,intZ_app]
   exact ho
  ·rw [if_neg e,if_neg e]
   refine (h.own j hj).kept hg ?_
   rcases h.ne j i hj hi e with e' | e'
   ·exact .inl e'
   ·exact .inr e'
 ·unfold updF
  by_cases e:j=i
  ·rw [if_pos e,if_neg (by omega)]
   right
   rcases far k hk (by omega) with e' | e'
   ·rw [e']; show some g≠none; simp
   ·exact Ne.symm e'
  ·rw [if_neg e]
   by_cases e2:k=i
   ·rw [if_pos e2]
    exact far j hj e
   ·rw [if_neg e2]
    exact h.ne j k hj hk hne
def four {α:Type}(a b c d:α):Nat→α
 | 0=>a
 | 1=>b
 | 2=>c
 | _=>d
theorem RowsW.congr {w wr:World}{B:Nat}{vs vs':Nat→Value}{ls ls':Nat→List Int}(h:RowsW w wr B vs ls) (e1:∀i,i<4→vs i=vs' i) (e2:∀i,i<4→ls i=ls' i):RowsW w wr B vs' ls':=
 ⟨h.since,h.le,fun i hi=>by rw [← e1 i hi,← e2 i hi]; exact h.own i hi,fun i j hi hj hne=>by rw [← e1 i hi,← e1 j hj]; exact h.ne i j hi hj hne⟩
theorem lt4 {P:Nat→Prop}(h0:P 0) (h1:P 1) (h2:P 2) (h3:P 3):∀i,i<4→P i
 | 0,_=>h0
 | 1,_=>h1
 | 2,_=>h2
 | 3,_=>h3
theorem cell_blk {w:World}{A:Nat}{cs:Array Value}{t:TypeId}{fr:Nat×Nat}(h:w.heap[A]?=some (.cells cs t fr)) (j:Nat):w.cell? ⟨A,j,none⟩=cs[j]?:=by simp [World.cell?,h]
def whereC (P O F:List Int) (c:Int):Nat:=if c∈F then 2 else if c∈O then 3 else if c∈P then 1 else 0
def accL (P O F X:List Int) (i:Nat):List Int:=X.filter fun c=>whereC P O F c==i
theorem accL_succ (P O F X:List Int) (i k:Nat) (h:k<X.length):accL P O F (X.take (k+1)) i=accL P O F (X.take k) i++(if (whereC P O F (X.getD k 0)==i)=true then [X.getD k 0] else []):=by
 unfold accL
 rw [List.take_succ,List.getElem?_eq_getElem h,List.filter_append,List.getD_eq_getElem?_getD,List.getElem?_eq_getElem h]
 congr 1
 show ([X[k]].filter fun c=>whereC P O F c==i)=if (whereC P O F X[k]==i)=true then [X[k]] else []
 rw [List.filter_cons]; rfl
theorem accL_len (P O F X:List Int) (i k:Nat):(accL P O F (X.take k) i).length≤k:=by
 unfold accL
 have:=List.length_filter_le (fun c=>whereC P O F c==i) (X.take k)
 rw [List.length_take] at this
 omega
end Go.Proofs
namespace Go.Proofs
open Go.RowKit Go.LS Go.Deep
set_option linter.all false
structure BagAt (w:World) (b o:Nat) (bg ho:Int) (op:Bool) (sv pv fv:Value):Prop where
 c0:w.cell? ⟨b,o,none⟩=some (.int .i64 bg)
 c1:w.cell? ⟨b,o+1,none⟩=some (.int .i64 ho)
 c2:w.cell? ⟨b,o+2,none⟩=some (.bool op)
 c3:w.cell? ⟨b,o+3,none⟩=some sv
 c4:w.cell? ⟨b,o+4,none⟩=some pv
 c5:w.cell? ⟨b,o+5,none⟩=some fv
def SliceAt (w:World) (v:Value) (l:List Int):Prop:=∃ao cap,v = .slice ao l.length cap∧(∀x∈l,in64 x)∧l.length≤1000∧(0<l.length→∃b o,ao=some ⟨b,o,none⟩∧b<w.heap.size∧IntsAt w b o l)
def packL (pk:Nat→List Int) (k:Nat):List Int:=(List.range k).flatMap pk
def openL (op:Nat→Bool) (pk:Nat→List Int) (k:Nat):List Int:=(List.range k).flatMap fun i=>if op i=true then pk i else []
theorem packL_succ (pk:Nat→List Int) (k:Nat):packL pk (k+1)=packL pk k++pk k:=by
 unfold packL
 rw [List.range_succ,List.flatMap_append]; simp
theorem openL_succ (op:Nat→Bool) (pk:Nat→List Int) (k:Nat):openL op pk (k+1)=openL op pk k++(if op k=true then pk k else []):=by
 unfold openL
 rw [List.range_succ,List.flatMap_append]; simp
theorem take_succ' (l:List Int) (k:Nat) (h:k<l.length):l.take (k+1)=l.take k++[l.getD k 0]:=by
 rw [List.take_succ,List.getElem?_eq_getElem h,List.getD_eq_getElem?_getD,List.getElem?_eq_getElem h]; rfl
theorem results_tmp4 {fn:Func}{t u v x:Tmp}(h:fn.results = #[.tmp t,.tmp u,.tmp v,.tmp x]) (tmps:Array Value) (P:Program) (w:World) :
  (results fn tmps).run P w = .ok (.tuple #[tmps.getD t undef,tmps.getD u undef,tmps.getD v undef,tmps.getD x undef]) w:=by
 unfold results
 rw [h]
 simp [Result.andThen]
set_option maxHeartbeats 16000000 in
set_option maxRecDepth 100000 in
theorem Tryz.Account_walk (ao:Option Addr) (b o n cap:Nat) (bg ho:Nat→Int) (op:Nat→Bool) (sa:Nat→Option Addr) (sn sc:Nat→Nat) (pk fd:Nat→List Int) (pv fv:Nat→Value) (X:List Int) (xv:Value) (w:World)
  (hn:n≤1000) (hao:0<n→ao=some ⟨b,o,none⟩∧b<w.heap.size) (hc:∀i,i<n→BagAt w b (o+i*6) (bg i) (ho i) (op i) (.slice (sa i) (sn i) (sc i)) (pv i) (fv i))
  (hp:∀i,i<n→SliceAt w (pv i) (pk i)) (hf:∀i,i<n→SliceAt w (fv i) (fd i)) (hx:SliceAt w xv X) :
  Calls Tryz.prog 17 #[.slice ao n cap,xv] w fun e w'=>∃v0 v1 v2 v3 w1,e = .returned (.tuple #[v0,v1,v2,v3])∧w.Since w.heap.size w1 ∧
   RowsW w1 w' (w.heap.size+3) (four v0 v1 v2 v3) (four (accL (packL pk n) (openL op pk n) (packL fd n) X 0) (accL (packL pk n) (openL op pk n) (packL fd n) X 1) (accL (packL pk n) (openL op pk n) (packL fd n) X 2) (accL (packL pk n) (openL op pk n) (packL fd n) X 3)):=by
 obtain⟨i3,hi3,hz30,hz31,hz32⟩:=info_parts Tryz.info3
 have hmm:=@run_makeMap Tryz.prog
 obtain⟨xa,xc,rfl,hx1,hx2,hx3⟩:=hx
 go_enter Tryz.func17,Tryz.ntmps17
 go_wp2
 have h30:ThreeW w (((w.alloc (.map #[] 0)).alloc (.map #[] 0)).alloc (.map #[] 0)) w.heap.size 0 [] [] []:=by
  have a0:=SetW.made w
  have a1:=SetW.made (w.alloc (.map #[] 0))
  have a2:=SetW.made ((w.alloc (.map #[] 0)).alloc (.map #[] 0))
  rw [show (w.alloc (.map #[] 0)).heap.size=w.heap.size+1 by simp] at a1
  rw [show ((w.alloc (.map #[] 0)).alloc (.map #[] 0)).heap.size=w.heap.size+2 by simp] at a2
  have s1:(w.alloc (.map #[] 0)).Since (w.heap.size+1) (((w.alloc (.map #[] 0)).alloc (.map #[] 0)).alloc (.map #[] 0)):=((World.Since.refl (w.heap.size+1) _).alloc (by simp) _).alloc (by simp) _
  have s2:((w.alloc (.map #[] 0)).alloc (.map #[] 0)).Since (w.heap.size+2) (((w.alloc (.map #[] 0)).alloc (.map #[] 0)).alloc (.map #[] 0)):=(World.Since.refl (w.heap.size+2) _).alloc (by simp) _
  exact⟨(((World.Since.refl w.heap.size w).alloc (by omega) _).alloc (by first | (simp; done) | (simp; omega)) _).alloc (by first | (simp; done) | (simp; omega)) _,by simp,⟨0,Nat.le_refl _,a0.since s1 (by omega)⟩,⟨0,Nat.le_refl _,a1.since s2 (by omega)⟩,⟨0,Nat.le_refl _,a2⟩⟩
 go_loopw [24] (fun v wr=>∃k:Nat,k≤n∧v = .int .i64 k∧ThreeW w wr w.heap.size (3000*k) (packL pk k) (openL op pk k) (packL fd k)) (fun v _=>n - (RowKit.intOf v).toNat)
 case atStart=>exact⟨0,Nat.zero_le _,rfl,h30⟩
 case round=>
  obtain⟨k,hk,rfl,hT⟩:=hrel
  by_cases hkl:k<n
  ·obtain⟨rfl,hbw⟩:=hao (by omega)
   obtain⟨k0,k1,k2,k3,k4,k5⟩:=hc k hkl
   obtain⟨pa,pc,hpe,p1,p2,p3⟩:=hp k hkl
   obtain⟨fa,fc,hfe,f1,f2,f3⟩:=hf k hkl
   rw [hpe] at k4
   rw [hfe] at k5
   have up:∀ {i:Nat} {v:Value},w.cell? ⟨b,i,none⟩=some v→wr.cell? ⟨b,i,none⟩=some v:=fun {i v} h=>(hT.since.cell (a:=⟨b,i,none⟩) (by show b<_; omega)).trans h
   have c0:=up k0; have c1:=up k1; have c2:=up k2; have c3:=up k3; have c4:=up k4; have c5:=up k5
   have e1:=packL_succ pk k
   have e2:=openL_succ op pk k
   have e3:=packL_succ fd k
   have hki:(k:Int)<(n:Int):=by omega
   generalize packL pk k=PL at *
   generalize openL op pk k=OL at *
   generalize packL fd k=FL at *
   generalize pk k=pl at *
   generalize fd k=fl at *
   generalize op k=q at *
   generalize bg k=bgk at *
   generalize ho k=hok at *
   clear hc hp hf up k0 k1 k2 k3 k4 k5 hao hpe hfe hx1 hx3 h30
   have hsz:=hT.le
   cases q
   ·go_wp2
    have hT2:=hT.keep ((World.Since.refl _ _).alloc (Nat.le_refl _) (.cells #[.int .i64 bgk,.int .i64 hok,.bool false,.slice (sa k) (sn k) (sc k),.slice pa pl.length pc,.slice fa fl.length fc] 99))
    have hblk:=heap_alloc_new wr (.cells #[.int .i64 bgk,.int .i64 hok,.bool false,.slice (sa k) (sn k) (sc k),.slice pa pl.length pc,.slice fa fl.length fc] 99)
    have hA:wr.heap.size<(wr.alloc (.cells #[.int .i64 bgk,.int .i64 hok,.bool false,.slice (sa k) (sn k) (sc k),.slice pa pl.length pc,.slice fa fl.length fc] 99)).heap.size:=by simp
    clear c0 c1 c2 c3 c4 c5 hT
    generalize wr.alloc (.cells #[.int .i64 bgk,.int .i64 hok,.bool false,.slice (sa k) (sn k) (sc k),.slice pa pl.length pc,.slice fa fl.length fc] 99)=wA at *
    generalize wr.heap.size=A at *
    go_loopw [31] (fun v wi=>∃i:Nat,i≤pl.length∧v = .int .i64 i∧ThreeW w wi w.heap.size (3000*k+2*i) (pl.take i++PL) OL FL∧A<wi.heap.size∧wi.heap[A]?=some (.cells #[.int .i64 bgk,.int .i64 hok,.bool false,.slice (sa k) (sn k) (sc k),.slice pa pl.length pc,.slice fa fl.length fc] 99)) (fun v _=>pl.length - (RowKit.intOf v).toNat)
    case atStart=>exact⟨0,Nat.zero_le _,rfl,by simpa using hT2,hA,hblk⟩
    case round=>
     obtain⟨i,hi,rfl,hT,hAl,hAb⟩:=hrel
     have q2:=cell_blk hAb 2
     have q5:=cell_blk hAb 5
     by_cases hil:i<pl.length
     ·obtain⟨pb,po,rfl,pbl,pI⟩:=p3 (by omega)
      have hcell:wr.cell? ⟨pb,po+i,none⟩=some (.int .i64 (pl.getD i 0)):=(hT.since.cell (a:=⟨pb,po+i,none⟩) (by show pb<w.heap.size; omega)).trans (pI i hil)
      have hmem:in64 (pl.getD i 0):=by
       rw [List.getD_eq_getElem?_getD,List.getElem?_eq_getElem hil]; exact p1 _ (List.getElem_mem hil)
      have hii:(i:Int)<(pl.length:Int):=by omega
      have htk:=take_succ' pl i hil
      generalize pl.getD i 0=c at hcell hmem htk
      obtain⟨m0,d0,s0⟩:=hT.s0
      clear p1 p3 pI f1 f3 hblk q5
      go_wp2_with (first
       | (at_mapUpdate; refine wpList_set_put _ rfl _ _ _ rfl w.heap.size m0 _ s0 (by unfold maxLen; omega) c hmem rfl rfl rfl ?_; intro w1 hM1 hg1; have hT1:=hT.put0 d0 hM1 hg1; obtain⟨m1,d1,s1⟩:=hT1.s1; have hAb1:=(hg1.block A hAl (by intro e; have:=Option.some.inj e; omega)).trans hAb; have hAl1:=Nat.lt_of_lt_of_le hAl hg1.size; have q21:=cell_blk hAb1 2))
      exact⟨⟨i+1,by omega,by simp,(hT1.more (by omega)).congr (fun x=>by rw [htk]; simp; constructor <;> (intro h; rcases h with h | h | h <;> simp [h])) (fun x=>Iff.rfl) (fun x=>Iff.rfl),hAl1,hAb1⟩,by simp [RowKit.intOf]; omega⟩
     ·have hie:i=pl.length:=by omega
      subst hie
      rw [List.take_length] at hT
      clear p1 p3 hblk q2 hA hT2
      go_wp2
      go_loopw [45] (fun v wi=>∃i:Nat,i≤fl.length∧v = .int .i64 i∧ThreeW w wi w.heap.size (3000*k+2*pl.length+i) (pl++PL) OL (fl.take i++FL)) (fun v _=>fl.length - (RowKit.intOf v).toNat)
      case atStart=>exact⟨0,Nat.zero_le _,rfl,by simpa using hT⟩
      case round=>
       obtain⟨i,hi,rfl,hT⟩:=hrel
       by_cases hil:i<fl.length
       ·obtain⟨pb,po,rfl,pbl,pI⟩:=f3 (by omega)
        have hcell:wr.cell? ⟨pb,po+i,none⟩=some (.int .i64 (fl.getD i 0)):=(hT.since.cell (a:=⟨pb,po+i,none⟩) (by show pb<w.heap.size; omega)).trans (pI i hil)
        have hmem:in64 (fl.getD i 0):=by
         rw [List.getD_eq_getElem?_getD,List.getElem?_eq_getElem hil]; exact f1 _ (List.getElem_mem hil)
        have hii:(i:Int)<(fl.length:Int):=by omega
        have htk:=take_succ' fl i hil
        generalize fl.getD i 0=c at hcell hmem htk
        obtain⟨m0,d0,s0⟩:=hT.s2
        clear pI f1 f3
        go_wp2_with (first
         | (at_mapUpdate; refine wpList_set_put _ rfl _ _ _ rfl (w.heap.size+2) m0 _ s0 (by unfold maxLen; omega) c hmem rfl rfl rfl ?_; intro w1 hM1 hg1; have hT1:=hT.put2 d0 hM1 hg1))
        exact⟨⟨i+1,by omega,by simp,(hT1.more (by omega)).congr (fun x=>Iff.rfl) (fun x=>Iff.rfl) (fun x=>by rw [htk]; simp; constructor <;> (intro h; rcases h with h | h | h <;> simp [h]))⟩,by simp [RowKit.intOf]; omega⟩
       ·have hie:i=fl.length:=by omega
        subst hie
        rw [List.take_length] at hT
        clear f1 f3
        go_wp2
        exact⟨⟨k+1,by omega,by simp,(hT.more (by omega)).congr (fun x=>by rw [e1]; simp; exact Or.comm) (fun x=>by rw [e2]; simp) (fun x=>by rw [e3]; simp; exact Or.comm)⟩,by simp [RowKit.intOf]; omega⟩
   ·go_wp2
    have hT2:=hT.keep ((World.Since.refl _ _).alloc (Nat.le_refl _) (.cells #[.int .i64 bgk,.int .i64 hok,.bool true,.slice (sa k) (sn k) (sc k),.slice pa pl.length pc,.slice fa fl.length fc] 99))
    have hblk:=heap_alloc_new wr (.cells #[.int .i64 bgk,.int .i64 hok,.bool true,.slice (sa k) (sn k) (sc k),.slice pa pl.length pc,.slice fa fl.length fc] 99)
    have hA:wr.heap.size<(wr.alloc (.cells #[.int .i64 bgk,.int .i64 hok,.bool true,.slice (sa k) (sn k) (sc k),.slice pa pl.length pc,.slice fa fl.length fc] 99)).heap.size:=by simp
    clear c0 c1 c2 c3 c4 c5 hT
    generalize wr.alloc (.cells #[.int .i64 bgk,.int .i64 hok,.bool true,.slice (sa k) (sn k) (sc k),.slice pa pl.length pc,.slice fa fl.length fc] 99)=wA at *
    generalize wr.heap.size=A at *
    go_loopw [31] (fun v wi=>∃i:Nat,i≤pl.length∧v = .int .i64 i∧ThreeW w wi w.heap.size (3000*k+2*i) (pl.take i++PL) (pl.take i++OL) FL∧A<wi.heap.size∧wi.heap[A]?=some (.cells #[.int .i64 bgk,.int .i64 hok,.bool true,.slice (sa k) (sn k) (sc k),.slice pa pl.length pc,.slice fa fl.length fc] 99)) (fun v _=>pl.length - (RowKit.intOf v).toNat)
    case atStart=>exact⟨0,Nat.zero_le _,rfl,by simpa using hT2,hA,hblk⟩
    case round=>
     obtain⟨i,hi,rfl,hT,hAl,hAb⟩:=hrel
     have q2:=cell_blk hAb 2
     have q5:=cell_blk hAb 5
     by_cases hil:i<pl.length
     ·obtain⟨pb,po,rfl,pbl,pI⟩:=p3 (by omega)
      have hcell:wr.cell? ⟨pb,po+i,none⟩=some (.int .i64 (pl.getD i 0)):=(hT.since.cell (a:=⟨pb,po+i,none⟩) (by show pb<w.heap.size; omega)).trans (pI i hil)
      have hmem:in64 (pl.getD i 0):=by
       rw [List.getD_eq_getElem?_getD,List.getElem?_eq_getElem hil]; exact p1 _ (List.getElem_mem hil)
      have hii:(i:Int)<(pl.length:Int):=by omega
      have htk:=take_succ' pl i hil
      generalize pl.getD i 0=c at hcell hmem htk
      obtain⟨m0,d0,s0⟩:=hT.s0
      clear p1 p3 pI f1 f3 hblk q5
      go_wp2_with (first
       | (at_mapUpdate; refine wpList_set_put _ rfl _ _ _ rfl w.heap.size m0 _ s0 (by unfold maxLen; omega) c hmem rfl rfl rfl ?_; intro w1 hM1 hg1; have hT1:=hT.put0 d0 hM1 hg1; obtain⟨m1,d1,s1⟩:=hT1.s1; have hAb1:=(hg1.block A hAl (by intro e; have:=Option.some.inj e; omega)).trans hAb; have hAl1:=Nat.lt_of_lt_of_le hAl hg1.size; have q21:=cell_blk hAb1 2)
       | (at_mapUpdate; refine wpList_set_put _ rfl _ _ _ rfl (w.heap.size+1) m1 _ s1 (by unfold maxLen; omega) c hmem rfl rfl rfl ?_; intro w2 hM2 hg2; have hT2:=hT1.put1 d1 hM2 hg2; have hAb2:=(hg2.block A hAl1 (by intro e; have:=Option.some.inj e; omega)).trans hAb1; have hAl2:=Nat.lt_of_lt_of_le hAl1 hg2.size))
      exact⟨⟨i+1,by omega,by simp,(hT2.more (by omega)).congr (fun x=>by rw [htk]; simp; constructor <;> (intro h; rcases h with h | h | h <;> simp [h])) (fun x=>by rw [htk]; simp; constructor <;> (intro h; rcases h with h | h | h <;> simp [h])) (fun x=>Iff.rfl),hAl2,hAb2⟩,by simp [RowKit.intOf]; omega⟩
     ·have hie:i=pl.length:=by omega
      subst hie
      rw [List.take_length] at hT
      clear p1 p3 hblk q2 hA hT2
      go_wp2
      go_loopw [45] (fun v wi=>∃i:Nat,i≤fl.length∧v = .int .i64 i∧ThreeW w wi w.heap.size (3000*k+2*pl.length+i) (pl++PL) (pl++OL) (fl.take i++FL)) (fun v _=>fl.length - (RowKit.intOf v).toNat)
      case atStart=>exact⟨0,Nat.zero_le _,rfl,by simpa using hT⟩
      case round=>
       obtain⟨i,hi,rfl,hT⟩:=hrel
       by_cases hil:i<fl.length
       ·obtain⟨pb,po,rfl,pbl,pI⟩:=f3 (by omega)
        have hcell:wr.cell? ⟨pb,po+i,none⟩=some (.int .i64 (fl.getD i 0)):=(hT.since.cell (a:=⟨pb,po+i,none⟩) (by show pb<w.heap.size; omega)).trans (pI i hil)
        have hmem:in64 (fl.getD i 0):=by
         rw [List.getD_eq_getElem?_getD,List.getElem?_eq_getElem hil]; exact f1 _ (List.getElem_mem hil)
        have hii:(i:Int)<(fl.length:Int):=by omega
        have htk:=take_succ' fl i hil
        generalize fl.getD i 0=c at hcell hmem htk
        obtain⟨m0,d0,s0⟩:=hT.s2
        clear pI f1 f3
        go_wp2_with (first
         | (at_mapUpdate; refine wpList_set_put _ rfl _ _ _ rfl (w.heap.size+2) m0 _ s0 (by unfold maxLen; omega) c hmem rfl rfl rfl ?_; intro w1 hM1 hg1; have hT1:=hT.put2 d0 hM1 hg1))
        exact⟨⟨i+1,by omega,by simp,(hT1.more (by omega)).congr (fun x=>Iff.rfl) (fun x=>Iff.rfl) (fun x=>by rw [htk]; simp; constructor <;> (intro h; rcases h with h | h | h <;> simp [h]))⟩,by simp [RowKit.intOf]; omega⟩
       ·have hie:i=fl.length:=by omega
        subst hie
        rw [List.take_length] at hT
        clear f1 f3
        go_wp2
        exact⟨⟨k+1,by omega,by simp,(hT.more (by omega)).congr (fun x=>by rw [e1]; simp; exact Or.comm) (fun x=>by rw [e2]; simp; exact Or.comm) (fun x=>by rw [e3]; simp; exact Or.comm)⟩,by simp [RowKit.intOf]; omega⟩
  ·have hke:k=n:=by omega
   subst hke
   obtain⟨PL,hPL⟩:∃PL,packL pk k=PL:=⟨_,rfl⟩
   obtain⟨OL,hOL⟩:∃OL,openL op pk k=OL:=⟨_,rfl⟩
   obtain⟨FL,hFL⟩:∃FL,packL fd k=FL:=⟨_,rfl⟩
   rw [hPL,hOL,hFL] at hT
   clear hc hp hf hao h30
   go_wp2
   rename World=>wS
   go_loopw [4,5,6,7,55] (fun v0 v1 v2 v3 v wi=>∃j:Nat,j≤X.length∧v = .int .i64 j∧RowsW wS wi (w.heap.size+3) (four v0 v1 v2 v3) (four (accL PL OL FL (X.take j) 0) (accL PL OL FL (X.take j) 1) (accL PL OL FL (X.take j) 2) (accL PL OL FL (X.take j) 3))) (fun _ _ _ _ v _=>X.length - (RowKit.intOf v).toNat)
   case atStart=>exact⟨0,Nat.zero_le _,rfl,World.Since.refl _ _,hT.le,lt4 (World.ownsRow_nil _ _ _ _) (World.ownsRow_nil _ _ _ _) (World.ownsRow_nil _ _ _ _) (World.ownsRow_nil _ _ _ _),fun i j hi _ _=>.inl (lt4 (P:=fun i=>(four (Value.slice none 0 0) (.slice none 0 0) (.slice none 0 0) (.slice none 0 0) i).ownBlock=none) rfl rfl rfl rfl i hi)⟩
   case round=>
    obtain⟨j,hj,rfl,hR⟩:=hrel
    by_cases hjl:j<X.length
    ·obtain⟨xb,xo,rfl,xbl,xI⟩:=hx3 (by omega)
     have hcell:wr.cell? ⟨xb,xo+j,none⟩=some (.int .i64 (X.getD j 0)):=(hR.since.cell (a:=⟨xb,xo+j,none⟩) (by show xb<_; omega)).trans ((hT.since.cell (a:=⟨xb,xo+j,none⟩) xbl).trans (xI j hjl))
     have hmem:in64 (X.getD j 0):=by
      rw [List.getD_eq_getElem?_getD,List.getElem?_eq_getElem hjl]; exact hx1 _ (List.getElem_mem hjl)
     have hs0:=accL_succ PL OL FL X 0 j hjl
     have hs1:=accL_succ PL OL FL X 1 j hjl
     have hs2:=accL_succ PL OL FL X 2 j hjl
     have hs3:=accL_succ PL OL FL X 3 j hjl
     have hji:(j:Int)<(X.length:Int):=by omega
     generalize X.getD j 0=c at hcell hmem hs0 hs1 hs2 hs3
     obtain⟨m0,d0,s0⟩:=hT.s0
     obtain⟨m1,d1,s1⟩:=hT.s1
     obtain⟨m2,d2,s2⟩:=hT.s2
     have lP:(Instr.lookup 101 (.map (some w.heap.size)) (.int .i64 c) false).run Tryz.prog wr = .ok (.bool (decide (c∈PL))) wr:=(s0.since hR.since (by omega)).look hmem
     have lO:(Instr.lookup 101 (.map (some (w.heap.size+1))) (.int .i64 c) false).run Tryz.prog wr = .ok (.bool (decide (c∈OL))) wr:=(s1.since hR.since (by omega)).look hmem
     have lF:(Instr.lookup 101 (.map (some (w.heap.size+1+1))) (.int .i64 c) false).run Tryz.prog wr = .ok (.bool (decide (c∈FL))) wr:=(s2.since hR.since (by omega)).look hmem
     have hle:=hR.le
     clear hx1 hx3 xI hT s0 s1 s2
     by_cases hF:c∈FL
     ·have hw:whereC PL OL FL c=2:=by simp [whereC,hF]
      rw [decide_eq_true hF] at lF
      have own:=(hR.alloc (.cells #[.int .i64 c] 3)).own 2 (by decide)
      rw [show four u4 u5 u6 u7 2=u6 from rfl] at own
      have hl:=accL_len PL OL FL X 2 j
      rw [show four (accL PL OL FL (X.take j) 0) (accL PL OL FL (X.take j) 1) (accL PL OL FL (X.take j) 2) (accL PL OL FL (X.take j) 3) 2=accL PL OL FL (X.take j) 2 from rfl] at own
      go_wp2_with (refine wpList_append_lies _ rfl (.tmp 67) (.tmp 69) 22 rfl (w.heap.size+3) 3 i3 (.int .i64 0) 1 8 Tryz.underlying22 hi3 hz30 hz31 hz32 rfl (by decide) _ _ _ rfl own ⟨wr.heap.size,0,none⟩ 1 1 [.int .i64 c] rfl rfl (World.news_of_block (cs := #[.int .i64 c]) (t:=3) (fr:=(0,0)) (heap_alloc_new wr _)) (by simp [Value.oneCell']) (by omega) (by unfold maxLen; omega) (by omega) (by simp; omega) _ rfl ?_; intro gg ncap wA hownA hgrow hat hlt2)
      exact⟨⟨j+1,by omega,by simp,((hR.alloc (.cells #[.int .i64 c] 3)).push 2 (by decide) hownA hgrow hat).congr (lt4 rfl rfl rfl rfl) (lt4 (by rw [show four (accL PL OL FL (X.take (j+1)) 0) (accL PL OL FL (X.take (j+1)) 1) (accL PL OL FL (X.take (j+1)) 2) (accL PL OL FL (X.take (j+1)) 3) 0=accL PL OL FL (X.take (j+1)) 0 from rfl,hs0,hw]; simp [updF,four]) (by rw [show four (accL PL OL FL (X.take (j+1)) 0) (accL PL OL FL (X.take (j+1)) 1) (accL PL OL FL (X.take (j+1)) 2) (accL PL OL FL (X.take (j+1)) 3) 1=accL PL OL FL (X.take (j+1)) 1 from rfl,hs1,hw]; simp [updF,four]) (by rw [show four (accL PL OL FL (X.take (j+1)) 0) (accL PL OL FL (X.take (j+1)) 1) (accL PL OL FL (X.take (j+1)) 2) (accL PL OL FL (X.take (j+1)) 3) 2=accL PL OL FL (X.take (j+1)) 2 from rfl,hs2,hw]; simp [updF,four]) (by rw [show four (accL PL OL FL (X.take (j+1)) 0) (accL PL OL FL (X.take (j+1)) 1) (accL PL OL FL (X.take (j+1)) 2) (accL PL OL FL (X.take (j+1)) 3) 3=accL PL OL FL (X.take (j+1)) 3 from rfl,hs3,hw]; simp [updF,four]))⟩,by simp [RowKit.intOf]; omega⟩
     ·by_cases hO:c∈OL
      ·have hw:whereC PL OL FL c=3:=by simp [whereC,hF,hO]
       rw [decide_eq_false hF] at lF
       rw [decide_eq_true hO] at lO
       have own:=(hR.alloc (.cells #[.int .i64 c] 3)).own 3 (by decide)
       rw [show four u4 u5 u6 u7 3=u7 from rfl] at own
       have hl:=accL_len PL OL FL X 3 j
       rw [show four (accL PL OL FL (X.take j) 0) (accL PL OL FL (X.take j) 1) (accL PL OL FL (X.take j) 2) (accL PL OL FL (X.take j) 3) 3=accL PL OL FL (X.take j) 3 from rfl] at own
       go_wp2_with (refine wpList_append_lies _ rfl (.tmp 75) (.tmp 77) 22 rfl (w.heap.size+3) 3 i3 (.int .i64 0) 1 8 Tryz.underlying22 hi3 hz30 hz31 hz32 rfl (by decide) _ _ _ rfl own ⟨wr.heap.size,0,none⟩ 1 1 [.int .i64 c] rfl rfl (World.news_of_block (cs := #[.int .i64 c]) (t:=3) (fr:=(0,0)) (heap_alloc_new wr _)) (by simp [Value.oneCell']) (by omega) (by unfold maxLen; omega) (by omega) (by simp; omega) _ rfl ?_; intro gg ncap wA hownA hgrow hat hlt2)
       exact⟨⟨j+1,by omega,by simp,((hR.alloc (.cells #[.int .i64 c] 3)).push 3 (by decide) hownA hgrow hat).congr (lt4 rfl rfl rfl rfl) (lt4 (by rw [show four (accL PL OL FL (X.take (j+1)) 0) (accL PL OL FL (X.take (j+1)) 1) (accL PL OL FL (X.take (j+1)) 2) (accL PL OL FL (X.take (j+1)) 3) 0=accL PL OL FL (X.take (j+1)) 0 from rfl,hs0,hw]; simp [updF,four]) (by rw [show four (accL PL OL FL (X.take (j+1)) 0) (accL PL OL FL (X.take (j+1)) 1) (accL PL OL FL (X.take (j+1)) 2) (accL PL OL FL (X.take (j+1)) 3) 1=accL PL OL FL (X.take (j+1)) 1 from rfl,hs1,hw]; simp [updF,four]) (by rw [show four (accL PL OL FL (X.take (j+1)) 0) (accL PL OL FL (X.take (j+1)) 1) (accL PL OL FL (X.take (j+1)) 2) (accL PL OL FL (X.take (j+1)) 3) 2=accL PL OL FL (X.take (j+1)) 2 from rfl,hs2,hw]; simp [updF,four]) (by rw [show four (accL PL OL FL (X.take (j+1)) 0) (accL PL OL FL (X.take (j+1)) 1) (accL PL OL FL (X.take (j+1)) 2) (accL PL OL FL (X.take (j+1)) 3) 3=accL PL OL FL (X.take (j+1)) 3 from rfl,hs3,hw]; simp [updF,four]))⟩,by simp [RowKit.intOf]; omega⟩
      ·by_cases hP:c∈PL
       ·have hw:whereC PL OL FL c=1:=by simp [whereC,hF,hO,hP]
        rw [decide_eq_false hF] at lF
        rw [decide_eq_false hO] at lO
        rw [decide_eq_true hP] at lP
        have own:=(hR.alloc (.cells #[.int .i64 c] 3)).own 1 (by decide)
        rw [show four u4 u5 u6 u7 1=u5 from rfl] at own
        have hl:=accL_len PL OL FL X 1 j
        rw [show four (accL PL OL FL (X.take j) 0) (accL PL OL FL (X.take j) 1) (accL PL OL FL (X.take j) 2) (accL PL OL FL (X.take j) 3) 1=accL PL OL FL (X.take j) 1 from rfl] at own
        go_wp2_with (refine wpList_append_lies _ rfl (.tmp 83) (.tmp 85) 22 rfl (w.heap.size+3) 3 i3 (.int .i64 0) 1 8 Tryz.underlying22 hi3 hz30 hz31 hz32 rfl (by decide) _ _ _ rfl own ⟨wr.heap.size,0,none⟩ 1 1 [.int .i64 c] rfl rfl (World.news_of_block (cs := #[.int .i64 c]) (t:=3) (fr:=(0,0)) (heap_alloc_new wr _)) (by simp [Value.oneCell']) (by omega) (by unfold maxLen; omega) (by omega) (by simp; omega) _ rfl ?_; intro gg ncap wA hownA hgrow hat hlt2)
        exact⟨⟨j+1,by omega,by simp,((hR.alloc (.cells #[.int .i64 c] 3)).push 1 (by decide) hownA hgrow hat).congr (lt4 rfl rfl rfl rfl) (lt4 (by rw [show four (accL PL OL FL (X.take (j+1)) 0) (accL PL OL FL (X.take (j+1)) 1) (accL PL OL FL (X.take (j+1)) 2) (accL PL OL FL (X.take (j+1)) 3) 0=accL PL OL FL (X.take (j+1)) 0 from rfl,hs0,hw]; simp [updF,four]) (by rw [show four (accL PL OL FL (X.take (j+1)) 0) (accL PL OL FL (X.take (j+1)) 1) (accL PL OL FL (X.take (j+1)) 2) (accL PL OL FL (X.take (j+1)) 3) 1=accL PL OL FL (X.take (j+1)) 1 from rfl,hs1,hw]; simp [updF,four]) (by rw [show four (accL PL OL FL (X.take (j+1)) 0) (accL PL OL FL (X.take (j+1)) 1) (accL PL OL FL (X.take (j+1)) 2) (accL PL OL FL (X.take (j+1)) 3) 2=accL PL OL FL (X.take (j+1)) 2 from rfl,hs2,hw]; simp [updF,four]) (by rw [show four (accL PL OL FL (X.take (j+1)) 0) (accL PL OL FL (X.take (j+1)) 1) (accL PL OL FL (X.take (j+1)) 2) (accL PL OL FL (X.take (j+1)) 3) 3=accL PL OL FL (X.take (j+1)) 3 from rfl,hs3,hw]; simp [updF,four]))⟩,by simp [RowKit.intOf]; omega⟩
       ·have hw:whereC PL OL FL c=0:=by simp [whereC,hF,hO,hP]
        rw [decide_eq_false hF] at lF
        rw [decide_eq_false hO] at lO
        rw [decide_eq_false hP] at lP
        have own:=(hR.alloc (.cells #[.int .i64 c] 3)).own 0 (by decide)
        rw [show four u4 u5 u6 u7 0=u4 from rfl] at own
        have hl:=accL_len PL OL FL X 0 j
        rw [show four (accL PL OL FL (X.take j) 0) (accL PL OL FL (X.take j) 1) (accL PL OL FL (X.take j) 2) (accL PL OL FL (X.take j) 3) 0=accL PL OL FL (X.take j) 0 from rfl] at own
        go_wp2_with (refine wpList_append_lies _ rfl (.tmp 59) (.tmp 61) 22 rfl (w.heap.size+3) 3 i3 (.int .i64 0) 1 8 Tryz.underlying22 hi3 hz30 hz31 hz32 rfl (by decide) _ _ _ rfl own ⟨wr.heap.size,0,none⟩ 1 1 [.int .i64 c] rfl rfl (World.news_of_block (cs := #[.int .i64 c]) (t:=3) (fr:=(0,0)) (heap_alloc_new wr _)) (by simp [Value.oneCell']) (by omega) (by unfold maxLen; omega) (by omega) (by simp; omega) _ rfl ?_; intro gg ncap wA hownA hgrow hat hlt2)
        exact⟨⟨j+1,by omega,by simp,((hR.alloc (.cells #[.int .i64 c] 3)).push 0 (by decide) hownA hgrow hat).congr (lt4 rfl rfl rfl rfl) (lt4 (by rw [show four (accL PL OL FL (X.take (j+1)) 0) (accL PL OL FL (X.take (j+1)) 1) (accL PL OL FL (X.take (j+1)) 2) (accL PL OL FL (X.take (j+1)) 3) 0=accL PL OL FL (X.take (j+1)) 0 from rfl,hs0,hw]; simp [updF,four]) (by rw [show four (accL PL OL FL (X.take (j+1)) 0) (accL PL OL FL (X.take (j+1)) 1) (accL PL OL FL (X.take (j+1)) 2) (accL PL OL FL (X.take (j+1)) 3) 1=accL PL OL FL (X.take (j+1)) 1 from rfl,hs1,hw]; simp [updF,four]) (by rw [show four (accL PL OL FL (X.take (j+1)) 0) (accL PL OL FL (X.take (j+1)) 1) (accL PL OL FL (X.take (j+1)) 2) (accL PL OL FL (X.take (j+1)) 3) 2=accL PL OL FL (X.take (j+1)) 2 from rfl,hs2,hw]; simp [updF,four]) (by rw [show four (accL PL OL FL (X.take (j+1)) 0) (accL PL OL FL (X.take (j+1)) 1) (accL PL OL FL (X.take (j+1)) 2) (accL PL OL FL (X.take (j+1)) 3) 3=accL PL OL FL (X.take (j+1)) 3 from rfl,hs3,hw]; simp [updF,four]))⟩,by simp [RowKit.intOf]; omega⟩
    ·have hje:j=X.length:=by omega
     subst hje
     rw [List.take_length] at hR
     clear hx1 hx3
     go_wp2
     refine bodyPost_ret (results_tmp4 rfl _ _ _) rfl ?_
     rw [← hPL,← hOL,← hFL] at hR
     exact⟨u4,u5,u6,u7,wS,rfl,hT.since,hR⟩
end Go.Proofs
namespace Go.Proofs
open Go.RowKit Go.LS Go.Deep
set_option linter.all false
abbrev St:=Int×Int×Int
def stV (s:St):Value:=.agg #[.int .i64 s.1,.int .i64 s.2.1,.int .i64 s.2.2]
def stOK (s:St):Prop:=in64 s.1∧in64 s.2.1∧in64 s.2.2
def stK (s:St):Lit:=.string (keyBytes [.int .i64 s.1,.int .i64 s.2.1,.int .i64 s.2.2])
theorem Tryz.laidOut:laidOutB Tryz.prog=true:=by kernel_rfl
theorem Tryz.cells36:Tryz.prog.cellsOf 36=3:=by kernel_rfl
theorem Tryz.cells3:Tryz.prog.cellsOf 3=1:=by kernel_rfl
theorem Tryz.keyType36:Tryz.prog.keyType 36=true:=by kernel_rfl
theorem Tryz.law36:WideMaps.KeyLaw Tryz.prog 36:=deep_law_gate Tryz.laidOut (of_decide_eq_true (by kernel_rfl)) (of_decide_eq_true (by kernel_rfl)) Tryz.keyType36 (by kernel_rfl)
theorem keyLits_int (P:Program) (d:Nat) (t:TypeId){c:Int}(ht:P.underlying t=some (.int .i64)) (h:in64 c):P.keyLits (d+1) t [.int .i64 c]=some [.int .i64 c]:=by
 simp [Program.keyLits,ht,wf_of h]
theorem Tryz.row36:(36:TypeId)<Tryz.prog.types.size:=of_decide_eq_true (by kernel_rfl)
theorem keyLits_st (d:Nat){a b c:Int}(h1:in64 a) (h2:in64 b) (h3:in64 c) :
  Tryz.prog.keyLits (d+2) 36 [.int .i64 a,.int .i64 b,.int .i64 c]=some [.int .i64 a,.int .i64 b,.int .i64 c]:=by
 have k1:=keyLits_int Tryz.prog d 3 Tryz.underlying3 h1
 have k2:=keyLits_int Tryz.prog d 3 Tryz.underlying3 h2
 have k3:=keyLits_int Tryz.prog d 3 Tryz.underlying3 h3
 have c36:=Tryz.cells36
 have c3:=Tryz.cells3
 have u36:=Tryz.underlying36
 unfold Program.keyLits
 generalize Tryz.prog=P at *
 rw [u36]
 simp [c36,c3,k1,k2,k3]
theorem size_pos {n k:Nat}(h:k<n):∃d,n=d+1:=⟨n - 1,by omega⟩
theorem key_st {s:St}(h:stOK s):keyOf Tryz.prog 36 (stV s)=some (stK s):=by
 obtain⟨h1,h2,h3⟩:=h
 obtain⟨d,hd⟩:=size_pos Tryz.row36
 have k:=keyLits_st d h1 h2 h3
 have kt:=Tryz.keyType36
 have hf:(stV s).formed Tryz.prog 36=true:=by simp [Value.formed,stV,Tryz.underlying36,Tryz.cells36]
 have u36:=Tryz.underlying36
 unfold keyOf
 generalize Tryz.prog=P at *
 rw [u36]
 simp only [kt,hf,hd]
 simp [stV,Value.cells,k,stK]
theorem stK_inj {s s':St}(h:stOK s) (h':stOK s') (e:stK s=stK s'):s=s':=by
 have k1:=key_st h
 have k2:=key_st h'
 rw [e] at k1
 have:=Tryz.law36.inj k1 k2
 obtain⟨a,b,c⟩:=s
 obtain⟨a',b',c'⟩:=s'
 simp [stV] at this
 obtain⟨e1,e2,e3⟩:=this
 subst e1 e2 e3
 rfl
def FirstW (w:World) (b n:Nat) (m:St→Option Nat):Prop:=∃D:DataW Unit,w.ownsMap Tryz.prog 36 (plainElem Tryz.prog 3) b n D∧∀s,stOK s→Maps.has D (stK s)=(m s).isSome∧D.atKey (stK s) (.lit (.int .i64 0)) = .lit (.int .i64 (((m s).getD 0:Nat):Int))
theorem FirstW.made (w:World):FirstW (w.alloc (.map #[] 0)) w.heap.size 0 (fun _=>none):=
 ⟨_,World.ownsMap_made w Tryz.prog 36 (plainElem Tryz.prog 3),fun s _=>⟨by simp [Maps.has],by simp [DataW.atKey]⟩⟩
theorem FirstW.since {w w':World}{b n B:Nat}{m:St→Option Nat}(h:FirstW w b n m) (hS:w.Since B w') (hb:b<B):FirstW w' b n m:=by
 obtain⟨D,⟨es,clock,h1,h2⟩,h3⟩:=h
 exact⟨D,⟨es,clock,(hS.block b hb).trans h1,h2⟩,h3⟩
theorem FirstW.look {w:World}{b n:Nat}{m:St→Option Nat}(h:FirstW w b n m){s:St}(hs:stOK s):(Instr.lookup 155 (.map (some b)) (stV s) true).run Tryz.prog w = .ok (.tuple #[.int .i64 (((m s).getD 0:Nat):Int),.bool (m s).isSome]) w:=by
 obtain⟨D,h1,h2⟩:=h
 obtain⟨e1,e2⟩:=h2 s hs
 obtain⟨v,ps,hrun,hv⟩:=h1.look_ok (Maps.Keyed.of_law Tryz.law36) Tryz.underlying155 (Tryz.zeroValue3 w) (plainElem_int Tryz.underlying3 (by decide)) (key_st hs)
 rw [e2] at hv
 obtain⟨c,rfl,hc,hwc⟩:=plainElem_int_inv Tryz.underlying3 hv
 have:c=(((m s).getD 0:Nat):Int):=by
  have:=congrArg Prod.fst hc
  simpa using this.symm
 rw [hrun,e1,this]
theorem wpList_first_put (w:World){ops:Array Oper}{rest:List Oper}{o:Oper}{a:Act}{Q:Exit→Act→World→Prop}(hg:o.guard=none) (mo x v:Operand) (hop:o.op=Op.mapUpdate 155 mo x v) (b n:Nat) (m:St→Option Nat) (hs:FirstW w b n m) (hn:n<maxLen) (s:St) (hc:stOK s) (i:Nat) (hi:i<1000000)
  (hm:a.eval mo = .map (some b)) (hx:a.eval x=stV s) (hv:a.eval v = .int .i64 (i:Int))
  (hK:∀w',FirstW w' b (n+1) (fun s'=>if s'=s then some i else m s')→w.grownBy w' (some b)→wpList Tryz.prog ops Q rest (a.put o.dst undef) w'):wpList Tryz.prog ops Q (o :: rest) a w:=by
 obtain⟨D,h1,h2⟩:=hs
 refine wpList_mapUpdate_own w hg mo x v 155 hop 36 3 (Maps.Keyed.of_law Tryz.law36) Tryz.underlying155 (plainElem Tryz.prog 3) b n D hm h1 hn _ _ _ hx hv (key_st hc) _ [] (plainElem_int Tryz.underlying3 (wf_of ⟨by omega,by omega⟩)) fun w' h3 h4=>hK w' ⟨_,h3,fun s' hs'=>?_⟩ h4
 by_cases e:s'=s
 ·subst e
  rw [Maps.has_put_same h1.isMap (by trivial),Maps.atKey_put_same h1.isMap (by trivial)]
  simp
 ·have hne:stK s'≠stK s:=fun e'=>e (stK_inj hs' hc e')
  rw [Maps.has_put_other hne,Maps.atKey_put_other hne]
  simp only [if_neg e]
  exact h2 s' hs'
end Go.Proofs
namespace Go.Proofs
open Go.RowKit Go.LS Go.Deep
set_option linter.all false
theorem Tryz.info36:(Tryz.prog.info? 36).map (fun i=>(i.zero,i.size,i.bytes))=some (some (.agg #[.int .i64 0,.int .i64 0,.int .i64 0]),3,24):=by kernel_rfl
theorem own_rowIs {w:World}{B e size g n:Nat}{xs:List Value}(h:w.ownsRow B e size (.slice (some ⟨g,0,none⟩) n n) n xs):w.rowIs g e (n*size) (fun i=>xs.getD i undef):=by
 rcases h.2 with⟨h1,_⟩ | ⟨g',cap,cur,e1,hb,hc,hn,hm,hs,ht⟩
 ·cases h1
 ·cases e1
  refine⟨cur,hc,hs,fun i hi=>?_⟩
  show _=some (xs.getD i undef)
  rw [← ht,List.take_of_length_le (by simp [hs]),List.getD_eq_getElem?_getD]
  have:i<cur.size:=by omega
  simp [this]
theorem since_none {w wr w':World}{B:Nat}(h:w.Since B wr) (hB:B≤wr.heap.size) (hg:wr.grownBy w' none):w.Since B w':=
 ⟨hg.os.trans h.os,hg.tape.trans h.tape,hg.output.trans h.output,Nat.le_trans h.size hg.size,fun k hk=>(hg.block k (by omega) (by simp)).trans (h.block k hk)⟩
def stF (st:Nat→St) (k:Nat) (c:Nat):Value:=if c / 3<k then .int .i64 (if c % 3=0 then (st (c / 3)).1 else if c % 3=1 then (st (c / 3)).2.1 else (st (c / 3)).2.2) else .int .i64 0
def clF (cl:Nat→Int) (k:Nat) (c:Nat):Value:=if c<k then .int .i64 (cl c) else .int .i64 0
structure SplitW (w wr:World) (B M1 M2 M3 n:Nat) (f1 f2:Nat→Value) (nn:Nat) (m:St→Option Nat):Prop where
 since:w.Since B wr
 le:B≤M1∧M1<M2∧M2<M3∧M3<wr.heap.size
 r1:wr.rowIs M1 36 (n*3) f1
 r2:wr.rowIs M2 3 n f2
 mp:FirstW wr M3 nn m
theorem SplitW.keep {w wr w':World}{B M1 M2 M3 n nn:Nat}{f1 f2:Nat→Value}{m:St→Option Nat}(h:SplitW w wr B M1 M2 M3 n f1 f2 nn m) (hS:wr.Since wr.heap.size w'):SplitW w w' B M1 M2 M3 n f1 f2 nn m:=by
 obtain⟨l1,l2,l3,l4⟩:=h.le
 exact⟨h.since.trans (zJ9 hS (by omega)),⟨l1,l2,l3,Nat.lt_of_lt_of_le l4 hS.size⟩,h.r1.of_block (hS.block _ (by omega)),h.r2.of_block (hS.block _ (by omega)),h.mp.since hS l4⟩
theorem made_zero (z:Array Value) (t i:Nat) (u:Value) (hz:∀j,j<z.size→z[j]?=some u) (h0:0<z.size) (hi:i<t):(madeCells z t).toList.getD i undef=u:=by
 have h1:=hz (i % z.size) (Nat.mod_lt _ h0)
 have h2:i % z.size<z.size:=Nat.mod_lt _ h0
 rw [List.getD_eq_getElem?_getD]
 simp only [madeCells,Array.toList_map,List.getElem?_map]
 rw [show (Array.range t).toList[i]?=some i by simp [hi]]
 rw [Array.getElem?_eq_getElem h2] at h1
 have h3:=Option.some.inj h1
 simp [h2,h3]
theorem FirstW.mono {w:World}{b n n':Nat}{m:St→Option Nat}(h:FirstW w b n m) (hn:n≤n'):FirstW w b n' m:=by
 obtain⟨D,h1,h2⟩:=h
 exact⟨D,h1.mono hn,h2⟩
theorem FirstW.setCell {w:World}{b n:Nat}{m:St→Option Nat}(h:FirstW w b n m){a:Addr}(ha:b≠a.block) (v:Value):FirstW (w.setCell a v) b n m:=by
 obtain⟨D,⟨es,clock,h1,h2⟩,h3⟩:=h
 exact⟨D,⟨es,clock,(blk_setCell_other _ _ _ _ ha).trans h1,h2⟩,h3⟩
theorem SplitW.stamp {w wr:World}{B M1 M2 M3 n nn k:Nat}{st:Nat→St}{f2:Nat→Value}{m:St→Option Nat}(h:SplitW w wr B M1 M2 M3 n (stF st k) f2 nn m) :
  SplitW w (((wr.setCell ⟨M1,k*3,none⟩ (.int .i64 (st k).1)).setCell ⟨M1,k*3+1,none⟩ (.int .i64 (st k).2.1)).setCell ⟨M1,k*3+2,none⟩ (.int .i64 (st k).2.2)) B M1 M2 M3 n (stF st (k+1)) f2 nn m:=by
 obtain⟨l1,l2,l3,l4⟩:=h.le
 refine⟨((h.since.setCell l1 _).setCell l1 _).setCell l1 _,⟨l1,l2,l3,by simpa [World.setCell] using l4⟩,?_,((h.r2.setOther (by show M2≠M1; omega) _).setOther (by show M2≠M1; omega) _).setOther (by show M2≠M1; omega) _,((h.mp.setCell (by show M3≠M1; omega) _).setCell (by show M3≠M1; omega) _).setCell (by show M3≠M1; omega) _⟩
 refine (((h.r1.set (k*3) _).set (k*3+1) _).set (k*3+2) _).congr fun i hi=>?_
 unfold stF
 by_cases e2:i=k*3+2
 ·subst e2
  rw [if_pos rfl,if_pos (by omega),if_neg (by omega),if_neg (by omega),show (k*3+2) / 3=k by omega]
 ·rw [if_neg e2]
  by_cases e1:i=k*3+1
  ·subst e1
   rw [if_pos rfl,if_pos (by omega),if_neg (by omega),if_pos (by omega),show (k*3+1) / 3=k by omega]
  ·rw [if_neg e1]
   by_cases e0:i=k*3
   ·subst e0
    rw [if_pos rfl,if_pos (by omega),if_pos (by omega),show (k*3) / 3=k by omega]
   ·rw [if_neg e0]
    by_cases hlt:i / 3<k
    ·have hlt2:i / 3<k+1:=by omega
     rw [if_pos hlt,if_pos hlt2]
    ·have hlt2:¬ i / 3<k+1:=by omega
     rw [if_neg hlt,if_neg hlt2]
def firstOf (st:Nat→St) (k:Nat) (s:St):Option Nat:=(List.range k).find? fun j=>st j==s
theorem firstOf_succ (st:Nat→St) (k:Nat) (s:St):firstOf st (k+1) s=(match firstOf st k s with | some j=>some j | none=>if s=st k then some k else none):=by
 unfold firstOf
 rw [List.range_succ,List.find?_append]
 cases (List.range k).find? fun j=>st j==s with
 | some j=>rfl
 | none=>
  by_cases e:s=st k
  ·subst e; simp
  ·rw [if_neg e]; simp [Ne.symm e]
def clsOf (st:Nat→St) (eqv:Nat→Nat→Bool) (i:Nat):Int:=match firstOf st i (st i) with
 | none=>0
 | some j=>if eqv j i=true then 0 else 1
theorem clF_next {cl:Nat→Int}{k i:Nat}(h:cl k=0):clF cl k i=clF cl (k+1) i:=by
 unfold clF
 by_cases e:i<k
 ·rw [if_pos e,if_pos (by omega)]
 ·rw [if_neg e]
  by_cases e2:i<k+1
  ·rw [if_pos e2,show i=k by omega,h]
  ·rw [if_neg e2]
theorem firstOf_some {st:Nat→St}{k j:Nat}{s:St}(h:firstOf st k s=some j):j<k∧st j=s:=by
 unfold firstOf at h
 have h2:=List.find?_some (p:=fun j=>st j==s) h
 exact⟨List.mem_range.1 (List.mem_of_find?_eq_some h),by simpa using h2⟩
set_option maxHeartbeats 16000000 in
set_option maxRecDepth 100000 in
theorem Tryz.SplitE_walk (ao:Option Addr) (b o n cap:Nat) (c:Nat→Nat→Int) (eqv:Nat→Nat→Bool) (w:World)
  (hn:n≤1000) (hao:0<n→ao=some ⟨b,o,none⟩∧b<w.heap.size) (hc:∀i,i<n→∀j,j<8→w.cell? ⟨b,o+i*8+j,none⟩=some (.int .i64 (c i j)))
  (hst:∀i,i<n→stOK (c i 0,c i 1,c i 2))
  (hat:∀i,i<n→∀w1,w.Since w.heap.size w1→Calls Tryz.prog 42 #[.agg #[.int .i64 (c i 0),.int .i64 (c i 1),.int .i64 (c i 2),.int .i64 (c i 3),.int .i64 (c i 4),.int .i64 (c i 5),.int .i64 (c i 6),.int .i64 (c i 7)]] w1 fun e w'=>e = .returned (.agg #[.int .i64 (c i 0),.int .i64 (c i 1),.int .i64 (c i 2)])∧Below w1.heap.size w1 w')
  (hsame:∀i j,i<n→j<n→∀w1,w.Since w.heap.size w1→Calls Tryz.prog 43 #[.agg #[.int .i64 (c i 0),.int .i64 (c i 1),.int .i64 (c i 2),.int .i64 (c i 3),.int .i64 (c i 4),.int .i64 (c i 5),.int .i64 (c i 6),.int .i64 (c i 7)],.agg #[.int .i64 (c j 0),.int .i64 (c j 1),.int .i64 (c j 2),.int .i64 (c j 3),.int .i64 (c j 4),.int .i64 (c j 5),.int .i64 (c j 6),.int .i64 (c j 7)]] w1 fun e w'=>e = .returned (.bool (eqv i j))∧Below w1.heap.size w1 w') :
  Calls Tryz.prog 71 #[.slice ao n cap,.func (.func 42) #[] #[],.func (.func 43) #[] #[]] w fun e w'=>∃M1 M2 M3,e = .returned (.tuple #[.slice (some ⟨M1,0,none⟩) n n,.slice (some ⟨M2,0,none⟩) n n]) ∧
   SplitW w w' w.heap.size M1 M2 M3 n (stF (fun i=>(c i 0,c i 1,c i 2)) n) (clF (clsOf (fun i=>(c i 0,c i 1,c i 2)) eqv) n) n (firstOf (fun i=>(c i 0,c i 1,c i 2)) n):=by
 obtain⟨i3,hi3,hz30,hz31,hz32⟩:=info_parts Tryz.info3
 obtain⟨i36,hi36,hz60,hz61,hz62⟩:=info_parts Tryz.info36
 have hmm:=@run_makeMap Tryz.prog
 go_enter Tryz.func71,Tryz.ntmps71
 go_wp2_with (first
  | (refine wpList_make_full _ rfl _ _ 137 rfl w.heap.size 36 i36 _ 3 Tryz.underlying137 hi36 hz60 hz61 .i64 .i64 _ _ n rfl rfl rfl rfl (by rw [hz62]; omega) (by unfold maxLen; omega) (Nat.le_refl _) ?_; intro w1 hown1 hg1)
  | (refine wpList_make_full _ rfl _ _ 22 rfl w.heap.size 3 i3 _ 1 Tryz.underlying22 hi3 hz30 hz31 .i64 .i64 _ _ n rfl rfl rfl rfl (by rw [hz32]; omega) (by unfold maxLen; omega) (by have:=hg1.size; omega) ?_; intro w2 hown2 hg2))
 have hM1:w.heap.size<w1.heap.size:=(hown1.lt _ rfl).2
 have hM2:w1.heap.size<w2.heap.size:=(hown2.lt _ rfl).2
 have hS0:SplitW w (w2.alloc (.map #[] 0)) w.heap.size w.heap.size w1.heap.size w2.heap.size n (stF (fun i=>(c i 0,c i 1,c i 2)) 0) (clF (clsOf (fun i=>(c i 0,c i 1,c i 2)) eqv) 0) 0 (firstOf (fun i=>(c i 0,c i 1,c i 2)) 0):=by
  have s1:w.Since w.heap.size w1:=since_none (World.Since.refl _ _) (Nat.le_refl _) hg1
  have s2:w.Since w.heap.size w2:=since_none s1 (by omega) hg2
  refine⟨s2.alloc (by omega) _,⟨Nat.le_refl _,hM1,hM2,by simp⟩,?_,?_,FirstW.made w2⟩
  ·have r:=own_rowIs hown1
   refine ((r.of_block (hg2.block _ hM1 (by simp))).alloc _).congr fun i hi=>?_
   show _=stF _ 0 i
   rw [made_zero _ _ i (.int .i64 0) (fun j hj=>?_) (by simp [Value.cells]) hi]
   ·simp [stF]
   ·simp [Value.cells] at hj ⊢
    match j,hj with
    | 0,_=>rfl
    | 1,_=>rfl
    | 2,_=>rfl
  ·have r:=own_rowIs hown2
   rw [Nat.mul_one] at r
   refine (r.alloc _).congr fun i hi=>?_
   show _=clF _ 0 i
   rw [made_zero _ _ i (.int .i64 0) (fun j hj=>?_) (by simp [Value.cells]) (by omega)]
   ·simp [clF]
   ·simp [Value.cells] at hj ⊢
    match j,hj with
    | 0,_=>rfl
 generalize w2.alloc (.map #[] 0)=w3 at hS0 ⊢
 generalize w1.heap.size=M2 at *
 generalize w2.heap.size=M3 at *
 clear hown1 hown2 hg1 hg2 hmm
 go_loopw [24] (fun v wr=>∃k:Nat,k≤n∧v = .int .i64 k∧SplitW w wr w.heap.size w.heap.size M2 M3 n (stF (fun i=>(c i 0,c i 1,c i 2)) k) (clF (clsOf (fun i=>(c i 0,c i 1,c i 2)) eqv) k) k (firstOf (fun i=>(c i 0,c i 1,c i 2)) k)) (fun v _=>n - (RowKit.intOf v).toNat)
 case atStart=>exact⟨0,Nat.zero_le _,rfl,hS0⟩
 case round=>
  obtain⟨k,hk,rfl,hT⟩:=hrel
  by_cases hkl:k<n
  ·obtain⟨rfl,hb⟩:=hao (by omega)
   have up:∀j,j<8→wr.cell? ⟨b,o+k*8+j,none⟩=some (.int .i64 (c k j)):=fun j hj=>(hT.since.cell (a:=⟨b,o+k*8+j,none⟩) hb).trans (hc k hkl j hj)
   have c0:wr.cell? ⟨b,o+k*8,none⟩=some (.int .i64 (c k 0)):=up 0 (by decide)
   have c1:=up 1 (by decide); have c2:=up 2 (by decide); have c3:=up 3 (by decide); have c4:=up 4 (by decide); have c5:=up 5 (by decide); have c6:=up 6 (by decide); have c7:=up 7 (by decide)
   have hki:(k:Int)<(n:Int):=by omega
   have hatk:=hat k hkl
   have hstk:=hst k hkl
   clear up hat
   go_wp2_with fail
   refine (hatk _ (hT.since.alloc (by have:=hT.le; omega) _)).mono ?_
   rintro e w4 ⟨rfl,hb4⟩
   have hle:=hT.le
   have hA:wr.heap.size<w4.heap.size:=Nat.lt_of_lt_of_le (by simp) hb4.size
   have hblk:w4.heap[wr.heap.size]?=some (.cells #[.int .i64 (c k 0),.int .i64 (c k 1),.int .i64 (c k 2),.int .i64 (c k 3),.int .i64 (c k 4),.int .i64 (c k 5),.int .i64 (c k 6),.int .i64 (c k 7)] 40):=(hb4.block _ (by simp)).trans (heap_alloc_new _ _)
   have hT4:SplitW w w4 w.heap.size w.heap.size M2 M3 n (stF (fun i=>(c i 0,c i 1,c i 2)) k) (clF (clsOf (fun i=>(c i 0,c i 1,c i 2)) eqv) k) k (firstOf (fun i=>(c i 0,c i 1,c i 2)) k):=hT.keep ⟨hb4.os,hb4.tape,hb4.output,Nat.le_of_lt hA,fun j hj=>(hb4.block j (by simp; omega)).trans (blk_alloc_lt _ _ _ hj)⟩
   clear hb4 hatk c0 c1 c2 c3 c4 c5 c6 c7 hT
   generalize wr.heap.size=A at *
   have m0:=hT4.r1.cell (i:=k*3) (by omega)
   have m1:=hT4.r1.cell (i:=k*3+1) (by omega)
   have m2:=hT4.r1.cell (i:=k*3+2) (by omega)
   have g0:=hT4.r1.frozen (k*3)
   have g1:=hT4.r1.frozen (k*3+1)
   have g2:=hT4.r1.frozen (k*3+2)
   have hkn:k<n:=hkl
   have hS5:=hT4.stamp
   have hblk5:(((w4.setCell ⟨w.heap.size,k*3,none⟩ (.int .i64 (c k 0))).setCell ⟨w.heap.size,k*3+1,none⟩ (.int .i64 (c k 1))).setCell ⟨w.heap.size,k*3+2,none⟩ (.int .i64 (c k 2))).heap[A]?=some (.cells #[.int .i64 (c k 0),.int .i64 (c k 1),.int .i64 (c k 2),.int .i64 (c k 3),.int .i64 (c k 4),.int .i64 (c k 5),.int .i64 (c k 6),.int .i64 (c k 7)] 40):=
    (blk_setCell_other _ _ _ _ (by show A≠w.heap.size; omega)).trans ((blk_setCell_other _ _ _ _ (by show A≠w.heap.size; omega)).trans ((blk_setCell_other _ _ _ _ (by show A≠w.heap.size; omega)).trans hblk))
   have hlook:=hS5.mp.look hstk
   rw [show stV (c k 0,c k 1,c k 2) = .agg #[.int .i64 (c k 0),.int .i64 (c k 1),.int .i64 (c k 2)] from rfl] at hlook
   dsimp only at hS5 hlook
   have f1:∀s,firstOf (fun i=>(c i 0,c i 1,c i 2)) (k+1) s=(match firstOf (fun i=>(c i 0,c i 1,c i 2)) k s with | some j=>some j | none=>if s=(c k 0,c k 1,c k 2) then some k else none):=fun s=>firstOf_succ _ k s
   cases hfst:firstOf (fun i=>(c i 0,c i 1,c i 2)) k (c k 0,c k 1,c k 2) with
   | none=>
    rw [hfst] at hlook
    simp only [Option.getD_none,Option.isSome_none] at hlook
    have hmp:=hS5.mp
    clear hc hsame
    go_wp2_with (first
     | (at_mapUpdate; refine wpList_first_put _ rfl _ _ _ rfl M3 k _ hmp (by unfold maxLen; omega) (c k 0,c k 1,c k 2) hstk k (by omega) rfl rfl rfl ?_; intro w6 hM6 hg6))
    obtain⟨l1,l2,l3,l4⟩:=hS5.le
    refine⟨⟨k+1,by omega,by simp,⟨since_grown hS5.since (by omega) hg6 (by omega),⟨l1,l2,l3,Nat.lt_of_lt_of_le l4 hg6.size⟩,hS5.r1.of_block (hg6.block _ (by omega) (by intro e; have:=Option.some.inj e; omega)),(hS5.r2.of_block (hg6.block _ (by omega) (by intro e; have:=Option.some.inj e; omega))).congr (fun i hi=>?_),?_⟩⟩,by simp [RowKit.intOf]; omega⟩
    ·refine clF_next (i:=i) ?_
     unfold clsOf
     rw [hfst]
    ·have:(fun s'=>if s'=(c k 0,c k 1,c k 2) then some k else firstOf (fun i=>(c i 0,c i 1,c i 2)) k s')=firstOf (fun i=>(c i 0,c i 1,c i 2)) (k+1):=by
      funext s'
      rw [f1 s']
      by_cases e:s'=(c k 0,c k 1,c k 2)
      ·rw [if_pos e,e,hfst]; simp
      ·rw [if_neg e,if_neg e]
       cases firstOf (fun i=>(c i 0,c i 1,c i 2)) k s' <;> rfl
     rw [this] at hM6
     exact hM6
   | some j=>
    rw [hfst] at hlook
    simp only [Option.getD_some,Option.isSome_some] at hlook
    obtain⟨hjk,hjs⟩:=firstOf_some hfst
    have hsm:=hsame j k (by omega) hkl
    have hfn:firstOf (fun i=>(c i 0,c i 1,c i 2)) (k+1)=firstOf (fun i=>(c i 0,c i 1,c i 2)) k:=by
     funext s'
     rw [f1 s']
     cases e:firstOf (fun i=>(c i 0,c i 1,c i 2)) k s' with
     | some x=>rfl
     | none=>
      by_cases e2:s'=(c k 0,c k 1,c k 2)
      ·rw [e2,hfst] at e; cases e
      ·simp [e2]
    have up:∀i,i<8→(((w4.setCell ⟨w.heap.size,k*3,none⟩ (.int .i64 (c k 0))).setCell ⟨w.heap.size,k*3+1,none⟩ (.int .i64 (c k 1))).setCell ⟨w.heap.size,k*3+2,none⟩ (.int .i64 (c k 2))).cell? ⟨b,o+j*8+i,none⟩=some (.int .i64 (c j i)):=fun i hi=>(hS5.since.cell (a:=⟨b,o+j*8+i,none⟩) hb).trans (hc j (by omega) i hi)
    have c0:(((w4.setCell ⟨w.heap.size,k*3,none⟩ (.int .i64 (c k 0))).setCell ⟨w.heap.size,k*3+1,none⟩ (.int .i64 (c k 1))).setCell ⟨w.heap.size,k*3+2,none⟩ (.int .i64 (c k 2))).cell? ⟨b,o+j*8,none⟩=some (.int .i64 (c j 0)):=up 0 (by decide)
    have c1:=up 1 (by decide); have c2:=up 2 (by decide); have c3:=up 3 (by decide); have c4:=up 4 (by decide); have c5:=up 5 (by decide); have c6:=up 6 (by decide); have c7:=up 7 (by decide)
    have a0:=cell_blk hblk5 0; have a1:=cell_blk hblk5 1; have a2:=cell_blk hblk5 2; have a3:=cell_blk hblk5 3; have a4:=cell_blk hblk5 4; have a5:=cell_blk hblk5 5; have a6:=cell_blk hblk5 6; have a7:=cell_blk hblk5 7
    have hji:(j:Int)<(n:Int):=by omega
    have hcl:clsOf (fun i=>(c i 0,c i 1,c i 2)) eqv k=if eqv j k=true then 0 else 1:=by
     unfold clsOf
     rw [hfst]
    clear hc hsame up
    cases hq:eqv j k
    ·rw [hq] at hsm hcl
     go_wp2_with fail
     go_region_law (first
      | (go_simp; go_at_call 43; refine (hsm _ (by first | exact hS5.since | exact⟨hS5.since.os,hS5.since.tape,hS5.since.output,hS5.since.size,hS5.since.block⟩)).mono ?_; rintro e w7 ⟨rfl,hb7⟩))
     all_goals
      have hS7:=hS5.keep ⟨hb7.os,hb7.tape,hb7.output,hb7.size,hb7.block⟩
      clear hb7 c0 c1 c2 c3 c4 c5 c6 c7 a0 a1 a2 a3 a4 a5 a6 a7 hlook hblk5 hsm m0 m1 m2 g0 g1 g2
      have l7:=hS7.le
      have m0:=hS7.r2.cell (i:=k) hkl
      have g0:=hS7.r2.frozen k
      go_wp2
      refine⟨⟨k+1,by omega,by simp,⟨hS7.since.setCell (by show w.heap.size≤M2; omega) _,by simpa [World.setCell] using hS7.le,hS7.r1.setOther (by show w.heap.size≠M2; omega) _,(hS7.r2.set k (.int .i64 1)).congr fun i hi=>?_,by rw [hfn]; exact (hS7.mp.setCell (by show M3≠M2; omega) _).mono (by omega)⟩⟩,by simp [RowKit.intOf]; omega⟩
      unfold clF
      by_cases e:i=k
      ·rw [if_pos e,if_pos (by omega),e,hcl]; rfl
      ·rw [if_neg e]
       by_cases e2:i<k
       ·rw [if_pos e2,if_pos (by omega)]
       ·rw [if_neg e2,if_neg (by omega)]
    ·rw [hq] at hsm hcl
     go_wp2_with fail
     go_region_law (first
      | (go_simp; go_at_call 43; refine (hsm _ (by first | exact hS5.since | exact⟨hS5.since.os,hS5.since.tape,hS5.since.output,hS5.since.size,hS5.since.block⟩)).mono ?_; rintro e w7 ⟨rfl,hb7⟩))
     all_goals
      have hS7:=hS5.keep ⟨hb7.os,hb7.tape,hb7.output,hb7.size,hb7.block⟩
      clear hb7 c0 c1 c2 c3 c4 c5 c6 c7 a0 a1 a2 a3 a4 a5 a6 a7 hlook hblk5 hsm m0 m1 m2 g0 g1 g2
      have l7:=hS7.le
      go_wp2
      exact⟨⟨k+1,by omega,by simp,⟨hS7.since,hS7.le,hS7.r1,hS7.r2.congr fun i hi=>clF_next (by rw [hcl]; rfl),by rw [hfn]; exact hS7.mp.mono (by omega)⟩⟩,by simp [RowKit.intOf]; omega⟩
  ·have hke:k=n:=by omega
   subst hke
   clear hc hst hat hsame hao
   go_wp2
   refine bodyPost_ret (results_tmp2 rfl _ _ _) rfl ?_
   exact⟨_,M2,M3,rfl,hT⟩
end Go.Proofs
namespace Go.Proofs
open Go.RowKit Go.LS Go.Deep
set_option linter.all false
set_option maxHeartbeats 16000000 in
set_option maxRecDepth 100000 in
theorem Tryz.SplitR_walk (ao:Option Addr) (b o n cap:Nat) (c:Nat→Nat→Int) (eqv:Nat→Nat→Bool) (w:World)
  (hn:n≤1000) (hao:0<n→ao=some ⟨b,o,none⟩∧b<w.heap.size) (hc:∀i,i<n→∀j,j<6→w.cell? ⟨b,o+i*6+j,none⟩=some (.int .i64 (c i j)))
  (hst:∀i,i<n→stOK (c i 0,c i 1,c i 2))
  (hat:∀i,i<n→∀w1,w.Since w.heap.size w1→Calls Tryz.prog 51 #[.agg #[.int .i64 (c i 0),.int .i64 (c i 1),.int .i64 (c i 2),.int .i64 (c i 3),.int .i64 (c i 4),.int .i64 (c i 5)]] w1 fun e w'=>e = .returned (.agg #[.int .i64 (c i 0),.int .i64 (c i 1),.int .i64 (c i 2)])∧Below w1.heap.size w1 w')
  (hsame:∀i j,i<n→j<n→∀w1,w.Since w.heap.size w1→Calls Tryz.prog 52 #[.agg #[.int .i64 (c i 0),.int .i64 (c i 1),.int .i64 (c i 2),.int .i64 (c i 3),.int .i64 (c i 4),.int .i64 (c i 5)],.agg #[.int .i64 (c j 0),.int .i64 (c j 1),.int .i64 (c j 2),.int .i64 (c j 3),.int .i64 (c j 4),.int .i64 (c j 5)]] w1 fun e w'=>e = .returned (.bool (eqv i j))∧Below w1.heap.size w1 w') :
  Calls Tryz.prog 78 #[.slice ao n cap,.func (.func 51) #[] #[],.func (.func 52) #[] #[]] w fun e w'=>∃M1 M2 M3,e = .returned (.tuple #[.slice (some ⟨M1,0,none⟩) n n,.slice (some ⟨M2,0,none⟩) n n]) ∧
   SplitW w w' w.heap.size M1 M2 M3 n (stF (fun i=>(c i 0,c i 1,c i 2)) n) (clF (clsOf (fun i=>(c i 0,c i 1,c i 2)) eqv) n) n (firstOf (fun i=>(c i 0,c i 1,c i 2)) n):=by
 obtain⟨i3,hi3,hz30,hz31,hz32⟩:=info_parts Tryz.info3
 obtain⟨i36,hi36,hz60,hz61,hz62⟩:=info_parts Tryz.info36
 have hmm:=@run_makeMap Tryz.prog
 go_enter Tryz.func78,Tryz.ntmps78
 go_wp2_with (first
  | (refine wpList_make_full _ rfl _ _ 137 rfl w.heap.size 36 i36 _ 3 Tryz.underlying137 hi36 hz60 hz61 .i64 .i64 _ _ n rfl rfl rfl rfl (by rw [hz62]; omega) (by unfold maxLen; omega) (Nat.le_refl _) ?_; intro w1 hown1 hg1)
  | (refine wpList_make_full _ rfl _ _ 22 rfl w.heap.size 3 i3 _ 1 Tryz.underlying22 hi3 hz30 hz31 .i64 .i64 _ _ n rfl rfl rfl rfl (by rw [hz32]; omega) (by unfold maxLen; omega) (by have:=hg1.size; omega) ?_; intro w2 hown2 hg2))
 have hM1:w.heap.size<w1.heap.size:=(hown1.lt _ rfl).2
 have hM2:w1.heap.size<w2.heap.size:=(hown2.lt _ rfl).2
 have hS0:SplitW w (w2.alloc (.map #[] 0)) w.heap.size w.heap.size w1.heap.size w2.heap.size n (stF (fun i=>(c i 0,c i 1,c i 2)) 0) (clF (clsOf (fun i=>(c i 0,c i 1,c i 2)) eqv) 0) 0 (firstOf (fun i=>(c i 0,c i 1,c i 2)) 0):=by
  have s1:w.Since w.heap.size w1:=since_none (World.Since.refl _ _) (Nat.le_refl _) hg1
  have s2:w.Since w.heap.size w2:=since_none s1 (by omega) hg2
  refine⟨s2.alloc (by omega) _,⟨Nat.le_refl _,hM1,hM2,by simp⟩,?_,?_,FirstW.made w2⟩
  ·have r:=own_rowIs hown1
   refine ((r.of_block (hg2.block _ hM1 (by simp))).alloc _).congr fun i hi=>?_
   show _=stF _ 0 i
   rw [made_zero _ _ i (.int .i64 0) (fun j hj=>?_) (by simp [Value.cells]) hi]
   ·simp [stF]
   ·simp [Value.cells] at hj ⊢
    match j,hj with
    | 0,_=>rfl
    | 1,_=>rfl
    | 2,_=>rfl
  ·have r:=own_rowIs hown2
   rw [Nat.mul_one] at r
   refine (r.alloc _).congr fun i hi=>?_
   show _=clF _ 0 i
   rw [made_zero _ _ i (.int .i64 0) (fun j hj=>?_) (by simp [Value.cells]) (by omega)]
   ·simp [clF]
   ·simp [Value.cells] at hj ⊢
    match j,hj with
    | 0,_=>rfl
 generalize w2.alloc (.map #[] 0)=w3 at hS0 ⊢
 generalize w1.heap.size=M2 at *
 generalize w2.heap.size=M3 at *
 clear hown1 hown2 hg1 hg2 hmm
 go_loopw [24] (fun v wr=>∃k:Nat,k≤n∧v = .int .i64 k∧SplitW w wr w.heap.size w.heap.size M2 M3 n (stF (fun i=>(c i 0,c i 1,c i 2)) k) (clF (clsOf (fun i=>(c i 0,c i 1,c i 2)) eqv) k) k (firstOf (fun i=>(c i 0,c i 1,c i 2)) k)) (fun v _=>n - (RowKit.intOf v).toNat)
 case atStart=>exact⟨0,Nat.zero_le _,rfl,hS0⟩
 case round=>
  obtain⟨k,hk,rfl,hT⟩:=hrel
  by_cases hkl:k<n
  ·obtain⟨rfl,hb⟩:=hao (by omega)
   have up:∀j,j<6→wr.cell? ⟨b,o+k*6+j,none⟩=some (.int .i64 (c k j)):=fun j hj=>(hT.since.cell (a:=⟨b,o+k*6+j,none⟩) hb).trans (hc k hkl j hj)
   have c0:wr.cell? ⟨b,o+k*6,none⟩=some (.int .i64 (c k 0)):=up 0 (by decide)
   have c1:=up 1 (by decide); have c2:=up 2 (by decide); have c3:=up 3 (by decide); have c4:=up 4 (by decide); have c5:=up 5 (by decide)
   have hki:(k:Int)<(n:Int):=by omega
   have hatk:=hat k hkl
   have hstk:=hst k hkl
   clear up hat
   go_wp2_with fail
   refine (hatk _ (hT.since.alloc (by have:=hT.le; omega) _)).mono ?_
   rintro e w4 ⟨rfl,hb4⟩
   have hle:=hT.le
   have hA:wr.heap.size<w4.heap.size:=Nat.lt_of_lt_of_le (by simp) hb4.size
   have hblk:w4.heap[wr.heap.size]?=some (.cells #[.int .i64 (c k 0),.int .i64 (c k 1),.int .i64 (c k 2),.int .i64 (c k 3),.int .i64 (c k 4),.int .i64 (c k 5)] 42):=(hb4.block _ (by simp)).trans (heap_alloc_new _ _)
   have hT4:SplitW w w4 w.heap.size w.heap.size M2 M3 n (stF (fun i=>(c i 0,c i 1,c i 2)) k) (clF (clsOf (fun i=>(c i 0,c i 1,c i 2)) eqv) k) k (firstOf (fun i=>(c i 0,c i 1,c i 2)) k):=hT.keep ⟨hb4.os,hb4.tape,hb4.output,Nat.le_of_lt hA,fun j hj=>(hb4.block j (by simp; omega)).trans (blk_alloc_lt _ _ _ hj)⟩
   clear hb4 hatk c0 c1 c2 c3 c4 c5 hT
   generalize wr.heap.size=A at *
   have m0:=hT4.r1.cell (i:=k*3) (by omega)
   have m1:=hT4.r1.cell (i:=k*3+1) (by omega)
   have m2:=hT4.r1.cell (i:=k*3+2) (by omega)
   have g0:=hT4.r1.frozen (k*3)
   have g1:=hT4.r1.frozen (k*3+1)
   have g2:=hT4.r1.frozen (k*3+2)
   have hkn:k<n:=hkl
   have hS5:=hT4.stamp
   have hblk5:(((w4.setCell ⟨w.heap.size,k*3,none⟩ (.int .i64 (c k 0))).setCell ⟨w.heap.size,k*3+1,none⟩ (.int .i64 (c k 1))).setCell ⟨w.heap.size,k*3+2,none⟩ (.int .i64 (c k 2))).heap[A]?=some (.cells #[.int .i64 (c k 0),.int .i64 (c k 1),.int .i64 (c k 2),.int .i64 (c k 3),.int .i64 (c k 4),.int .i64 (c k 5)] 42):=
    (blk_setCell_other _ _ _ _ (by show A≠w.heap.size; omega)).trans ((blk_setCell_other _ _ _ _ (by show A≠w.heap.size; omega)).trans ((blk_setCell_other _ _ _ _ (by show A≠w.heap.size; omega)).trans hblk))
   have hlook:=hS5.mp.look hstk
   rw [show stV (c k 0,c k 1,c k 2) = .agg #[.int .i64 (c k 0),.int .i64 (c k 1),.int .i64 (c k 2)] from rfl] at hlook
   dsimp only at hS5 hlook
   have f1:∀s,firstOf (fun i=>(c i 0,c i 1,c i 2)) (k+1) s=(match firstOf (fun i=>(c i 0,c i 1,c i 2)) k s with | some j=>some j | none=>if s=(c k 0,c k 1,c k 2) then some k else none):=fun s=>firstOf_succ _ k s
   cases hfst:firstOf (fun i=>(c i 0,c i 1,c i 2)) k (c k 0,c k 1,c k 2) with
   | none=>
    rw [hfst] at hlook
    simp only [Option.getD_none,Option.isSome_none] at hlook
    have hmp:=hS5.mp
    clear hc hsame
    go_wp2_with (first
     | (at_mapUpdate; refine wpList_first_put _ rfl _ _ _ rfl M3 k _ hmp (by unfold maxLen; omega) (c k 0,c k 1,c k 2) hstk k (by omega) rfl rfl rfl ?_; intro w6 hM6 hg6))
    obtain⟨l1,l2,l3,l4⟩:=hS5.le
    refine⟨⟨k+1,by omega,by simp,⟨since_grown hS5.since (by omega) hg6 (by omega),⟨l1,l2,l3,Nat.lt_of_lt_of_le l4 hg6.size⟩,hS5.r1.of_block (hg6.block _ (by omega) (by intro e; have:=Option.some.inj e; omega)),(hS5.r2.of_block (hg6.block _ (by omega) (by intro e; have:=Option.some.inj e; omega))).congr (fun i hi=>?_),?_⟩⟩,by simp [RowKit.intOf]; omega⟩
    ·refine clF_next (i:=i) ?_
     unfold clsOf
     rw [hfst]
    ·have:(fun s'=>if s'=(c k 0,c k 1,c k 2) then some k else firstOf (fun i=>(c i 0,c i 1,c i 2)) k s')=firstOf (fun i=>(c i 0,c i 1,c i 2)) (k+1):=by
      funext s'
      rw [f1 s']
      by_cases e:s'=(c k 0,c k 1,c k 2)
      ·rw [if_pos e,e,hfst]; simp
      ·rw [if_neg e,if_neg e]
       cases firstOf (fun i=>(c i 0,c i 1,c i 2)) k s' <;> rfl
     rw [this] at hM6
     exact hM6
   | some j=>
    rw [hfst] at hlook
    simp only [Option.getD_some,Option.isSome_some] at hlook
    obtain⟨hjk,hjs⟩:=firstOf_some hfst
    have hsm:=hsame j k (by omega) hkl
    have hfn:firstOf (fun i=>(c i 0,c i 1,c i 2)) (k+1)=firstOf (fun i=>(c i 0,c i 1,c i 2)) k:=by
     funext s'
     rw [f1 s']
     cases e:firstOf (fun i=>(c i 0,c i 1,c i 2)) k s' with
     | some x=>rfl
     | none=>
      by_cases e2:s'=(c k 0,c k 1,c k 2)
      ·rw [e2,hfst] at e; cases e
      ·simp [e2]
    have up:∀i,i<6→(((w4.setCell ⟨w.heap.size,k*3,none⟩ (.int .i64 (c k 0))).setCell ⟨w.heap.size,k*3+1,none⟩ (.int .i64 (c k 1))).setCell ⟨w.heap.size,k*3+2,none⟩ (.int .i64 (c k 2))).cell? ⟨b,o+j*6+i,none⟩=some (.int .i64 (c j i)):=fun i hi=>(hS5.since.cell (a:=⟨b,o+j*6+i,none⟩) hb).trans (hc j (by omega) i hi)
    have c0:(((w4.setCell ⟨w.heap.size,k*3,none⟩ (.int .i64 (c k 0))).setCell ⟨w.heap.size,k*3+1,none⟩ (.int .i64 (c k 1))).setCell ⟨w.heap.size,k*3+2,none⟩ (.int .i64 (c k 2))).cell? ⟨b,o+j*6,none⟩=some (.int .i64 (c j 0)):=up 0 (by decide)
    have c1:=up 1 (by decide); have c2:=up 2 (by decide); have c3:=up 3 (by decide); have c4:=up 4 (by decide); have c5:=up 5 (by decide)
    have a0:=cell_blk hblk5 0; have a1:=cell_blk hblk5 1; have a2:=cell_blk hblk5 2; have a3:=cell_blk hblk5 3; have a4:=cell_blk hblk5 4; have a5:=cell_blk hblk5 5
    have hji:(j:Int)<(n:Int):=by omega
    have hcl:clsOf (fun i=>(c i 0,c i 1,c i 2)) eqv k=if eqv j k=true then 0 else 1:=by
     unfold clsOf
     rw [hfst]
    clear hc hsame up
    cases hq:eqv j k
    ·rw [hq] at hsm hcl
     go_wp2_with fail
     go_region_law (first
      | (go_simp; go_at_call 52; refine (hsm _ (by first | exact hS5.since | exact⟨hS5.since.os,hS5.since.tape,hS5.since.output,hS5.since.size,hS5.since.block⟩)).mono ?_; rintro e w7 ⟨rfl,hb7⟩))
     all_goals
      have hS7:=hS5.keep ⟨hb7.os,hb7.tape,hb7.output,hb7.size,hb7.block⟩
      clear hb7 c0 c1 c2 c3 c4 c5 a0 a1 a2 a3 a4 a5 hlook hblk5 hsm m0 m1 m2 g0 g1 g2
      have l7:=hS7.le
      have m0:=hS7.r2.cell (i:=k) hkl
      have g0:=hS7.r2.frozen k
      go_wp2
      refine⟨⟨k+1,by omega,by simp,⟨hS7.since.setCell (by show w.heap.size≤M2; omega) _,by simpa [World.setCell] using hS7.le,hS7.r1.setOther (by show w.heap.size≠M2; omega) _,(hS7.r2.set k (.int .i64 1)).congr fun i hi=>?_,by rw [hfn]; exact (hS7.mp.setCell (by show M3≠M2; omega) _).mono (by omega)⟩⟩,by simp [RowKit.intOf]; omega⟩
      unfold clF
      by_cases e:i=k
      ·rw [if_pos e,if_pos (by omega),e,hcl]; rfl
      ·rw [if_neg e]
       by_cases e2:i<k
       ·rw [if_pos e2,if_pos (by omega)]
       ·rw [if_neg e2,if_neg (by omega)]
    ·rw [hq] at hsm hcl
     go_wp2_with fail
     go_region_law (first
      | (go_simp; go_at_call 52; refine (hsm _ (by first | exact hS5.since | exact⟨hS5.since.os,hS5.since.tape,hS5.since.output,hS5.since.size,hS5.since.block⟩)).mono ?_; rintro e w7 ⟨rfl,hb7⟩))
     all_goals
      have hS7:=hS5.keep ⟨hb7.os,hb7.tape,hb7.output,hb7.size,hb7.block⟩
      clear hb7 c0 c1 c2 c3 c4 c5 a0 a1 a2 a3 a4 a5 hlook hblk5 hsm m0 m1 m2 g0 g1 g2
      have l7:=hS7.le
      go_wp2
      exact⟨⟨k+1,by omega,by simp,⟨hS7.since,hS7.le,hS7.r1,hS7.r2.congr fun i hi=>clF_next (by rw [hcl]; rfl),by rw [hfn]; exact hS7.mp.mono (by omega)⟩⟩,by simp [RowKit.intOf]; omega⟩
  ·have hke:k=n:=by omega
   subst hke
   clear hc hst hat hsame hao
   go_wp2
   refine bodyPost_ret (results_tmp2 rfl _ _ _) rfl ?_
   exact⟨_,M2,M3,rfl,hT⟩
end Go.Proofs
namespace Go.Proofs
open Go.RowKit Go.LS Go.Deep
set_option linter.all false
set_option maxHeartbeats 16000000 in
set_option maxRecDepth 100000 in
theorem Tryz.SplitB_walk (ao:Option Addr) (b o n cap:Nat) (c:Nat→Nat→Int) (ad:Nat→Option Addr) (ln cp:Nat→Nat) (eqv:Nat→Nat→Bool) (w:World)
  (hn:n≤1000) (hao:0<n→ao=some ⟨b,o,none⟩∧b<w.heap.size) (hc:∀i,i<n→∀j,j<8→w.cell? ⟨b,o+i*9+j,none⟩=some (.int .i64 (c i j)))
  (hc8:∀i,i<n→w.cell? ⟨b,o+i*9+8,none⟩=some (.slice (ad i) (ln i) (cp i)))
  (hst:∀i,i<n→stOK (c i 0,c i 1,c i 2))
  (hat:∀i,i<n→∀w1,w.Since w.heap.size w1→Calls Tryz.prog 58 #[.agg #[.int .i64 (c i 0),.int .i64 (c i 1),.int .i64 (c i 2),.int .i64 (c i 3),.int .i64 (c i 4),.int .i64 (c i 5),.int .i64 (c i 6),.int .i64 (c i 7),.slice (ad i) (ln i) (cp i)]] w1 fun e w'=>e = .returned (.agg #[.int .i64 (c i 0),.int .i64 (c i 1),.int .i64 (c i 2)])∧Below w1.heap.size w1 w')
  (hsame:∀i j,i<n→j<n→∀w1,w.Since w.heap.size w1→Calls Tryz.prog 59 #[.agg #[.int .i64 (c i 0),.int .i64 (c i 1),.int .i64 (c i 2),.int .i64 (c i 3),.int .i64 (c i 4),.int .i64 (c i 5),.int .i64 (c i 6),.int .i64 (c i 7),.slice (ad i) (ln i) (cp i)],.agg #[.int .i64 (c j 0),.int .i64 (c j 1),.int .i64 (c j 2),.int .i64 (c j 3),.int .i64 (c j 4),.int .i64 (c j 5),.int .i64 (c j 6),.int .i64 (c j 7),.slice (ad j) (ln j) (cp j)]] w1 fun e w'=>e = .returned (.bool (eqv i j))∧Below w1.heap.size w1 w') :
  Calls Tryz.prog 85 #[.slice ao n cap,.func (.func 58) #[] #[],.func (.func 59) #[] #[]] w fun e w'=>∃M1 M2 M3,e = .returned (.tuple #[.slice (some ⟨M1,0,none⟩) n n,.slice (some ⟨M2,0,none⟩) n n]) ∧
   SplitW w w' w.heap.size M1 M2 M3 n (stF (fun i=>(c i 0,c i 1,c i 2)) n) (clF (clsOf (fun i=>(c i 0,c i 1,c i 2)) eqv) n) n (firstOf (fun i=>(c i 0,c i 1,c i 2)) n):=by
 obtain⟨i3,hi3,hz30,hz31,hz32⟩:=info_parts Tryz.info3
 obtain⟨i36,hi36,hz60,hz61,hz62⟩:=info_parts Tryz.info36
 have hmm:=@run_makeMap Tryz.prog
 go_enter Tryz.func85,Tryz.ntmps85
 go_wp2_with (first
  | (refine wpList_make_full _ rfl _ _ 137 rfl w.heap.size 36 i36 _ 3 Tryz.underlying137 hi36 hz60 hz61 .i64 .i64 _ _ n rfl rfl rfl rfl (by rw [hz62]; omega) (by unfold maxLen; omega) (Nat.le_refl _) ?_; intro w1 hown1 hg1)
  | (refine wpList_make_full _ rfl _ _ 22 rfl w.heap.size 3 i3 _ 1 Tryz.underlying22 hi3 hz30 hz31 .i64 .i64 _ _ n rfl rfl rfl rfl (by rw [hz32]; omega) (by unfold maxLen; omega) (by have:=hg1.size; omega) ?_; intro w2 hown2 hg2))
 have hM1:w.heap.size<w1.heap.size:=(hown1.lt _ rfl).2
 have hM2:w1.heap.size<w2.heap.size:=(hown2.lt _ rfl).2
 have hS0:SplitW w (w2.alloc (.map #[] 0)) w.heap.size w.heap.size w1.heap.size w2.heap.size n (stF (fun i=>(c i 0,c i 1,c i 2)) 0) (clF (clsOf (fun i=>(c i 0,c i 1,c i 2)) eqv) 0) 0 (firstOf (fun i=>(c i 0,c i 1,c i 2)) 0):=by
  have s1:w.Since w.heap.size w1:=since_none (World.Since.refl _ _) (Nat.le_refl _) hg1
  have s2:w.Since w.heap.size w2:=since_none s1 (by omega) hg2
  refine⟨s2.alloc (by omega) _,⟨Nat.le_refl _,hM1,hM2,by simp⟩,?_,?_,FirstW.made w2⟩
  ·have r:=own_rowIs hown1
   refine ((r.of_block (hg2.block _ hM1 (by simp))).alloc _).congr fun i hi=>?_
   show _=stF _ 0 i
   rw [made_zero _ _ i (.int .i64 0) (fun j hj=>?_) (by simp [Value.cells]) hi]
   ·simp [stF]
   ·simp [Value.cells] at hj ⊢
    match j,hj with
    | 0,_=>rfl
    | 1,_=>rfl
    | 2,_=>rfl
  ·have r:=own_rowIs hown2
   rw [Nat.mul_one] at r
   refine (r.alloc _).congr fun i hi=>?_
   show _=clF _ 0 i
   rw [made_zero _ _ i (.int .i64 0) (fun j hj=>?_) (by simp [Value.cells]) (by omega)]
   ·simp [clF]
   ·simp [Value.cells] at hj ⊢
    match j,hj with
    | 0,_=>rfl
 generalize w2.alloc (.map #[] 0)=w3 at hS0 ⊢
 generalize w1.heap.size=M2 at *
 generalize w2.heap.size=M3 at *
 clear hown1 hown2 hg1 hg2 hmm
 go_loopw [24] (fun v wr=>∃k:Nat,k≤n∧v = .int .i64 k∧SplitW w wr w.heap.size w.heap.size M2 M3 n (stF (fun i=>(c i 0,c i 1,c i 2)) k) (clF (clsOf (fun i=>(c i 0,c i 1,c i 2)) eqv) k) k (firstOf (fun i=>(c i 0,c i 1,c i 2)) k)) (fun v _=>n - (RowKit.intOf v).toNat)
 case atStart=>exact⟨0,Nat.zero_le _,rfl,hS0⟩
 case round=>
  obtain⟨k,hk,rfl,hT⟩:=hrel
  by_cases hkl:k<n
  ·obtain⟨rfl,hb⟩:=hao (by omega)
   have up:∀j,j<8→wr.cell? ⟨b,o+k*9+j,none⟩=some (.int .i64 (c k j)):=fun j hj=>(hT.since.cell (a:=⟨b,o+k*9+j,none⟩) hb).trans (hc k hkl j hj)
   have c0:wr.cell? ⟨b,o+k*9,none⟩=some (.int .i64 (c k 0)):=up 0 (by decide)
   have c1:=up 1 (by decide); have c2:=up 2 (by decide); have c3:=up 3 (by decide); have c4:=up 4 (by decide); have c5:=up 5 (by decide); have c6:=up 6 (by decide); have c7:=up 7 (by decide)
   have c8:wr.cell? ⟨b,o+k*9+8,none⟩=some (.slice (ad k) (ln k) (cp k)):=(hT.since.cell (a:=⟨b,o+k*9+8,none⟩) hb).trans (hc8 k hkl)
   have hki:(k:Int)<(n:Int):=by omega
   have hatk:=hat k hkl
   have hstk:=hst k hkl
   clear up hat
   go_wp2_with fail
   refine (hatk _ (hT.since.alloc (by have:=hT.le; omega) _)).mono ?_
   rintro e w4 ⟨rfl,hb4⟩
   have hle:=hT.le
   have hA:wr.heap.size<w4.heap.size:=Nat.lt_of_lt_of_le (by simp) hb4.size
   have hblk:w4.heap[wr.heap.size]?=some (.cells #[.int .i64 (c k 0),.int .i64 (c k 1),.int .i64 (c k 2),.int .i64 (c k 3),.int .i64 (c k 4),.int .i64 (c k 5),.int .i64 (c k 6),.int .i64 (c k 7),.slice (ad k) (ln k) (cp k)] 44):=(hb4.block _ (by simp)).trans (heap_alloc_new _ _)
   have hT4:SplitW w w4 w.heap.size w.heap.size M2 M3 n (stF (fun i=>(c i 0,c i 1,c i 2)) k) (clF (clsOf (fun i=>(c i 0,c i 1,c i 2)) eqv) k) k (firstOf (fun i=>(c i 0,c i 1,c i 2)) k):=hT.keep ⟨hb4.os,hb4.tape,hb4.output,Nat.le_of_lt hA,fun j hj=>(hb4.block j (by simp; omega)).trans (blk_alloc_lt _ _ _ hj)⟩
   clear hb4 hatk c0 c1 c2 c3 c4 c5 c6 c7 c8 hT
   generalize wr.heap.size=A at *
   have m0:=hT4.r1.cell (i:=k*3) (by omega)
   have m1:=hT4.r1.cell (i:=k*3+1) (by omega)
   have m2:=hT4.r1.cell (i:=k*3+2) (by omega)
   have g0:=hT4.r1.frozen (k*3)
   have g1:=hT4.r1.frozen (k*3+1)
   have g2:=hT4.r1.frozen (k*3+2)
   have hkn:k<n:=hkl
   have hS5:=hT4.stamp
   have hblk5:(((w4.setCell ⟨w.heap.size,k*3,none⟩ (.int .i64 (c k 0))).setCell ⟨w.heap.size,k*3+1,none⟩ (.int .i64 (c k 1))).setCell ⟨w.heap.size,k*3+2,none⟩ (.int .i64 (c k 2))).heap[A]?=some (.cells #[.int .i64 (c k 0),.int .i64 (c k 1),.int .i64 (c k 2),.int .i64 (c k 3),.int .i64 (c k 4),.int .i64 (c k 5),.int .i64 (c k 6),.int .i64 (c k 7),.slice (ad k) (ln k) (cp k)] 44):=
    (blk_setCell_other _ _ _ _ (by show A≠w.heap.size; omega)).trans ((blk_setCell_other _ _ _ _ (by show A≠w.heap.size; omega)).trans ((blk_setCell_other _ _ _ _ (by show A≠w.heap.size; omega)).trans hblk))
   have hlook:=hS5.mp.look hstk
   rw [show stV (c k 0,c k 1,c k 2) = .agg #[.int .i64 (c k 0),.int .i64 (c k 1),.int .i64 (c k 2)] from rfl] at hlook
   dsimp only at hS5 hlook
   have f1:∀s,firstOf (fun i=>(c i 0,c i 1,c i 2)) (k+1) s=(match firstOf (fun i=>(c i 0,c i 1,c i 2)) k s with | some j=>some j | none=>if s=(c k 0,c k 1,c k 2) then some k else none):=fun s=>firstOf_succ _ k s
   cases hfst:firstOf (fun i=>(c i 0,c i 1,c i 2)) k (c k 0,c k 1,c k 2) with
   | none=>
    rw [hfst] at hlook
    simp only [Option.getD_none,Option.isSome_none] at hlook
    have hmp:=hS5.mp
    clear hc hc8 hsame
    go_wp2_with (first
     | (at_mapUpdate; refine wpList_first_put _ rfl _ _ _ rfl M3 k _ hmp (by unfold maxLen; omega) (c k 0,c k 1,c k 2) hstk k (by omega) rfl rfl rfl ?_; intro w6 hM6 hg6))
    obtain⟨l1,l2,l3,l4⟩:=hS5.le
    refine⟨⟨k+1,by omega,by simp,⟨since_grown hS5.since (by omega) hg6 (by omega),⟨l1,l2,l3,Nat.lt_of_lt_of_le l4 hg6.size⟩,hS5.r1.of_block (hg6.block _ (by omega) (by intro e; have:=Option.some.inj e; omega)),(hS5.r2.of_block (hg6.block _ (by omega) (by intro e; have:=Option.some.inj e; omega))).congr (fun i hi=>?_),?_⟩⟩,by simp [RowKit.intOf]; omega⟩
    ·refine clF_next (i:=i) ?_
     unfold clsOf
     rw [hfst]
    ·have:(fun s'=>if s'=(c k 0,c k 1,c k 2) then some k else firstOf (fun i=>(c i 0,c i 1,c i 2)) k s')=firstOf (fun i=>(c i 0,c i 1,c i 2)) (k+1):=by
      funext s'
      rw [f1 s']
      by_cases e:s'=(c k 0,c k 1,c k 2)
      ·rw [if_pos e,e,hfst]; simp
      ·rw [if_neg e,if_neg e]
       cases firstOf (fun i=>(c i 0,c i 1,c i 2)) k s' <;> rfl
     rw [this] at hM6
     exact hM6
   | some j=>
    rw [hfst] at hlook
    simp only [Option.getD_some,Option.isSome_some] at hlook
    obtain⟨hjk,hjs⟩:=firstOf_some hfst
    have hsm:=hsame j k (by omega) hkl
    have hfn:firstOf (fun i=>(c i 0,c i 1,c i 2)) (k+1)=firstOf (fun i=>(c i 0,c i 1,c i 2)) k:=by
     funext s'
     rw [f1 s']
     cases e:firstOf (fun i=>(c i 0,c i 1,c i 2)) k s' with
     | some x=>rfl
     | none=>
      by_cases e2:s'=(c k 0,c k 1,c k 2)
      ·rw [e2,hfst] at e; cases e
      ·simp [e2]
    have up:∀i,i<8→(((w4.setCell ⟨w.heap.size,k*3,none⟩ (.int .i64 (c k 0))).setCell ⟨w.heap.size,k*3+1,none⟩ (.int .i64 (c k 1))).setCell ⟨w.heap.size,k*3+2,none⟩ (.int .i64 (c k 2))).cell? ⟨b,o+j*9+i,none⟩=some (.int .i64 (c j i)):=fun i hi=>(hS5.since.cell (a:=⟨b,o+j*9+i,none⟩) hb).trans (hc j (by omega) i hi)
    have c0:(((w4.setCell ⟨w.heap.size,k*3,none⟩ (.int .i64 (c k 0))).setCell ⟨w.heap.size,k*3+1,none⟩ (.int .i64 (c k 1))).setCell ⟨w.heap.size,k*3+2,none⟩ (.int .i64 (c k 2))).cell? ⟨b,o+j*9,none⟩=some (.int .i64 (c j 0)):=up 0 (by decide)
    have c1:=up 1 (by decide); have c2:=up 2 (by decide); have c3:=up 3 (by decide); have c4:=up 4 (by decide); have c5:=up 5 (by decide); have c6:=up 6 (by decide); have c7:=up 7 (by decide)
    have c8:(((w4.setCell ⟨w.heap.size,k*3,none⟩ (.int .i64 (c k 0))).setCell ⟨w.heap.size,k*3+1,none⟩ (.int .i64 (c k 1))).setCell ⟨w.heap.size,k*3+2,none⟩ (.int .i64 (c k 2))).cell? ⟨b,o+j*9+8,none⟩=some (.slice (ad j) (ln j) (cp j)):=(hS5.since.cell (a:=⟨b,o+j*9+8,none⟩) hb).trans (hc8 j (by omega))
    have a0:=cell_blk hblk5 0; have a1:=cell_blk hblk5 1; have a2:=cell_blk hblk5 2; have a3:=cell_blk hblk5 3; have a4:=cell_blk hblk5 4; have a5:=cell_blk hblk5 5; have a6:=cell_blk hblk5 6; have a7:=cell_blk hblk5 7; have a8:=cell_blk hblk5 8
    have hji:(j:Int)<(n:Int):=by omega
    have hcl:clsOf (fun i=>(c i 0,c i 1,c i 2)) eqv k=if eqv j k=true then 0 else 1:=by
     unfold clsOf
     rw [hfst]
    clear hc hc8 hsame up
    cases hq:eqv j k
    ·rw [hq] at hsm hcl
     go_wp2_with fail
     go_region_law (first
      | (go_simp; go_at_call 59; refine (hsm _ (by first | exact hS5.since | exact⟨hS5.since.os,hS5.since.tape,hS5.since.output,hS5.since.size,hS5.since.block⟩)).mono ?_; rintro e w7 ⟨rfl,hb7⟩))
     all_goals
      have hS7:=hS5.keep ⟨hb7.os,hb7.tape,hb7.output,hb7.size,hb7.block⟩
      clear hb7 c0 c1 c2 c3 c4 c5 c6 c7 c8 a0 a1 a2 a3 a4 a5 a6 a7 a8 hlook hblk5 hsm m0 m1 m2 g0 g1 g2
      have l7:=hS7.le
      have m0:=hS7.r2.cell (i:=k) hkl
      have g0:=hS7.r2.frozen k
      go_wp2
      refine⟨⟨k+1,by omega,by simp,⟨hS7.since.setCell (by show w.heap.size≤M2; omega) _,by simpa [World.setCell] using hS7.le,hS7.r1.setOther (by show w.heap.size≠M2; omega) _,(hS7.r2.set k (.int .i64 1)).congr fun i hi=>?_,by rw [hfn]; exact (hS7.mp.setCell (by show M3≠M2; omega) _).mono (by omega)⟩⟩,by simp [RowKit.intOf]; omega⟩
      unfold clF
      by_cases e:i=k
      ·rw [if_pos e,if_pos (by omega),e,hcl]; rfl
      ·rw [if_neg e]
       by_cases e2:i<k
       ·rw [if_pos e2,if_pos (by omega)]
       ·rw [if_neg e2,if_neg (by omega)]
    ·rw [hq] at hsm hcl
     go_wp2_with fail
     go_region_law (first
      | (go_simp; go_at_call 59; refine (hsm _ (by first | exact hS5.since | exact⟨hS5.since.os,hS5.since.tape,hS5.since.output,hS5.since.size,hS5.since.block⟩)).mono ?_; rintro e w7 ⟨rfl,hb7⟩))
     all_goals
      have hS7:=hS5.keep ⟨hb7.os,hb7.tape,hb7.output,hb7.size,hb7.block⟩
      clear hb7 c0 c1 c2 c3 c4 c5 c6 c7 c8 a0 a1 a2 a3 a4 a5 a6 a7 a8 hlook hblk5 hsm m0 m1 m2 g0 g1 g2
      have l7:=hS7.le
      go_wp2
      exact⟨⟨k+1,by omega,by simp,⟨hS7.since,hS7.le,hS7.r1,hS7.r2.congr fun i hi=>clF_next (by rw [hcl]; rfl),by rw [hfn]; exact hS7.mp.mono (by omega)⟩⟩,by simp [RowKit.intOf]; omega⟩
  ·have hke:k=n:=by omega
   subst hke
   clear hc hc8 hst hat hsame hao
   go_wp2
   refine bodyPost_ret (results_tmp2 rfl _ _ _) rfl ?_
   exact⟨_,M2,M3,rfl,hT⟩
end Go.Proofs
