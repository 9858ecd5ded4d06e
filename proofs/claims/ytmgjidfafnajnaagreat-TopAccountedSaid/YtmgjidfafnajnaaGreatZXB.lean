/-
  Walks of the sort of stamps, stamp.groups, stamp.Canonical and copies.Canonical. No condition but those that each theorem names.
-/
import Derived.Test.YtmgjidfafnajnaaGreatZXA
import Derived.Test.YtmgjidfafnajnaaGreatSh
import Derived.Deep.QuietTactic
import Derived.BigQuiet
import Derived.Lib.Hide
import Derived.Deep.DrawnRows
import Derived.Test.YtmgjidfafnajnaaGreatLs26
namespace Go.Proofs
open Go.RowKit Go.LS Go.Deep Go.Sort
set_option linter.all false
attribute [local go_sem ↓] Go.wp_at_zero Go.wp_at_succ
def orL:List Int→Int
 | []=>0
 | x :: l=>if x≠0 then x else orL l
set_option maxHeartbeats 2000000 in
theorem Tryz.Or_walk (b cap:Nat) (l:List Int) (w:World) (hn:l.length≤1000) (hI:IntsAt w b 0 l):Calls Tryz.prog 75 #[.slice (some ⟨b,0,none⟩) l.length cap] w fun e w'=>e = .returned (.int .i64 (orL l))∧w'=w:=by
 go_enter Tryz.func75,Tryz.ntmps75
 go_wp2
 go_loop [8] (fun i=>∃k:Nat,k≤l.length∧i = .int .i64 k∧orL l=orL (l.drop k)) (fun i=>l.length - (intOf i).toNat)
 case atStart=>exact⟨0,Nat.zero_le _,rfl,rfl⟩
 case round=>
  obtain⟨k,hk,rfl,hd⟩:=hrel
  by_cases hkl:k<l.length
  ·have hcell:=hI k hkl
   rw [Nat.zero_add] at hcell
   have hd2:l.drop k=l.getD k 0 :: l.drop (k+1):=by
    rw [List.drop_eq_getElem_cons hkl,List.getD_eq_getElem?_getD,List.getElem?_eq_getElem hkl]; rfl
   rw [hd2] at hd
   have hki:(k:Int)<(l.length:Int):=by omega
   generalize l.getD k 0=c at hcell hd
   clear hI hd2
   by_cases hc:c=0
   ·subst hc
    have HD:orL l=orL (l.drop (k+1)):=by rw [hd]; rfl
    clear hd
    have HX:=Lib.hid HD
    clear HD
    go_wp2
    go_round
    case rel=>exact⟨k+1,by omega,by simp,HX.out⟩
    case measure=>simp [intOf]; omega
   ·have HD:orL l=c:=by rw [hd]; simp [orL,hc]
    clear hd
    have HX:=Lib.hid HD
    clear HD
    go_wp2
    go_ret
    exact⟨by rw [HX.out]; rfl,rfl⟩
  ·have hke:k=l.length:=by omega
   subst hke
   rw [List.drop_length] at hd
   clear hI
   have HD:=Lib.hid hd
   clear hd
   go_wp2
   go_ret
   exact⟨by rw [HD.out]; rfl,rfl⟩
theorem Tryz.Or2 (b:Nat) (x y:Int) (t:TypeId) (fr:Nat×Nat) (w:World) (hb:w.heap[b]?=some (.cells #[.int .i64 x,.int .i64 y] t fr)):Calls Tryz.prog 75 #[.slice (some ⟨b,0,none⟩) 2 2] w fun e w'=>e = .returned (.int .i64 (orL [x,y]))∧w'=w:=
 Tryz.Or_walk b 2 [x,y] w (by simp) fun i hi=>match i,hi with
  | 0,_=>by simp [World.cell?,hb]
  | 1,_=>by simp [World.cell?,hb]
theorem Tryz.Or3 (b:Nat) (x y z:Int) (t:TypeId) (fr:Nat×Nat) (w:World) (hb:w.heap[b]?=some (.cells #[.int .i64 x,.int .i64 y,.int .i64 z] t fr)):Calls Tryz.prog 75 #[.slice (some ⟨b,0,none⟩) 3 3] w fun e w'=>e = .returned (.int .i64 (orL [x,y,z]))∧w'=w:=
 Tryz.Or_walk b 3 [x,y,z] w (by simp) fun i hi=>match i,hi with
  | 0,_=>by simp [World.cell?,hb]
  | 1,_=>by simp [World.cell?,hb]
  | 2,_=>by simp [World.cell?,hb]
def idCmp (a b:St):Int:=orL [Lib.compareInt a.2.1 b.2.1,Lib.compareInt a.2.2 b.2.2]
def stCmp (a b:St):Int:=orL [Lib.compareInt a.1 b.1,Lib.compareInt a.2.1 b.2.1,Lib.compareInt a.2.2 b.2.2]
def Grown (w w':World):Prop:=∃q os,w'=grow (w.drewN q) os
theorem Grown.refl (w:World):Grown w w:=⟨0,#[],by rw [grow_empty]; rfl⟩
theorem Grown.alloc {w w':World}(h:Grown w w') (o:Obj):Grown w (w'.alloc o):=by
 obtain⟨q,os,rfl⟩:=h
 exact⟨q,os ++ #[o],by rw [alloc_eq_grow,grow_grow]⟩
theorem Grown.drew {w w':World}(h:Grown w w'):Grown w w'.drew:=by
 obtain⟨q,os,rfl⟩:=h
 exact⟨q+1,os,rfl⟩
theorem Grown.trans {a b c:World}(h:Grown a b) (k:Grown b c):Grown a c:=by
 obtain⟨q,os,rfl⟩:=h
 obtain⟨q',os',rfl⟩:=k
 refine⟨q+q',os++os',?_⟩
 rw [← grow_grow,← World.drewN_drewN]; rfl
theorem Grown.below {w w':World}(h:Grown w w'):Below w.heap.size w w':=by
 obtain⟨q,os,rfl⟩:=h
 exact⟨rfl,rfl,rfl,by simp [grow,World.drewN],fun k hk=>by simp [grow,World.drewN,Array.getElem?_append,hk]⟩
theorem blk3 (w:World) (o1 o2 o3:Obj):(((w.alloc o1).alloc o2).alloc o3).drew.heap[w.heap.size+2]?=some o3:=by
 have h:=heap_alloc_new ((w.alloc o1).alloc o2) o3
 rw [show ((w.alloc o1).alloc o2).heap.size=w.heap.size+2 by simp] at h
 exact h
set_option maxHeartbeats 4000000 in
set_option maxRecDepth 100000 in
theorem Tryz.idCmp_walk (a b:St) (w:World):Calls Tryz.prog 119 #[stV a,stV b] w fun e w'=>e = .returned (.int .i64 (idCmp a b))∧Grown w w':=by
 obtain⟨a1,a2,a3⟩:=a
 obtain⟨b1,b2,b3⟩:=b
 unfold idCmp stV
 have hC:∃cI:Int→Int→Int,cI=Lib.compareInt∧∀x y W,Calls Tryz.prog 55 #[.int .i64 x,.int .i64 y] W fun e w'=>e = .returned (.int .i64 (cI x y))∧w'=W:=⟨_,rfl,Tryz.cmp_Compare_int⟩
 obtain⟨cI,hcI,hC⟩:=hC
 rw [← hcI]
 clear hcI
 dsimp only
 go_enter Tryz.func119,Tryz.ntmps119
 go_wp2_with fail
 go_region_held3 (fun w'=>w'.cell? ⟨w.heap.size,1,none⟩=some (.int .i64 a2)∧w'.cell? ⟨w.heap.size,2,none⟩=some (.int .i64 a3)∧w'.cell? ⟨w.heap.size+1,1,none⟩=some (.int .i64 b2)∧w'.cell? ⟨w.heap.size+1,2,none⟩=some (.int .i64 b3))
  (go_keep)
  (first
  | (go_at_call 55; (with_reducible refine (hC _ _ _).mono ?_); rintro e w' ⟨rfl,rfl⟩)
  | (go_at_call 75; refine (Tryz.Or2 (w.heap.size+2) (cI a2 b2) (cI a3 b3) 3 (0,0) _ (blk3 w _ _ _)).mono ?_; rintro e w' ⟨rfl,rfl⟩))
 go_wp2
 go_ret
 exact⟨rfl,((((Grown.refl w).alloc _).alloc _).alloc _).drew⟩
set_option maxHeartbeats 4000000 in
set_option maxRecDepth 100000 in
theorem Tryz.stCmp_walk (a b:St) (w:World):Calls Tryz.prog 110 #[stV a,stV b] w fun e w'=>e = .returned (.int .i64 (stCmp a b))∧Grown w w':=by
 obtain⟨a1,a2,a3⟩:=a
 obtain⟨b1,b2,b3⟩:=b
 unfold stCmp stV
 have hC:∃cI:Int→Int→Int,cI=Lib.compareInt∧∀x y W,Calls Tryz.prog 55 #[.int .i64 x,.int .i64 y] W fun e w'=>e = .returned (.int .i64 (cI x y))∧w'=W:=⟨_,rfl,Tryz.cmp_Compare_int⟩
 obtain⟨cI,hcI,hC⟩:=hC
 rw [← hcI]
 clear hcI
 dsimp only
 go_enter Tryz.func110,Tryz.ntmps110
 go_wp2_with fail
 go_region_held3 (fun w'=>w'.cell? ⟨w.heap.size,0,none⟩=some (.int .i64 a1)∧w'.cell? ⟨w.heap.size,1,none⟩=some (.int .i64 a2)∧w'.cell? ⟨w.heap.size,2,none⟩=some (.int .i64 a3)∧w'.cell? ⟨w.heap.size+1,0,none⟩=some (.int .i64 b1)∧w'.cell? ⟨w.heap.size+1,1,none⟩=some (.int .i64 b2)∧w'.cell? ⟨w.heap.size+1,2,none⟩=some (.int .i64 b3))
  (go_keep)
  (first
  | (go_at_call 55; (with_reducible refine (hC _ _ _).mono ?_); rintro e w' ⟨rfl,rfl⟩)
  | (go_at_call 75; refine (Tryz.Or3 (w.heap.size+2) (cI a1 b1) (cI a2 b2) (cI a3 b3) 3 (0,0) _ (blk3 w _ _ _)).mono ?_; rintro e w' ⟨rfl,rfl⟩))
 go_wp2
 go_ret
 exact⟨rfl,((((Grown.refl w).alloc _).alloc _).alloc _).drew⟩
end Go.Proofs
namespace Go.Proofs
open Go.RowKit Go.LS Go.Deep Go.Sort
set_option linter.all false
attribute [local go_sem ↓] Go.wp_at_zero Go.wp_at_succ
def natZ (l:List Nat):List Value:=l.map fun x:Nat=>Value.int .i64 (x:Int)
theorem natZ_len (l:List Nat):(natZ l).length=l.length:=by simp [natZ]
theorem natZ_app (l m:List Nat):natZ (l++m)=natZ l++natZ m:=by simp [natZ]
def finL {n:Nat}(idx:List Nat) (h:∀i∈idx,i<n):List (Fin n):=idx.pmap (fun i h=>⟨i,h⟩) h
theorem finL_len {n:Nat}(idx:List Nat) (h:∀i∈idx,i<n):(finL idx h).length=idx.length:=by simp [finL]
theorem finL_val {n:Nat}(idx:List Nat) (h:∀i∈idx,i<n):(finL idx h).map (·.val)=idx:=by
 unfold finL
 rw [List.map_pmap]
 simp
theorem finL_get {n:Nat}(idx:List Nat) (h:∀i∈idx,i<n) (k:Nat) (hk:k<(finL idx h).length):((finL idx h)[k]).val=idx[k]'(by simpa [finL] using hk):=by simp [finL]
theorem arr_bang {α : Type} [Inhabited α] (l : List α) (k : Nat) (hk : k < l.length) : l.toArray[k]! = l[k] := by simp [hk]
theorem extract_all {α:Type}(d:Array α) (n:Nat) (h:d.size=n):(d.extract 0 n).toList=d.toList:=by
 subst h; simp
theorem Tryz.sort_walk (g : Nat) (ptr : Value) (eg : ∀ args w, (callFunc g args).run Tryz.prog w = .ok (.enter g args) w) (cf : Nat → Nat → Int) (n : Nat) (v : Value) (idx : List Nat) (B : Nat) (w : World)
    (hn : ∀ i ∈ idx, i < n) (hown : w.ownsRow B 3 1 v idx.length (natZ idx)) (hlen : idx.length ≤ 1000)
    (irr : ∀ i, i < n → ¬ cf i i < 0) (tr : ∀ i j k, i < n → j < n → k < n → cf i j < 0 → cf j k < 0 → cf i k < 0) (ntr : ∀ i j k, i < n → j < n → k < n → ¬ cf i j < 0 → ¬ cf j k < 0 → ¬ cf i k < 0)
    (hc : ∀ W, (∀ k, k < w.heap.size → some k ≠ v.ownBlock → W.heap[k]? = w.heap[k]?) → ∀ i j : Nat, i < n → j < n → Calls Tryz.prog g #[.int .i64 i, .int .i64 j, ptr] W fun e w' => e = .returned (.int .i64 (cf i j)) ∧ Grown W w') :
    Calls Tryz.prog 108 #[v, .func (.func g) #[] #[ptr]] w fun e w' => ∃ idx', e = .returned (.tuple #[]) ∧ idx'.Perm idx ∧ idx'.Pairwise (fun i j => ¬ cf j i < 0) ∧ w'.ownsRow B 3 1 v idx.length (natZ idx') ∧ w.grownBy w' v.ownBlock := by
  have hnone : ∀ p cap, v = .slice p 0 cap → idx = [] → Calls Tryz.prog 108 #[v, .func (.func g) #[] #[ptr]] w fun e w' => ∃ idx', e = .returned (.tuple #[]) ∧ idx'.Perm idx ∧ idx'.Pairwise (fun i j => ¬ cf j i < 0) ∧ w'.ownsRow B 3 1 v idx.length (natZ idx') ∧ w.grownBy w' v.ownBlock := by
    intro p cap hv hi
    subst hi
    have h := Tryz.slices_SortFunc_none (α := Nat) p cap (.func (.func g) #[] #[ptr]) w
    rw [← hv] at h
    refine h.mono ?_
    rintro e w' ⟨rfl, rfl⟩
    exact ⟨[], rfl, .nil, .nil, hown, ⟨rfl, rfl, rfl, Nat.le_refl _, fun _ _ _ => rfl⟩⟩
  rcases hown.2 with ⟨hv, h0⟩ | ⟨b, cap, cur, hv, hb, hcur, hcap, hmax, hsz, htake⟩
  · exact hnone none 0 hv (List.length_eq_zero_iff.1 h0)
  · by_cases hi0 : idx = []
    · exact hnone (some ⟨b, 0, none⟩) cap (by rw [hv, hi0]; rfl) hi0
    · have hpos : 0 < n := by
        cases idx with
        | nil => exact absurd rfl hi0
        | cons x l => have := hn x (by simp); omega
      haveI : Inhabited (Fin n) := ⟨⟨0, hpos⟩⟩
      have hblt : b < w.heap.size := (Array.getElem?_eq_some_iff.1 hcur).1
      have hds : (finL idx hn).toArray.size = idx.length := by simp [finL]
      rw [Nat.mul_one] at hsz htake
      have hH : Holds (fun i : Fin n => Value.int .i64 (i.val : Int)) w b 0 (finL idx hn).toArray := by
        intro j hj
        rw [hds] at hj
        refine ⟨?_, ?_⟩
        · rw [Nat.zero_add, arr_bang _ _ (by rw [finL_len]; exact hj)]
          simp only [finL_get]
          have : (cur.toList.take idx.length)[j]? = some (.int .i64 (idx[j] : Int)) := by rw [htake]; simp [natZ, hj]
          rw [List.getElem?_take, if_pos hj] at this
          simp [World.cell?, hcur]
          simpa using this
        · simp [World.frozen?, hcur]
      have hcon := Tryz.slices_SortFunc (fun i : Fin n => Value.int .i64 (i.val : Int)) (fun _ => rfl) (fun i j : Fin n => cf i.val j.val)
        ⟨fun x => by unfold ltOf; exact decide_eq_false (irr x.val x.isLt), fun x y z h1 h2 => by unfold ltOf at *; exact decide_eq_true (tr _ _ _ x.isLt y.isLt z.isLt (of_decide_eq_true h1) (of_decide_eq_true h2)), fun x y z h1 h2 => by unfold ltOf at *; exact decide_eq_false (ntr _ _ _ x.isLt y.isLt z.isLt (of_decide_eq_false h1) (of_decide_eq_false h2))⟩
        g #[ptr] b 0 cap (finL idx hn).toArray w eg ?_ hH hblt (by rw [hds]; omega)
      · rw [hds] at hcon
        rw [hv]
        refine hcon.mono ?_
        rintro e w' ⟨rfl, d', m, os, ⟨p1, p2, p3⟩, hs, rfl⟩
        have hd's : d'.size = idx.length := by rw [p1, hds]
        rw [extract_all d' _ hd's, extract_all _ _ hds] at p3
        have hcells : (sortWorld (fun i : Fin n => Value.int .i64 (i.val : Int)) w b 0 m d' os).heap[b]? = some (.cells (putCells (fun i : Fin n => Value.int .i64 (i.val : Int)) 0 d' cur) 3 (0, 0)) := by
          unfold sortWorld
          rw [heap_grow_old _ _ (by simpa [putRow, mapBlock, Sort.ahead] using hblt)]
          simp [putRow, mapBlock, Sort.ahead, Array.getElem?_modify, hcur, onCells]
        refine ⟨d'.toList.map (·.val), rfl, ?_, ?_, ⟨by rw [natZ_len, List.length_map]; simp [hd's], .inr ⟨b, cap, _, rfl, hb, hcells, hcap, hmax, by simpa [putCells] using hsz, ?_⟩⟩, ?_⟩
        · have := p3.map (·.val)
          rw [List.toList_toArray, finL_val] at this
          exact this
        · rw [List.pairwise_map, List.pairwise_iff_getElem]
          intro i j hi hj hij
          have := hs i j (Nat.zero_le _) hij (by rw [← hd's]; simpa using hj)
          unfold ltOf at this
          have := of_decide_eq_false this
          simp only [Array.getElem_toList]
          rw [getElem!_pos d' i (by simpa using hi), getElem!_pos d' j (by simpa using hj)] at this
          exact this
        · refine List.ext_getElem? fun k => ?_
          rw [Nat.mul_one, List.getElem?_take]
          split
          · rename_i hk
            have hkc : k < cur.size := by omega
            simp [putCells, natZ, hkc, hd's, hk]
          · rename_i hk
            rw [List.getElem?_eq_none]
            simp [natZ, hd's]; omega
        · refine ⟨rfl, rfl, rfl, by simp [sortWorld, putRow, mapBlock, Sort.ahead], fun k hk hne => ?_⟩
          unfold sortWorld
          rw [heap_grow_old _ _ (by simpa [putRow, mapBlock, Sort.ahead] using hk)]
          have : b ≠ k := fun e => hne (by rw [e]; rfl)
          simp [putRow, mapBlock, Sort.ahead, Array.getElem?_modify, this]
      · intro m os dk hdk x y
        have := hc (sortWorld (fun i : Fin n => Value.int .i64 (i.val : Int)) w b 0 m dk os) (fun k hk hne => by
          rw [hv] at hne
          unfold sortWorld
          rw [heap_grow_old _ _ (by simpa [putRow, mapBlock, Sort.ahead] using hk)]
          have : b ≠ k := fun e => hne (by rw [e]; rfl)
          simp [putRow, mapBlock, Sort.ahead, Array.getElem?_modify, this]) x.val y.val x.isLt y.isLt
        refine this.mono ?_
        rintro e w' ⟨rfl, q, os', rfl⟩
        exact ⟨rfl, q, os', rfl⟩
def StampsAt (w:World) (b n:Nat) (st:Nat→St):Prop:=∀i,i<n→w.cell? ⟨b,i*3,none⟩=some (.int .i64 (st i).1)∧w.cell? ⟨b,i*3+1,none⟩=some (.int .i64 (st i).2.1)∧w.cell? ⟨b,i*3+2,none⟩=some (.int .i64 (st i).2.2)
theorem StampsAt.of_block {w w':World}{b n:Nat}{st:Nat→St}(h:StampsAt w b n st) (e:w'.heap[b]?=w.heap[b]?):StampsAt w' b n st:=fun i hi=>by
 obtain⟨h1,h2,h3⟩:=h i hi
 have:=fun k=>World.cell?_of_block (a:=⟨b,k,none⟩) e
 exact⟨(this _).trans h1,(this _).trans h2,(this _).trans h3⟩
def gCmp (st:Nat→St) (i j:Nat):Int:=orL [idCmp (st i) (st j),Lib.compareInt i j]
def sCmp (st:Nat→St) (i j:Nat):Int:=stCmp (st i) (st j)
theorem Grown.cell {w w':World}(h:Grown w w'){a:Addr}(ha:a.block<w.heap.size):w'.cell? a=w.cell? a:=World.cell?_of_block (h.below.block _ ha)
theorem Grown.size {w w':World}(h:Grown w w'):w.heap.size≤w'.heap.size:=h.below.size
theorem gkeep7 {w W W':World}{L b o1 o2 o3 o4 o5 o6:Nat}{vL v1 v2 v3 v4 v5 v6:Value}(hL:L<w.heap.size) (hb:b<w.heap.size) (hg:Grown W W')
  (h:W.cell? ⟨L,0,none⟩=some vL∧W.cell? ⟨b,o1,none⟩=some v1∧W.cell? ⟨b,o2,none⟩=some v2∧W.cell? ⟨b,o3,none⟩=some v3∧W.cell? ⟨b,o4,none⟩=some v4∧W.cell? ⟨b,o5,none⟩=some v5∧W.cell? ⟨b,o6,none⟩=some v6∧Grown w W) :
  W'.cell? ⟨L,0,none⟩=some vL∧W'.cell? ⟨b,o1,none⟩=some v1∧W'.cell? ⟨b,o2,none⟩=some v2∧W'.cell? ⟨b,o3,none⟩=some v3∧W'.cell? ⟨b,o4,none⟩=some v4∧W'.cell? ⟨b,o5,none⟩=some v5∧W'.cell? ⟨b,o6,none⟩=some v6∧Grown w W':=by
 obtain⟨h0,h1,h2,h3,h4,h5,h6,hgw⟩:=h
 have hl:L<W.heap.size:=Nat.lt_of_lt_of_le hL hgw.size
 have hbb:b<W.heap.size:=Nat.lt_of_lt_of_le hb hgw.size
 exact⟨(hg.cell hl).trans h0,(hg.cell hbb).trans h1,(hg.cell hbb).trans h2,(hg.cell hbb).trans h3,(hg.cell hbb).trans h4,(hg.cell hbb).trans h5,(hg.cell hbb).trans h6,hgw.trans hg⟩
set_option maxHeartbeats 4000000 in
set_option maxRecDepth 100000 in
theorem Tryz.gCmp_walk (L b n cap:Nat) (st:Nat→St) (i j:Nat) (hi:i<n) (hj:j<n) (w:World) (hL:w.cell? ⟨L,0,none⟩=some (.slice (some ⟨b,0,none⟩) n cap)) (hS:StampsAt w b n st) (hbw:b<w.heap.size) (hLw:L<w.heap.size) :
  Calls Tryz.prog 118 #[.int .i64 i,.int .i64 j,.pointer (some ⟨L,0,none⟩)] w fun e w'=>e = .returned (.int .i64 (gCmp st i j))∧Grown w w':=by
 obtain⟨a1,a2,a3⟩:=hS i hi
 obtain⟨b1,b2,b3⟩:=hS j hj
 unfold gCmp
 have hI:∃r,r=idCmp (st i) (st j)∧∀W,Calls Tryz.prog 119 #[.agg #[.int .i64 (st i).1,.int .i64 (st i).2.1,.int .i64 (st i).2.2],.agg #[.int .i64 (st j).1,.int .i64 (st j).2.1,.int .i64 (st j).2.2]] W fun e w'=>e = .returned (.int .i64 r)∧Grown W w':=⟨_,rfl,fun W=>Tryz.idCmp_walk (st i) (st j) W⟩
 have hC:∃r,r=Lib.compareInt i j∧∀W,Calls Tryz.prog 55 #[.int .i64 i,.int .i64 j] W fun e w'=>e = .returned (.int .i64 r)∧w'=W:=⟨_,rfl,Tryz.cmp_Compare_int i j⟩
 obtain⟨rI,hrI,hI⟩:=hI
 obtain⟨rC,hrC,hC⟩:=hC
 rw [← hrI,← hrC]
 clear hrI hrC hS
 generalize st i=si at *
 generalize st j=sj at *
 obtain⟨x1,x2,x3⟩:=si
 obtain⟨y1,y2,y3⟩:=sj
 dsimp only at *
 have hi0:(0:Int)≤(i:Int):=by omega
 have hi1:(i:Int)<(n:Int):=by omega
 have hj0:(0:Int)≤(j:Int):=by omega
 have hj1:(j:Int)<(n:Int):=by omega
 go_enter Tryz.func118,Tryz.ntmps118
 go_wp2_with fail
 go_region_held3 (fun w'=>w'.cell? ⟨L,0,none⟩=some (.slice (some ⟨b,0,none⟩) n cap)∧w'.cell? ⟨b,i*3,none⟩=some (.int .i64 x1)∧w'.cell? ⟨b,i*3+1,none⟩=some (.int .i64 x2)∧w'.cell? ⟨b,i*3+2,none⟩=some (.int .i64 x3)∧w'.cell? ⟨b,j*3,none⟩=some (.int .i64 y1)∧w'.cell? ⟨b,j*3+1,none⟩=some (.int .i64 y2)∧w'.cell? ⟨b,j*3+2,none⟩=some (.int .i64 y3)∧Grown w w')
  (first | exact⟨hL,a1,a2,a3,b1,b2,b3,(Grown.refl w).drew⟩ | exact gkeep7 hLw hbw hg (by assumption) | exact gkeep7 hLw hbw ((Grown.refl _).alloc _) (by assumption) | assumption)
  (first
  | (go_at_call 55; (with_reducible refine (hC _).mono ?_); rintro e w' ⟨rfl,rfl⟩)
  | (go_at_call 119; (with_reducible refine (hI _).mono ?_); rintro e w' ⟨rfl,hg⟩)
  | (go_at_call 75; refine (Tryz.Or2 w'.heap.size rI rC 3 (0,0) _ (heap_alloc_new _ _)).mono ?_; rintro e w' ⟨rfl,rfl⟩))
 rename _∧_=>hS
 go_wp2
 go_ret
 exact⟨rfl,hS.2.2.2.2.2.2.2⟩
set_option maxHeartbeats 4000000 in
set_option maxRecDepth 100000 in
theorem Tryz.sCmp_walk (L b n cap:Nat) (st:Nat→St) (i j:Nat) (hi:i<n) (hj:j<n) (w:World) (hL:w.cell? ⟨L,0,none⟩=some (.slice (some ⟨b,0,none⟩) n cap)) (hS:StampsAt w b n st) (hbw:b<w.heap.size) (hLw:L<w.heap.size) :
  Calls Tryz.prog 109 #[.int .i64 i,.int .i64 j,.pointer (some ⟨L,0,none⟩)] w fun e w'=>e = .returned (.int .i64 (sCmp st i j))∧Grown w w':=by
 obtain⟨a1,a2,a3⟩:=hS i hi
 obtain⟨b1,b2,b3⟩:=hS j hj
 unfold sCmp
 have hI:∃r,r=stCmp (st i) (st j)∧∀W,Calls Tryz.prog 110 #[.agg #[.int .i64 (st i).1,.int .i64 (st i).2.1,.int .i64 (st i).2.2],.agg #[.int .i64 (st j).1,.int .i64 (st j).2.1,.int .i64 (st j).2.2]] W fun e w'=>e = .returned (.int .i64 r)∧Grown W w':=⟨_,rfl,fun W=>Tryz.stCmp_walk (st i) (st j) W⟩
 obtain⟨rI,hrI,hI⟩:=hI
 rw [← hrI]
 clear hrI hS
 generalize st i=si at *
 generalize st j=sj at *
 obtain⟨x1,x2,x3⟩:=si
 obtain⟨y1,y2,y3⟩:=sj
 dsimp only at *
 have hi0:(0:Int)≤(i:Int):=by omega
 have hi1:(i:Int)<(n:Int):=by omega
 have hj0:(0:Int)≤(j:Int):=by omega
 have hj1:(j:Int)<(n:Int):=by omega
 go_enter Tryz.func109,Tryz.ntmps109
 go_wp2_with fail
 go_region_held3 (fun w'=>w'.cell? ⟨L,0,none⟩=some (.slice (some ⟨b,0,none⟩) n cap)∧w'.cell? ⟨b,i*3,none⟩=some (.int .i64 x1)∧w'.cell? ⟨b,i*3+1,none⟩=some (.int .i64 x2)∧w'.cell? ⟨b,i*3+2,none⟩=some (.int .i64 x3)∧w'.cell? ⟨b,j*3,none⟩=some (.int .i64 y1)∧w'.cell? ⟨b,j*3+1,none⟩=some (.int .i64 y2)∧w'.cell? ⟨b,j*3+2,none⟩=some (.int .i64 y3)∧Grown w w')
  (first | exact⟨hL,a1,a2,a3,b1,b2,b3,(Grown.refl w).drew⟩ | exact gkeep7 hLw hbw hg (by assumption) | assumption)
  (first
  | (go_at_call 110; (with_reducible refine (hI _).mono ?_); rintro e w' ⟨rfl,hg⟩))
 rename _∧_=>hS
 go_wp2
 go_ret
 exact⟨rfl,hS.2.2.2.2.2.2.2⟩
end Go.Proofs
namespace Go.Proofs
open Go.RowKit Go.LS Go.Deep Go.Sort
set_option linter.all false
attribute [local go_sem ↓] Go.wp_at_zero Go.wp_at_succ
theorem Tryz.info159:(Tryz.prog.info? 159).map (fun i=>(i.zero,i.size,i.bytes))=some (some (.agg #[.int .i64 0,.bool false]),2,16):=by kernel_rfl
def ordL (vld:St→Bool) (st:Nat→St) (k:Nat):List Nat:=(List.range k).filter fun i=>vld (st i)
theorem ordL_succ (vld:St→Bool) (st:Nat→St) (k:Nat):ordL vld st (k+1)=ordL vld st k++(if vld (st k)=true then [k] else []):=by
 unfold ordL
 rw [List.range_succ,List.filter_append]
 congr 1
 rw [List.filter_cons]
 cases vld (st k) <;> simp
theorem ordL_len (vld:St→Bool) (st:Nat→St) (k:Nat):(ordL vld st k).length≤k:=by
 have:=List.length_filter_le (fun i=>vld (st i)) (List.range k)
 rw [List.length_range] at this
 exact this
theorem ordL_lt {vld:St→Bool}{st:Nat→St}{k i:Nat}(h:i∈ordL vld st k):i<k:=List.mem_range.1 (List.mem_filter.1 h).1
def grpZ (l:List (Nat×Bool)):List Value:=l.flatMap fun g=>[.int .i64 (g.1:Int),.bool g.2]
theorem grpZ_len (l:List (Nat×Bool)):(grpZ l).length=l.length*2:=by
 unfold grpZ
 induction l with
 | nil=>rfl
 | cons x l ih=>simp [List.flatMap_cons,ih]; omega
theorem grpZ_app (l m:List (Nat×Bool)):grpZ (l++m)=grpZ l++grpZ m:=by simp [grpZ]
theorem grpZ_get (l:List (Nat×Bool)) (x:Nat×Bool) (m:List (Nat×Bool)):(grpZ (l++x :: m))[l.length*2]?=some (.int .i64 (x.1:Int))∧(grpZ (l++x :: m))[l.length*2+1]?=some (.bool x.2):=by
 rw [grpZ_app]
 have h:=grpZ_len l
 constructor
 ·rw [List.getElem?_append_right (by omega),h,Nat.sub_self]; rfl
 ·rw [List.getElem?_append_right (by omega),h,show l.length*2+1 - l.length*2=1 by omega]; rfl
theorem grpZ_set (l:List (Nat×Bool)) (f:Nat) (d:Bool):(grpZ (l++[(f,d)])).set (l.length*2+1) (.bool true)=grpZ (l++[(f,true)]):=by
 rw [grpZ_app,grpZ_app]
 have h:=grpZ_len l
 rw [List.set_append_right _ _ (by omega),h,show l.length*2+1 - l.length*2=1 by omega]; rfl
def gstep (st:Nat→St) (cl:Nat→Int) (gs:List (Nat×Bool)) (i:Nat):List (Nat×Bool):=
 match gs.getLast? with
 | none=>gs++[(i,false)]
 | some (f,d)=>if idCmp (st f) (st i)≠0 then gs++[(i,false)] else if st f≠st i∨cl f≠cl i then gs.dropLast++[(f,true)] else gs
theorem gstep_len (st:Nat→St) (cl:Nat→Int) (gs:List (Nat×Bool)) (i:Nat):(gstep st cl gs i).length≤gs.length+1:=by
 unfold gstep
 cases gs.getLast? with
 | none=>simp
 | some x=>
  obtain⟨f,d⟩:=x
  show (if idCmp (st f) (st i)≠0 then gs++[(i,false)] else if st f≠st i∨cl f≠cl i then gs.dropLast++[(f,true)] else gs).length≤_
  split
  ·simp
  ·split
   ·simp <;> omega
   ·omega
theorem own_set {w:World}{B e size g n cap:Nat}{xs:List Value}(h:w.ownsRow B e size (.slice (some ⟨g,0,none⟩) n cap) n xs) (k:Nat) (hk:k<n*size) (u:Value) :
  (w.setCell ⟨g,k,none⟩ u).ownsRow B e size (.slice (some ⟨g,0,none⟩) n cap) n (xs.set k u):=by
 rcases h.2 with⟨h1,_⟩ | ⟨g',cap',cur,e1,hb,hc,hn,hm,hs,ht⟩
 ·cases h1
 ·cases e1
  refine⟨by rw [List.length_set]; exact h.1,.inr ⟨g,cap,cur.setIfInBounds k u,rfl,hb,?_,hn,hm,by simpa using hs,?_⟩⟩
  ·simp [World.setCell,hc,Array.getElem?_modify]
  ·rw [← ht,Array.toList_setIfInBounds,List.take_set]
structure OrdW (w wr:World) (lv v:Value) (l:List Nat):Prop where
 since:w.Since w.heap.size wr
 box:wr.heap[w.heap.size]?=some (.cells #[lv] 137 (0,0))
 own:wr.ownsRow (w.heap.size+1) 3 1 v l.length (natZ l)
theorem OrdW.le {w wr:World}{lv v:Value}{l:List Nat}(h:OrdW w wr lv v l):w.heap.size+1≤wr.heap.size:=(Array.getElem?_eq_some_iff.1 h.box).1
theorem OrdW.keep {w wr w':World}{lv v:Value}{l:List Nat}(h:OrdW w wr lv v l) (hS:wr.Since wr.heap.size w'):OrdW w w' lv v l:=
 ⟨h.since.trans (zJ9 hS (by have:=h.le; omega)),(hS.block _ (by have:=h.le; omega)).trans h.box,own_keep h.own hS⟩
theorem own_far {w:World}{B e size n:Nat}{v:Value}{xs:List Value}(h:w.ownsRow B e size v n xs){k:Nat}(hk:k<B):some k≠v.ownBlock:=fun e=>by
 have:=(h.lt k e.symm).1
 omega
theorem since_row {w wr w':World}{B:Nat}{row:Option Nat}(h:w.Since B wr) (hB:B≤wr.heap.size) (hg:wr.grownBy w' row) (hr:∀k,k<B→some k≠row):w.Since B w':=
 ⟨hg.os.trans h.os,hg.tape.trans h.tape,hg.output.trans h.output,Nat.le_trans h.size hg.size,fun k hk=>(hg.block k (by omega) (hr k hk)).trans (h.block k hk)⟩
theorem OrdW.push {w wr w':World}{lv v:Value}{l:List Nat}{g cap i:Nat}(h:OrdW w wr lv v l) (ho:w'.ownsRow (w.heap.size+1) 3 1 (.slice (some ⟨g,0,none⟩) (l.length+1) cap) (l.length+1) (natZ l++[.int .i64 (i:Int)])) (hg:wr.grownBy w' v.ownBlock) :
  OrdW w w' lv (.slice (some ⟨g,0,none⟩) (l.length+1) cap) (l++[i]):=by
 refine⟨since_row h.since (by have:=h.le; omega) hg fun k hk=>own_far h.own (by omega),(hg.block _ (by have:=h.le; omega) (own_far h.own (by omega))).trans h.box,?_⟩
 rw [List.length_append,List.length_singleton,natZ_app]
 exact ho
theorem belowSince {w w':World}(h:Below w.heap.size w w'):w.Since w.heap.size w':=⟨h.os,h.tape,h.output,h.size,h.block⟩
theorem cmpI_cases (x y:Int):(x<y∧Lib.compareInt x y = -1)∨(y<x∧Lib.compareInt x y=1)∨(x=y∧Lib.compareInt x y=0):=by
 unfold Lib.compareInt
 by_cases h1:x<y
 ·left; simp [h1]
 ·by_cases h2:y<x
  ·right; left; simp [h1,h2]
  ·right; right; simp [h1,h2]; omega
theorem idCmp_lt (a b:St):idCmp a b<0↔a.2.1<b.2.1∨(a.2.1=b.2.1∧a.2.2<b.2.2):=by
 unfold idCmp
 rcases cmpI_cases a.2.1 b.2.1 with⟨h,e⟩ | ⟨h,e⟩ | ⟨h,e⟩ <;> rcases cmpI_cases a.2.2 b.2.2 with⟨h2,e2⟩ | ⟨h2,e2⟩ | ⟨h2,e2⟩ <;> rw [e,e2] <;> simp [orL] <;> omega
theorem idCmp_zero (a b:St):idCmp a b=0↔a.2.1=b.2.1∧a.2.2=b.2.2:=by
 unfold idCmp
 rcases cmpI_cases a.2.1 b.2.1 with⟨h,e⟩ | ⟨h,e⟩ | ⟨h,e⟩ <;> rcases cmpI_cases a.2.2 b.2.2 with⟨h2,e2⟩ | ⟨h2,e2⟩ | ⟨h2,e2⟩ <;> rw [e,e2] <;> simp [orL] <;> omega
theorem gCmp_lt (st:Nat→St) (i j:Nat):gCmp st i j<0↔(st i).2.1<(st j).2.1∨((st i).2.1=(st j).2.1∧((st i).2.2<(st j).2.2∨((st i).2.2=(st j).2.2∧i<j))):=by
 unfold gCmp
 have h1:=idCmp_lt (st i) (st j)
 have h0:=idCmp_zero (st i) (st j)
 generalize idCmp (st i) (st j)=r at h1 h0 ⊢
 by_cases hr:r=0
 ·subst hr
  rcases cmpI_cases (i:Int) (j:Int) with⟨h2,e2⟩ | ⟨h2,e2⟩ | ⟨h2,e2⟩ <;> rw [e2] <;> simp [orL] <;> simp at h0 <;> omega
 ·simp [orL,hr]; omega
theorem stCmp_lt (a b:St):stCmp a b<0↔a.1<b.1∨(a.1=b.1∧(a.2.1<b.2.1∨(a.2.1=b.2.1∧a.2.2<b.2.2))):=by
 unfold stCmp
 rcases cmpI_cases a.1 b.1 with⟨h0,e0⟩ | ⟨h0,e0⟩ | ⟨h0,e0⟩ <;> rcases cmpI_cases a.2.1 b.2.1 with⟨h,e⟩ | ⟨h,e⟩ | ⟨h,e⟩ <;> rcases cmpI_cases a.2.2 b.2.2 with⟨h2,e2⟩ | ⟨h2,e2⟩ | ⟨h2,e2⟩ <;> rw [e0,e,e2] <;> simp [orL] <;> omega
structure G2W (w wr:World) (lv v5:Value) (idx:List Nat) (v8:Value) (gs:List (Nat×Bool)):Prop where
 ord:OrdW w wr lv v5 idx
 own:wr.ownsRow (w.heap.size+1) 159 2 v8 gs.length (grpZ gs)
 ne:v8.ownBlock=none∨v8.ownBlock≠v5.ownBlock
theorem G2W.keep {w wr w':World}{lv v5 v8:Value}{idx:List Nat}{gs:List (Nat×Bool)}(h:G2W w wr lv v5 idx v8 gs) (hS:wr.Since wr.heap.size w'):G2W w w' lv v5 idx v8 gs:=
 ⟨h.ord.keep hS,own_keep h.own hS,h.ne⟩
theorem G2W.push {w wr w':World}{lv v5 v8:Value}{idx:List Nat}{gs:List (Nat×Bool)}{g cap i m:Nat}(h:G2W w wr lv v5 idx v8 gs) (hm:gs.length=m) (ho:w'.ownsRow (w.heap.size+1) 159 2 (.slice (some ⟨g,0,none⟩) (m+1) cap) (m+1) (grpZ gs++[.int .i64 (i:Int),.bool false]))
  (hg:wr.grownBy w' v8.ownBlock) (hat:v8.ownBlock=some g∨g=wr.heap.size):G2W w w' lv v5 idx (.slice (some ⟨g,0,none⟩) (m+1) cap) (gs++[(i,false)]):=by
 subst hm
 have hne5:v5.ownBlock=none∨v5.ownBlock≠v8.ownBlock:=by
  rcases h.ne with e | e
  ·rw [e]; cases v5.ownBlock <;> simp
  ·exact .inr (Ne.symm e)
 refine⟨⟨since_row h.ord.since (by have:=h.ord.le; omega) hg fun k hk=>own_far h.own (by omega),(hg.block _ (by have:=h.ord.le; omega) (own_far h.own (by omega))).trans h.ord.box,h.ord.own.kept hg hne5⟩,?_,.inr ?_⟩
 ·rw [List.length_append,List.length_singleton,grpZ_app]; exact ho
 ·show some g≠_
  intro e
  have hx:=(h.ord.own.lt g e.symm).2
  rcases hat with e' | e'
  ·rcases h.ne with e2 | e2
   ·rw [e2] at e'; cases e'
   ·exact e2 (e'.trans e)
  ·omega
theorem G2W.disp {w wr:World}{lv v5:Value}{idx:List Nat}{init:List (Nat×Bool)}{g cap f:Nat}{d:Bool}(h:G2W w wr lv v5 idx (.slice (some ⟨g,0,none⟩) (init.length+1) cap) (init++[(f,d)])) :
  G2W w (wr.setCell ⟨g,init.length*2+1,none⟩ (.bool true)) lv v5 idx (.slice (some ⟨g,0,none⟩) (init.length+1) cap) (init++[(f,true)]):=by
 have hlt:=h.own.lt g rfl
 have hown:=h.own
 rw [List.length_append,List.length_singleton] at hown
 refine⟨⟨h.ord.since.setCell (by show w.heap.size≤g; omega) _,(blk_setCell_other _ _ _ _ (by show w.heap.size≠g; omega)).trans h.ord.box,?_⟩,?_,h.ne⟩
 ·exact h.ord.own.kept (row:=some g) ⟨rfl,rfl,rfl,by simp [World.setCell],fun k hk hne=>blk_setCell_other _ _ _ _ (by intro e; exact hne (by rw [e]))⟩ (by
   rcases h.ne with e | e
   ·cases e
   ·exact .inr (Ne.symm e))
 ·rw [List.length_append,List.length_singleton]
  have:=own_set hown (init.length*2+1) (by omega) (.bool true)
  rw [grpZ_set] at this
  exact this
theorem gstep_nil (st:Nat→St) (cl:Nat→Int) (i:Nat):gstep st cl [] i=[(i,false)]:=rfl
theorem gstep_app (st:Nat→St) (cl:Nat→Int) (init:List (Nat×Bool)) (f:Nat) (d:Bool) (i:Nat):gstep st cl (init++[(f,d)]) i=if idCmp (st f) (st i)≠0 then (init++[(f,d)])++[(i,false)] else if st f≠st i∨cl f≠cl i then init++[(f,true)] else init++[(f,d)]:=by
 unfold gstep
 rw [List.getLast?_append]
 simp
theorem foldl_lt (st:Nat→St) (cl:Nat→Int) (n:Nat):∀ (idx:List Nat) (gs:List (Nat×Bool)),(∀g∈gs,g.1<n)→(∀i∈idx,i<n)→∀g∈idx.foldl (gstep st cl) gs,g.1<n
 | [],gs,h,_=>h
 | i :: idx,gs,h,hi=>by
  refine foldl_lt st cl n idx (gstep st cl gs i) ?_ fun j hj=>hi j (List.mem_cons_of_mem _ hj)
  have h1:i<n:=hi i (by simp)
  rcases List.eq_nil_or_concat gs with rfl | ⟨init,⟨f,d⟩,rfl⟩
  ·intro g hg; rw [gstep_nil] at hg; simp at hg; subst hg; exact h1
  ·rw [List.concat_eq_append] at h ⊢
   rw [gstep_app]
   have hf:f<n:=h (f,d) (by simp)
   intro g hg
   split at hg
   ·simp at hg
    rcases hg with hg | rfl | rfl
    ·exact h g (by simp [hg])
    ·exact hf
    ·exact h1
   ·split at hg
    ·simp at hg
     rcases hg with hg | rfl
     ·exact h g (by simp [hg])
     ·exact hf
    ·exact h g hg
theorem foldl_len (st:Nat→St) (cl:Nat→Int):∀ (idx:List Nat) (gs:List (Nat×Bool)),(idx.foldl (gstep st cl) gs).length≤gs.length+idx.length
 | [],gs=>by simp
 | i :: idx,gs=>by
  have h1:=foldl_len st cl idx (gstep st cl gs i)
  have h2:=gstep_len st cl gs i
  simp only [List.foldl_cons,List.length_cons]
  omega
theorem Grown.cellk {w W W':World}(h:Grown w W) (hg:Grown W W'){B o:Nat}{v:Value}(hB:B<w.heap.size) (hv:W.cell? ⟨B,o,none⟩=some v):W'.cell? ⟨B,o,none⟩=some v:=
 (hg.cell (a:=⟨B,o,none⟩) (Nat.lt_of_lt_of_le hB h.size)).trans hv
theorem Grown.since {w w':World}(h:Grown w w'):w.Since w.heap.size w':=belowSince h.below
theorem own_form {w:World}{B e size n:Nat}{v:Value}{xs:List Value}(h:w.ownsRow B e size v n xs):∃ao cap,v = .slice ao n cap∧(0<n→∃g,ao=some ⟨g,0,none⟩∧B≤g∧g<w.heap.size):=by
 rcases h.2 with⟨h1,h0⟩ | ⟨g,cap,cur,hv,hb,hg,_⟩
 ·subst h0; exact⟨none,0,h1,fun h=>absurd h (by omega)⟩
 ·exact⟨_,cap,hv,fun _=>⟨g,rfl,hb,(Array.getElem?_eq_some_iff.1 hg).1⟩⟩
theorem foldl_take {α β:Type}(f:β→α→β) (b:β) (l:List α) (k:Nat) (h:k<l.length):(l.take (k+1)).foldl f b=f ((l.take k).foldl f b) l[k]:=by
 rw [List.take_succ_eq_append_getElem h,List.foldl_append]; rfl
theorem natZ_get (l:List Nat) (k:Nat) (h:k<l.length):(natZ l)[k]?=some (.int .i64 (l[k]:Int)):=by simp [natZ,h]
theorem Tryz.eq36:EqOK Tryz.prog 36 [.int .i64 0,.int .i64 0,.int .i64 0]:=eqOKi [(3,.int .i64 0),(3,.int .i64 0),(3,.int .i64 0)] (by kernel_rfl) (by kernel_rfl) (by kernel_rfl) (by kernel_rfl) (by kernel_rfl)
set_option maxRecDepth 100000 in
theorem stNeq (x y:Operand) (a b:St) (W:World):(eqGuard .neq 36 x y (stV a) (stV b)).run Tryz.prog W = .ok () W∧(binOp .neq 36 (stV a) (stV b)).run Tryz.prog W = .ok (.bool (decide (a≠b))) W:=by
 have h:=Tryz.eq36 W [.int .i64 a.1,.int .i64 a.2.1,.int .i64 a.2.2] [.int .i64 b.1,.int .i64 b.2.1,.int .i64 b.2.2] rfl rfl .neq x y (.inr rfl)
 have h4:(eqGuard .neq 36 x y (stV a) (stV b)).run Tryz.prog W = .ok () W:=run_eqGuard_agg W _ 36 x y _ _ (by kernel_rfl)
 refine⟨h4,?_⟩
 have h5:(do eqGuard .neq 36 x y (stV a) (stV b); binOp .neq 36 (stV a) (stV b):Sem Value).run Tryz.prog W = .ok (.bool (if BinOp.neq = .eql then cellEq [.int .i64 a.1,.int .i64 a.2.1,.int .i64 a.2.2] [.int .i64 b.1,.int .i64 b.2.1,.int .i64 b.2.2] else !cellEq [.int .i64 a.1,.int .i64 a.2.1,.int .i64 a.2.2] [.int .i64 b.1,.int .i64 b.2.1,.int .i64 b.2.2])) W:=h
 rw [Sem.run_bind,h4,Result.andThen_ok] at h5
 rw [h5]
 obtain⟨a1,a2,a3⟩:=a
 obtain⟨b1,b2,b3⟩:=b
 simp only [cellEq,reduceCtorEq,if_false]
 congr 2
 rw [Bool.eq_iff_iff]
 simp
theorem wpQuiet_stNeq {ops:Array Oper}{C:World→Prop}{Q:Act→Prop}{a:Act}{o:Oper}{rest:List Oper}(hg:o.guard=none) (x y:Operand) (t':TypeId) (ho:o.op = .binOp .neq 36 x y t') (sa sb:St) (hx:a.eval x=stV sa) (hy:a.eval y=stV sb) (r:Bool) (hr:decide (sa≠sb)=r)
  (h:wpQuiet Tryz.prog ops C Q rest (a.put o.dst (.bool r))):wpQuiet Tryz.prog ops C Q (o :: rest) a:=by
 subst hr
 refine wpQuiet_step fun K hK=>?_
 have hw:Region.wanted o (yielded ops a.tmps)=true:=by simp [Region.wanted,hg]
 rw [if_pos hw]
 have hrun:∀W,(execOp a.eval o).run Tryz.prog W = .ok (.value (.bool (decide (sa≠sb)))) W:=fun W=>by
  obtain⟨e1,e2⟩:=stNeq x y sa sb W
  simp only [execOp,ho,hx,hy,Sem.run_bind,e1,e2,Result.andThen_ok,Sem.run_pure]
 exact⟨_,fun W _=>by unfold Oper.quietAt; rw [hrun W]; exact⟨rfl,rfl⟩,hK _ h⟩
theorem own_base {w:World}{B B' e size n:Nat}{v:Value}{xs:List Value}(h:w.ownsRow B e size v n xs) (hB:B'≤B):w.ownsRow B' e size v n xs:=by
 refine⟨h.1,?_⟩
 rcases h.2 with h1 | ⟨g,cap,cur,e1,hb,rest⟩
 ·exact .inl h1
 ·exact .inr ⟨g,cap,cur,e1,Nat.le_trans hB hb,rest⟩
def GroupsPost (n:Nat) (st:Nat→St) (cl:Nat→Int) (vld:St→Bool) (w:World) (e:Ending) (w':World):Prop:=
 ∃ (v:Value) (gs:List (Nat×Bool)) (idx:List Nat),e = .returned v∧idx.Perm (ordL vld st n)∧idx.Pairwise (fun i j=>¬ gCmp st j i<0)∧gs=idx.foldl (gstep st cl) []∧w.Since w.heap.size w'∧w'.ownsRow w.heap.size 159 2 v gs.length (grpZ gs)
set_option maxHeartbeats 64000000 in
set_option maxRecDepth 100000 in
theorem Tryz.groups_walk (b c n cap cap2:Nat) (st:Nat→St) (cl:Nat→Int) (vld:St→Bool) (w:World) (hn:n≤1000) (hbw:b<w.heap.size) (hcw:c<w.heap.size) (hS:StampsAt w b n st) (hcl:∀i,i<n→w.cell? ⟨c,i,none⟩=some (.int .i64 (cl i)))
  (hV:∀i,i<n→∀W,Calls Tryz.prog 117 #[.agg #[.int .i64 (st i).1,.int .i64 (st i).2.1,.int .i64 (st i).2.2]] W fun e w'=>e = .returned (.bool (vld (st i)))∧Below W.heap.size W w') :
  Calls Tryz.prog 107 #[.slice (some ⟨b,0,none⟩) n cap,.slice (some ⟨c,0,none⟩) n cap2] w (GroupsPost n st cl vld w):=by
 obtain⟨i3,hi3,hz30,hz31,hz32⟩:=info_parts Tryz.info3
 obtain⟨i9,hi9,hz90,hz91,hz92⟩:=info_parts Tryz.info159
 go_enter Tryz.func107,Tryz.ntmps107
 go_wp2
 have h0:OrdW w (w.alloc (.cells #[.slice (some ⟨b,0,none⟩) n cap] 137)) (.slice (some ⟨b,0,none⟩) n cap) (.slice none 0 0) (ordL vld st 0):=
  ⟨(World.Since.refl _ _).alloc (Nat.le_refl _) _,heap_alloc_new _ _,World.ownsRow_nil _ _ _ _⟩
 generalize w.alloc (.cells #[.slice (some ⟨b,0,none⟩) n cap] 137)=w0 at h0 ⊢
 have hbox0:w0.cell? ⟨w.heap.size,0,none⟩=some (.slice (some ⟨b,0,none⟩) n cap):=cell_blk h0.box 0
 go_wp2
 go_loopw [5,15] (fun v5 v wr=>∃k:Nat,k≤n∧v = .int .i64 k∧OrdW w wr (.slice (some ⟨b,0,none⟩) n cap) v5 (ordL vld st k)) (fun _ v _=>n - (RowKit.intOf v).toNat)
 case atStart=>exact⟨0,Nat.zero_le _,rfl,h0⟩
 case round=>
  obtain⟨k,hk,rfl,hT⟩:=hrel
  clear h0 hbox0
  by_cases hkl:k<n
  ·have up:∀ {o:Nat} {v:Value},w.cell? ⟨b,o,none⟩=some v→wr.cell? ⟨b,o,none⟩=some v:=fun {o v} h=>(hT.since.cell (a:=⟨b,o,none⟩) hbw).trans h
   obtain⟨a1,a2,a3⟩:=hS k hkl
   have c1:=up a1; have c2:=up a2; have c3:=up a3
   have hVk:=hV k hkl
   have hsucc:=ordL_succ vld st k
   have hlen:=ordL_len vld st k
   have hki:(k:Int)<(n:Int):=by omega
   clear up a1 a2 a3 hV hS hcl
   generalize st k=s at *
   obtain⟨s1,s2,s3⟩:=s
   dsimp only at *
   cases hv:vld (s1,s2,s3)
   ·rw [hv] at hVk hsucc
    clear hv
    go_wp2_with fail
    refine (hVk _).mono ?_
    rintro e w4 ⟨rfl,hb4⟩
    have hT4:=hT.keep ⟨hb4.os,hb4.tape,hb4.output,by have:=hb4.size; simp at this; omega,fun j hj=>(hb4.block j (by simp; omega)).trans (blk_alloc_lt _ _ _ hj)⟩
    clear hb4 hVk c1 c2 c3 hT
    go_wp2
    exact⟨⟨k+1,by omega,by simp,by rw [hsucc]; simpa using hT4⟩,by simp [RowKit.intOf]; omega⟩
   ·rw [hv] at hVk hsucc
    clear hv
    go_wp2_with fail
    refine (hVk _).mono ?_
    rintro e w4 ⟨rfl,hb4⟩
    have hT4:=hT.keep ⟨hb4.os,hb4.tape,hb4.output,by have:=hb4.size; simp at this; omega,fun j hj=>(hb4.block j (by simp; omega)).trans (blk_alloc_lt _ _ _ hj)⟩
    clear hb4 hVk c1 c2 c3 hT
    have hTa:=hT4.keep ((World.Since.refl _ _).alloc (Nat.le_refl _) (.cells #[.int .i64 (k:Int)] 3))
    have hle:=hT4.le
    go_wp2_with (refine wpList_append_lies _ rfl (.tmp 22) (.tmp 24) 22 rfl (w.heap.size+1) 3 i3 (.int .i64 0) 1 8 Tryz.underlying22 hi3 hz30 hz31 hz32 rfl (by decide) _ _ _ rfl hTa.own ⟨w4.heap.size,0,none⟩ 1 1 [.int .i64 (k:Int)] rfl rfl (World.news_of_block (cs := #[.int .i64 (k:Int)]) (t:=3) (fr:=(0,0)) (heap_alloc_new w4 _)) (by simp [Value.oneCell']) (by omega) (by unfold maxLen; omega) (by omega) (by simp; omega) _ rfl ?_; intro gg ncap wA hownA hgrow hat hlt2)
    exact⟨⟨k+1,by omega,by simp,by rw [hsucc]; simpa using hTa.push hownA hgrow⟩,by simp [RowKit.intOf]; omega⟩
  ·have hke:k=n:=by omega
   subst hke
   have hlenO:=ordL_len vld st k
   have hbox:∀W:World,(∀j,j<wr.heap.size→some j≠u5.ownBlock→W.heap[j]?=wr.heap[j]?)→W.cell? ⟨w.heap.size,0,none⟩=some (.slice (some ⟨b,0,none⟩) k cap)∧StampsAt W b k st∧b<W.heap.size∧w.heap.size<W.heap.size:=fun W hW=>by
    have e1:W.heap[w.heap.size]?=_:=(hW _ (by have:=hT.le; omega) (own_far hT.own (by omega))).trans hT.box
    have e2:W.heap[b]?=w.heap[b]?:=(hW _ (by have:=hT.le; omega) (own_far hT.own (by omega))).trans (hT.since.block b hbw)
    exact⟨cell_blk e1 0,hS.of_block e2,(Array.getElem?_eq_some_iff.1 (e2.trans (Array.getElem?_eq_some_iff.2 ⟨hbw,rfl⟩))).1,(Array.getElem?_eq_some_iff.1 e1).1⟩
   have hsort:=Tryz.sort_walk 118 (.pointer (some ⟨w.heap.size,0,none⟩)) (enters_of Tryz.func118 (by kernel_rfl) rfl) (gCmp st) k u5 (ordL vld st k) (w.heap.size+1) wr (fun i h=>ordL_lt h) hT.own (by omega)
    (fun i _=>by rw [gCmp_lt]; omega) (fun i j l _ _ _=>by rw [gCmp_lt,gCmp_lt,gCmp_lt]; omega) (fun i j l _ _ _=>by rw [gCmp_lt,gCmp_lt,gCmp_lt]; omega)
    (fun W hW i j hi hj=>by
     obtain⟨h1,h2,h3,h4⟩:=hbox W hW
     exact Tryz.gCmp_walk w.heap.size b k cap st i j hi hj W h1 h2 h3 h4)
   clear hbox hV
   go_wp2_with fail
   refine hsort.mono ?_
   rintro e w2 ⟨idx,rfl,hperm,hpw,hown2,hg2⟩
   have hlen2:(ordL vld st k).length=idx.length:=hperm.length_eq.symm
   have hO2:OrdW w w2 (.slice (some ⟨b,0,none⟩) k cap) u5 idx:=⟨since_row hT.since (by have:=hT.le; omega) hg2 fun j hj=>own_far hT.own (by omega),(hg2.block _ (by have:=hT.le; omega) (own_far hT.own (by omega))).trans hT.box,by rw [← hlen2]; exact hown2⟩
   have hmem:∀i∈idx,i<k:=fun i hi=>ordL_lt (hperm.mem_iff.1 hi)
   rw [hlen2] at hlenO
   have HPW:=Lib.hid hpw
   clear hpw
   clear hsort hg2 hown2 hT hlen2
   obtain⟨ao,co,rfl,hao⟩:=own_form hO2.own
   have hid:∀i j:Nat,i<k→j<k→∀W,Calls Tryz.prog 119 #[.agg #[.int .i64 (st i).1,.int .i64 (st i).2.1,.int .i64 (st i).2.2],.agg #[.int .i64 (st j).1,.int .i64 (st j).2.1,.int .i64 (st j).2.2]] W fun e w'=>e = .returned (.int .i64 (idCmp (st i) (st j)))∧Grown W w':=fun i j _ _ W=>Tryz.idCmp_walk (st i) (st j) W
   have hneq:∀ (x y:Operand) (a b:St) (W:World),(eqGuard .neq 36 x y (stV a) (stV b)).run Tryz.prog W = .ok () W∧(binOp .neq 36 (stV a) (stV b)).run Tryz.prog W = .ok (.bool (decide (a≠b))) W:=fun x y a b W=>stNeq x y a b W
   go_wp2
   go_loopw [8,32] (fun v8 v wr=>∃j:Nat,j≤idx.length∧v = .int .i64 j∧G2W w wr (.slice (some ⟨b,0,none⟩) k cap) (.slice ao idx.length co) idx v8 ((idx.take j).foldl (gstep st cl) [])) (fun _ v _=>idx.length - (RowKit.intOf v).toNat)
   case atStart=>exact⟨0,Nat.zero_le _,rfl,hO2,World.ownsRow_nil _ _ _ _,.inl rfl⟩
   case round=>
    obtain⟨j,hj,rfl,hG⟩:=hrel
    by_cases hjl:j<idx.length
    ·obtain⟨ob,rfl,hob1,hob2⟩:=hao (by omega)
     have cO:wr.cell? ⟨ob,j,none⟩=some (.int .i64 (idx[j]:Int)):=(hG.ord.own.cellAt j (by omega)).trans (natZ_get idx j hjl)
     have hik:idx[j]<k:=hmem _ (List.getElem_mem hjl)
     have hstep:=foldl_take (gstep st cl) [] idx j hjl
     have hgs:=foldl_lt st cl k (idx.take j) [] (by simp) (fun i hi=>hmem i (List.mem_of_mem_take hi))
     have hgl:=foldl_len st cl (idx.take j) []
     rw [List.length_take,List.length_nil] at hgl
     generalize (idx.take j).foldl (gstep st cl) []=gs at *
     generalize idx[j]=i at *
     have hjI:(j:Int)<(idx.length:Int):=by omega
     have hj0:(0:Int)≤(j:Int):=by omega
     have hle:=hG.ord.le
     clear hao hmem hO2 hob1 hob2
     rcases List.eq_nil_or_concat gs with rfl | ⟨init,⟨f,d⟩,rfl⟩
     ·obtain⟨a8,c8,rfl,-⟩:=own_form hG.own
      clear hS hcl hid hneq
      have HS:=Lib.hid hstep
      clear hstep
      go_wp2_with fail
      go_quiet ((go_at_call 119; fail))
      rename_i nq _
      have hGq:G2W w (wr.drewN nq) (.slice (some ⟨b,0,none⟩) k cap) (.slice (some ⟨ob,0,none⟩) idx.length co) idx (.slice a8 0 c8) []:=hG.keep (Grown.since ⟨nq,#[],by rw [grow_empty]⟩)
      have hlq:w.heap.size+1≤(wr.drewN nq).heap.size:=hle
      clear hle
      generalize wr.drewN nq=wq at *
      have hGa:=hGq.keep ((World.Since.refl _ _).alloc (Nat.le_refl _) (.cells #[.int .i64 (i:Int),.bool false] 159))
      have hown0:(wq.alloc (.cells #[.int .i64 (i:Int),.bool false] 159)).ownsRow (w.heap.size+1) 159 2 (.slice a8 0 c8) 0 []:=hGa.own
      have hbase:w.heap.size+1≤(wq.alloc (.cells #[.int .i64 (i:Int),.bool false] 159)).heap.size:=by simp; omega
      go_wp2_with (at_builtin; refine wpList_append_lies _ rfl (.tmp 57) (.tmp 60) 156 rfl (w.heap.size+1) 159 i9 (.agg #[.int .i64 0,.bool false]) 2 16 Tryz.underlying156 hi9 hz90 hz91 hz92 rfl (by decide) _ _ _ rfl hown0 ⟨wq.heap.size,0,none⟩ 1 1 [.int .i64 (i:Int),.bool false] rfl rfl (World.news_of_block (cs := #[.int .i64 (i:Int),.bool false]) (t:=159) (fr:=(0,0)) (heap_alloc_new wq _)) (by simp [Value.oneCell']) (by omega) (by unfold maxLen; omega) (by omega) hbase _ rfl ?_; intro gg ncap wA hownA hgrow hat hlt2)
      exact⟨⟨j+1,by omega,by simp,by rw [HS.out,gstep_nil]; exact hGa.push rfl hownA hgrow hat⟩,by simp [RowKit.intOf]; omega⟩
     ·rw [List.concat_eq_append] at hG hgs hgl hstep
      rw [gstep_app] at hstep
      have HS:=Lib.hid hstep
      clear hstep
      have hfk:f<k:=hgs (f,d) (by simp)
      have hlen8:(init++[(f,d)]).length=init.length+1:=by simp
      have hown8:=hG.own
      rw [hlen8] at hown8
      obtain⟨g8,c8,rfl,hg81,hg82⟩:=hown8.form (by omega)
      have hgl2:init.length≤999:=by rw [hlen8] at hgl; omega
      clear hgs hgl
      obtain⟨cF,cD⟩:=grpZ_get init (f,d) []
      have cF:=(hown8.cellAt (init.length*2) (by omega)).trans cF
      have cD:=(hown8.cellAt (init.length*2+1) (by omega)).trans cD
      have hfz:=hown8.frozenAt (init.length*2+1)
      clear hlen8 hown8
      dsimp only at cF cD
      have up:∀ {o:Nat} {v:Value},w.cell? ⟨b,o,none⟩=some v→wr.cell? ⟨b,o,none⟩=some v:=fun {o v} h=>(hG.ord.since.cell (a:=⟨b,o,none⟩) hbw).trans h
      obtain⟨f1,f2,f3⟩:=hS f hfk
      obtain⟨i1,i2,i3'⟩:=hS i hik
      have f1:=up f1; have f2:=up f2; have f3:=up f3; have i1:=up i1; have i2:=up i2; have i3':=up i3'
      have gF:wr.cell? ⟨c,f,none⟩=some (.int .i64 (cl f)):=(hG.ord.since.cell (a:=⟨c,f,none⟩) hcw).trans (hcl f hfk)
      have gI:wr.cell? ⟨c,i,none⟩=some (.int .i64 (cl i)):=(hG.ord.since.cell (a:=⟨c,i,none⟩) hcw).trans (hcl i hik)
      have cB:wr.cell? ⟨w.heap.size,0,none⟩=some (.slice (some ⟨b,0,none⟩) k cap):=cell_blk hG.ord.box 0
      have hidfi:=hid f i hfk hik
      have hneqfi:=fun x y W=>hneq x y (st f) (st i) W
      unfold stV at hneqfi
      clear hS hcl hid hneq up
      generalize st f=sf at *
      generalize st i=si at *
      generalize cl f=clf at *
      generalize cl i=cli at *
      obtain⟨x1,x2,x3⟩:=sf
      obtain⟨y1,y2,y3⟩:=si
      dsimp only at *
      have hi0:(0:Int)≤(i:Int):=by omega
      have hi1:(i:Int)<(k:Int):=by omega
      have hf0:(0:Int)≤(f:Int):=by omega
      have hf1:(f:Int)<(k:Int):=by omega
      generalize idCmp (x1,x2,x3) (y1,y2,y3)=r at *
      have hm0:(0:Int)≤(init.length:Int):=by omega
      have hd0:decide ((init.length:Int)<0)=false:=by simp
      have hm1:(init.length:Int)<((init.length+1:Nat):Int):=by omega
      have hm2:(init.length:Int)<(init.length:Int)+1:=by omega
      have hB1:w.heap.size<wr.heap.size:=by omega
      have hB2:b<wr.heap.size:=by omega
      have hB3:c<wr.heap.size:=by omega
      go_wp2_with fail
      go_region_held3 (fun w'=>w'.cell? ⟨w.heap.size,0,none⟩=some (.slice (some ⟨b,0,none⟩) k cap)∧w'.cell? ⟨g8,init.length*2,none⟩=some (.int .i64 (f:Int))∧w'.cell? ⟨b,f*3,none⟩=some (.int .i64 x1)∧w'.cell? ⟨b,f*3+1,none⟩=some (.int .i64 x2)∧w'.cell? ⟨b,f*3+2,none⟩=some (.int .i64 x3)∧w'.cell? ⟨b,i*3,none⟩=some (.int .i64 y1)∧w'.cell? ⟨b,i*3+1,none⟩=some (.int .i64 y2)∧w'.cell? ⟨b,i*3+2,none⟩=some (.int .i64 y3)∧Grown wr w')
       (first | exact⟨cB,cF,f1,f2,f3,i1,i2,i3',(Grown.refl wr).drew⟩ | (obtain⟨q1,q2,q3,q4,q5,q6,q7,q8,q9⟩:=‹_∧_›; exact⟨q9.cellk hg hB1 q1,q9.cellk hg hg82 q2,q9.cellk hg hB2 q3,q9.cellk hg hB2 q4,q9.cellk hg hB2 q5,q9.cellk hg hB2 q6,q9.cellk hg hB2 q7,q9.cellk hg hB2 q8,q9.trans hg⟩) | assumption)
       (first | (go_at_call 119; (with_reducible refine (hidfi _).mono ?_); rintro e w' ⟨rfl,hg⟩))
      rename _∧_=>hS1
      obtain⟨cB,cF,f1,f2,f3,i1,i2,i3',hgr⟩:=hS1
      rename World=>w5
      have gF:=(Grown.refl wr).cellk hgr hB3 gF
      have gI:=(Grown.refl wr).cellk hgr hB3 gI
      have cD:=(Grown.refl wr).cellk hgr hg82 cD
      have hfz:w5.frozen? ⟨g8,init.length*2+1,none⟩=false:=(World.frozen?_of_block (a:=⟨g8,init.length*2+1,none⟩) (hgr.below.block _ hg82)).trans hfz
      have hG5:=hG.keep hgr.since
      have hle5:w.heap.size+1≤w5.heap.size:=hG5.ord.le
      clear hG hgr hidfi hB1 hB2 hB3 hg81 hg82 hle
      by_cases hr:r=0
      ·subst hr
       have HSt:=HS.out
       rw [if_neg (by simp)] at HSt
       by_cases hst:((x1,x2,x3):St)=(y1,y2,y3)
       ·clear hneqfi
        by_cases hcl:clf=cli
        ·rw [if_neg (by simp [hst,hcl])] at HSt
         have HS2:=Lib.hid HSt
         clear HSt HS
         go_wp2_with fail
         refine wp_region_quiet_lit (by kernel_rfl) (by kernel_rfl) ?_
         repeat (quiet_step (fail))
         refine wpQuiet_stNeq rfl _ _ _ rfl (x1,x2,x3) (y1,y2,y3) rfl rfl false (decide_eq_false (by simpa using hst)) ?_
         repeat (quiet_step (fail))
         refine wpQuiet_nil ?_
         intro _ hw'
         obtain⟨nq,rfl⟩:=hw'
         have hGq:=hG5.keep (Grown.since (w':=w5.drewN nq) ⟨nq,#[],by rw [grow_empty]⟩)
         go_wp2
         exact⟨⟨j+1,by omega,by simp,by rw [HS2.out]; exact hGq⟩,by simp [RowKit.intOf]; omega⟩
        ·rw [if_pos (.inr hcl)] at HSt
         have HS2:=Lib.hid HSt
         clear HSt HS
         go_wp2_with fail
         refine wp_region_quiet_lit (by kernel_rfl) (by kernel_rfl) ?_
         repeat (quiet_step (fail))
         refine wpQuiet_stNeq rfl _ _ _ rfl (x1,x2,x3) (y1,y2,y3) rfl rfl false (decide_eq_false (by simpa using hst)) ?_
         repeat (quiet_step (fail))
         refine wpQuiet_nil ?_
         intro _ hw'
         obtain⟨nq,rfl⟩:=hw'
         have hGq:=hG5.keep (Grown.since (w':=w5.drewN nq) ⟨nq,#[],by rw [grow_empty]⟩)
         have hD:=hGq.disp
         go_wp2
         exact⟨⟨j+1,by omega,by simp,by rw [HS2.out]; exact hD⟩,by simp [RowKit.intOf]; omega⟩
       ·have hq1:∀ (x y:Operand) (W:World),(eqGuard .neq 36 x y (.agg #[.int .i64 x1,.int .i64 x2,.int .i64 x3]) (.agg #[.int .i64 y1,.int .i64 y2,.int .i64 y3])).run Tryz.prog W = .ok () W:=fun x y W=>(hneqfi x y W).1
        have hq2:∀ (W:World),(binOp .neq 36 (.agg #[.int .i64 x1,.int .i64 x2,.int .i64 x3]) (.agg #[.int .i64 y1,.int .i64 y2,.int .i64 y3])).run Tryz.prog W = .ok (.bool true) W:=fun W=>by
         rw [(hneqfi (.tmp 0) (.tmp 0) W).2,decide_eq_true hst]
        clear hneqfi
        rw [if_pos (.inl hst)] at HSt
        have HS2:=Lib.hid HSt
        clear HSt HS hst
        go_wp2_with fail
        go_big_quiet (fail)
        rename_i nq _
        have hGq:=hG5.keep (Grown.since (w':=w5.drewN nq) ⟨nq,#[],by rw [grow_empty]⟩)
        have hD:=hGq.disp
        clear hq1 hq2
        go_wp2
        exact⟨⟨j+1,by omega,by simp,by rw [HS2.out]; exact hD⟩,by simp [RowKit.intOf]; omega⟩
      ·have hGa:=hG5.keep ((World.Since.refl _ _).alloc (Nat.le_refl _) (.cells #[.int .i64 (i:Int),.bool false] 159))
       have hown0:(w5.alloc (.cells #[.int .i64 (i:Int),.bool false] 159)).ownsRow (w.heap.size+1) 159 2 (.slice (some ⟨g8,0,none⟩) (init.length+1) c8) (init.length+1) (grpZ (init++[(f,d)])):=by
        have:=hGa.own
        rw [List.length_append,List.length_singleton] at this
        exact this
       have hbase:w.heap.size+1≤(w5.alloc (.cells #[.int .i64 (i:Int),.bool false] 159)).heap.size:=by simp; omega
       go_wp2_with (at_builtin; refine wpList_append_lies _ rfl (.tmp 57) (.tmp 60) 156 rfl (w.heap.size+1) 159 i9 (.agg #[.int .i64 0,.bool false]) 2 16 Tryz.underlying156 hi9 hz90 hz91 hz92 rfl (by decide) _ _ _ rfl hown0 ⟨w5.heap.size,0,none⟩ 1 1 [.int .i64 (i:Int),.bool false] rfl rfl (World.news_of_block (cs := #[.int .i64 (i:Int),.bool false]) (t:=159) (fr:=(0,0)) (heap_alloc_new w5 _)) (by simp [Value.oneCell']) (by omega) (by unfold maxLen; omega) (by omega) hbase _ rfl ?_; intro gg ncap wA hownA hgrow hat hlt2)
       exact⟨⟨j+1,by omega,by simp,by rw [HS.out,if_pos hr]; exact hGa.push (by simp) hownA hgrow hat⟩,by simp [RowKit.intOf]; omega⟩
    ·have hje:j=idx.length:=by omega
     subst hje
     rw [List.take_length] at hG
     clear hS hcl hid hneq hao hO2 hmem
     go_wp2
     refine bodyPost_ret (results_tmp rfl _ _ _) rfl ?_
     exact⟨u8,_,idx,rfl,hperm,by simpa using HPW.out,rfl,hG.ord.since,own_base hG.own (by omega)⟩
end Go.Proofs
namespace Go.Proofs
open Go.RowKit Go.LS Go.Deep Go.Sort
set_option linter.all false
attribute [local go_sem ↓] Go.wp_at_zero Go.wp_at_succ
theorem grpZ_at (l:List (Nat×Bool)) (i:Nat) (h:i<l.length):(grpZ l)[i*2]?=some (.int .i64 (l[i].1:Int))∧(grpZ l)[i*2+1]?=some (.bool l[i].2):=by
 have:=grpZ_get (l.take i) l[i] (l.drop (i+1))
 rw [show l.take i++l[i] :: l.drop (i+1)=l by rw [← List.drop_eq_getElem_cons h,List.take_append_drop],List.length_take,Nat.min_eq_left (by omega)] at this
 exact this
def cntL (gs:List (Nat×Bool)) (j:Nat):List Nat:=((gs.take j).filter fun g => !g.2).map (·.1)
theorem cntL_succ (gs:List (Nat×Bool)) (j:Nat) (h:j<gs.length):cntL gs (j+1)=cntL gs j++(if gs[j].2=true then [] else [gs[j].1]):=by
 unfold cntL
 rw [List.take_succ_eq_append_getElem h,List.filter_append,List.map_append]
 congr 1
 rw [List.filter_cons]
 cases gs[j].2 <;> simp
theorem cntL_len (gs:List (Nat×Bool)) (j:Nat):(cntL gs j).length≤j:=by
 unfold cntL
 rw [List.length_map]
 have:=List.length_filter_le (fun g:Nat×Bool => !g.2) (gs.take j)
 rw [List.length_take] at this
 omega
theorem cntL_mem {gs:List (Nat×Bool)}{j i:Nat}(h:i∈cntL gs j):∃g∈gs,g.1=i:=by
 unfold cntL at h
 obtain⟨g,hg,rfl⟩:=List.mem_map.1 h
 exact⟨g,List.mem_of_mem_take (List.mem_filter.1 hg).1,rfl⟩
theorem G2W.pushOrd {w wr w':World}{lv v5 v8:Value}{idx:List Nat}{gs:List (Nat×Bool)}{g cap i:Nat}(h:G2W w wr lv v5 idx v8 gs) (ho:w'.ownsRow (w.heap.size+1) 3 1 (.slice (some ⟨g,0,none⟩) (idx.length+1) cap) (idx.length+1) (natZ idx++[.int .i64 (i:Int)]))
  (hg:wr.grownBy w' v5.ownBlock) (hat:v5.ownBlock=some g∨g=wr.heap.size):G2W w w' lv (.slice (some ⟨g,0,none⟩) (idx.length+1) cap) (idx++[i]) v8 gs:=by
 refine⟨h.ord.push ho hg,h.own.kept hg ?_,?_⟩
 ·exact h.ne
 ·cases e8:v8.ownBlock with
  | none=>exact .inl rfl
  | some x=>
   right
   have hx:=(h.own.lt x e8).2
   rcases hat with e | e
   ·rcases h.ne with e' | e'
    ·rw [e'] at e8; cases e8
    ·rw [e,e8] at e'; exact e'
   ·intro e'; have e'':x=g:=Option.some.inj e'; omega
def CanonPost (n:Nat) (st:Nat→St) (cl:Nat→Int) (vld:St→Bool) (w:World) (e:Ending) (w':World):Prop:=
 ∃ (v:Value) (idx res:List Nat),e = .returned (.tuple #[v,.int .i64 0])∧idx.Perm (ordL vld st n)∧idx.Pairwise (fun i j=>¬ gCmp st j i<0)∧res.Perm (((idx.foldl (gstep st cl) []).filter fun g => !g.2).map (·.1))∧res.Pairwise (fun i j=>¬ sCmp st j i<0)∧w.Since w.heap.size w'∧w'.ownsRow w.heap.size 3 1 v res.length (natZ res)
theorem sCmp_lt (st:Nat→St) (i j:Nat):sCmp st i j<0↔(st i).1<(st j).1∨((st i).1=(st j).1∧((st i).2.1<(st j).2.1∨((st i).2.1=(st j).2.1∧(st i).2.2<(st j).2.2))):=stCmp_lt _ _
set_option maxHeartbeats 8000000 in
set_option maxRecDepth 100000 in
theorem Tryz.canon_walk (b c n cap cap2:Nat) (st:Nat→St) (cl:Nat→Int) (vld:St→Bool) (w:World) (hn:n≤300) (hbw:b<w.heap.size) (hcw:c<w.heap.size) (hS:StampsAt w b n st) (hcl:∀i,i<n→w.cell? ⟨c,i,none⟩=some (.int .i64 (cl i)))
  (hV:∀i,i<n→∀W,Calls Tryz.prog 117 #[.agg #[.int .i64 (st i).1,.int .i64 (st i).2.1,.int .i64 (st i).2.2]] W fun e w'=>e = .returned (.bool (vld (st i)))∧Below W.heap.size W w') :
  Calls Tryz.prog 72 #[.slice (some ⟨b,0,none⟩) n cap,.slice (some ⟨c,0,none⟩) n cap2] w (CanonPost n st cl vld w):=by
 obtain⟨i3,hi3,hz30,hz31,hz32⟩:=info_parts Tryz.info3
 go_enter Tryz.func72,Tryz.ntmps72
 have hgr:∀W,w.Since w.heap.size W→Calls Tryz.prog 107 #[.slice (some ⟨b,0,none⟩) n cap,.slice (some ⟨c,0,none⟩) n cap2] W (GroupsPost n st cl vld W):=fun W hW=>
  Tryz.groups_walk b c n cap cap2 st cl vld W (by omega) (Nat.lt_of_lt_of_le hbw hW.size) (Nat.lt_of_lt_of_le hcw hW.size) (hS.of_block (hW.block b hbw)) (fun i hi=>(hW.cell (a:=⟨c,i,none⟩) hcw).trans (hcl i hi)) hV
 clear hcl hV
 go_wp2_with fail
 refine (hgr _ ((World.Since.refl _ _).alloc (Nat.le_refl _) _)).mono ?_
 rintro e w2 ⟨v8,gs,idx,rfl,hperm,hpw,hgs,hs2,hown2⟩
 rw [show (w.alloc (.cells #[.slice (some ⟨b,0,none⟩) n cap] 137)).heap.size=w.heap.size+1 by simp] at hown2
 have hbox2:w2.heap[w.heap.size]?=some (.cells #[.slice (some ⟨b,0,none⟩) n cap] 137):=(hs2.block _ (by simp)).trans (heap_alloc_new _ _)
 have hsw:w.Since w.heap.size w2:=((World.Since.refl _ _).alloc (Nat.le_refl _) _).trans (zJ9 hs2 (by simp))
 have hlenI:idx.length≤n:=by rw [hperm.length_eq]; exact ordL_len vld st n
 have hltI:∀i∈idx,i<n:=fun i hi=>ordL_lt (hperm.mem_iff.1 hi)
 have hglen:gs.length≤n:=by
  have:=foldl_len st cl idx []
  rw [← hgs,List.length_nil] at this
  omega
 have hgl:∀g∈gs,g.1<n:=by
  rw [hgs]; exact foldl_lt st cl n idx [] (by simp) hltI
 have hG0:G2W w w2 (.slice (some ⟨b,0,none⟩) n cap) (.slice none 0 0) (cntL gs 0) v8 gs:=⟨⟨hsw,hbox2,World.ownsRow_nil _ _ _ _⟩,hown2,by
  cases h:v8.ownBlock with
  | none=>exact .inl rfl
  | some x=>exact .inr (fun e=>by cases e)⟩
 have HP:=Lib.hid (And.intro hperm (And.intro hpw hgs))
 clear hperm hpw hgs hs2 hown2 hsw hgr
 obtain⟨a8,c8,rfl,hao⟩:=own_form hG0.own
 have hbox0:w2.cell? ⟨w.heap.size,0,none⟩=some (.slice (some ⟨b,0,none⟩) n cap):=cell_blk hbox2 0
 clear hbox2 hbox0
 go_wp2
 go_loopw [6,18] (fun v6 v wr=>∃j:Nat,j≤gs.length∧v = .int .i64 j∧G2W w wr (.slice (some ⟨b,0,none⟩) n cap) v6 (cntL gs j) (.slice a8 gs.length c8) gs) (fun _ v _=>gs.length - (RowKit.intOf v).toNat)
 case atStart=>exact⟨0,Nat.zero_le _,rfl,hG0⟩
 case round=>
  obtain⟨j,hj,rfl,hG⟩:=hrel
  clear hG0
  by_cases hjl:j<gs.length
  ·obtain⟨ob,rfl,hob1,hob2⟩:=hao (by omega)
   obtain⟨k0,k1⟩:=grpZ_at gs j hjl
   have c0:=(hG.own.cellAt (j*2) (by omega)).trans k0
   have c1:=(hG.own.cellAt (j*2+1) (by omega)).trans k1
   have hsucc:=cntL_succ gs j hjl
   have hlen:=cntL_len gs j
   have hjI:(j:Int)<(gs.length:Int):=by omega
   have hj0:(0:Int)≤(j:Int):=by omega
   have hle:=hG.ord.le
   clear k0 k1 hao hS hgl
   generalize gs[j]=g at *
   obtain⟨f,d⟩:=g
   dsimp only at *
   have hGa:=hG.keep ((World.Since.refl _ _).alloc (Nat.le_refl _) (.cells #[.int .i64 (f:Int),.bool d] 159))
   cases d
   ·have hGb:=hGa.keep ((World.Since.refl _ _).alloc (Nat.le_refl _) (.cells #[.int .i64 (f:Int)] 3))
    go_wp2_with (refine wpList_append_lies _ rfl (.tmp 25) (.tmp 28) 22 rfl (w.heap.size+1) 3 i3 (.int .i64 0) 1 8 Tryz.underlying22 hi3 hz30 hz31 hz32 rfl (by decide) _ _ _ rfl hGb.ord.own ⟨wr.heap.size+1,0,none⟩ 1 1 [.int .i64 (f:Int)] rfl rfl (World.news_of_block (cs := #[.int .i64 (f:Int)]) (t:=3) (fr:=(0,0)) (by have:=heap_alloc_new (wr.alloc (.cells #[.int .i64 (f:Int),.bool false] 159)) (.cells #[.int .i64 (f:Int)] 3); simpa using this)) (by simp [Value.oneCell']) (by omega) (by unfold maxLen; omega) (by omega) (by simp; omega) _ rfl ?_; intro gg ncap wA hownA hgrow hat hlt2)
    exact⟨⟨j+1,by omega,by simp,by rw [hsucc]; exact hGb.pushOrd hownA hgrow hat⟩,by simp [RowKit.intOf]; omega⟩
   ·go_wp2
    exact⟨⟨j+1,by omega,by simp,by rw [hsucc]; simpa using hGa⟩,by simp [RowKit.intOf]; omega⟩
  ·have hje:j=gs.length:=by omega
   subst hje
   have hcl:(cntL gs gs.length).length≤gs.length:=cntL_len gs gs.length
   have hmem:∀i∈cntL gs gs.length,i<n:=fun i hi=>by
    obtain⟨g,hg,rfl⟩:=cntL_mem hi
    exact hgl g hg
   have hcnt:cntL gs gs.length=(gs.filter fun g => !g.2).map (·.1):=by unfold cntL; rw [List.take_length]
   generalize cntL gs gs.length=cn at *
   have hbox:∀W:World,(∀j,j<wr.heap.size→some j≠u6.ownBlock→W.heap[j]?=wr.heap[j]?)→W.cell? ⟨w.heap.size,0,none⟩=some (.slice (some ⟨b,0,none⟩) n cap)∧StampsAt W b n st∧b<W.heap.size∧w.heap.size<W.heap.size:=fun W hW=>by
    have e1:W.heap[w.heap.size]?=_:=(hW _ (by have:=hG.ord.le; omega) (own_far hG.ord.own (by omega))).trans hG.ord.box
    have e2:W.heap[b]?=w.heap[b]?:=(hW _ (by have:=hG.ord.le; omega) (own_far hG.ord.own (by omega))).trans (hG.ord.since.block b hbw)
    exact⟨cell_blk e1 0,hS.of_block e2,(Array.getElem?_eq_some_iff.1 (e2.trans (Array.getElem?_eq_some_iff.2 ⟨hbw,rfl⟩))).1,(Array.getElem?_eq_some_iff.1 e1).1⟩
   have hsort:=Tryz.sort_walk 109 (.pointer (some ⟨w.heap.size,0,none⟩)) (enters_of Tryz.func109 (by kernel_rfl) rfl) (sCmp st) n u6 cn (w.heap.size+1) wr hmem hG.ord.own (by omega)
    (fun i _=>by rw [sCmp_lt]; omega) (fun i j l _ _ _=>by rw [sCmp_lt,sCmp_lt,sCmp_lt]; omega) (fun i j l _ _ _=>by rw [sCmp_lt,sCmp_lt,sCmp_lt]; omega)
    (fun W hW i j hi hj=>by
     obtain⟨h1,h2,h3,h4⟩:=hbox W hW
     exact Tryz.sCmp_walk w.heap.size b n cap st i j hi hj W h1 h2 h3 h4)
   obtain⟨a6,c6,rfl,-⟩:=own_form hG.ord.own
   have hcI:¬ ((300:Int)<(cn.length:Int)):=by omega
   have HC:=Lib.hid hcnt
   clear hbox hS hgl hao hcnt
   go_wp2_with fail
   refine hsort.mono ?_
   rintro e w3 ⟨res,rfl,hperm2,hpw2,hown3,hg3⟩
   have hsw3:=since_row hG.ord.since (by have:=hG.ord.le; omega) hg3 fun j hj=>own_far hG.ord.own (by omega)
   obtain⟨hp1,hp2,hp3⟩:=HP.out
   have hfin:CanonPost n st cl vld w (.returned (.tuple #[.slice a6 cn.length c6,.int .i64 0])) w3:=
    ⟨_,idx,res,rfl,hp1,hp2.imp (fun h=>by omega),by rw [← hp3,← HC.out]; exact hperm2,hpw2.imp (fun h=>by omega),hsw3,by rw [hperm2.length_eq]; exact own_base hown3 (by omega)⟩
   have HF:=Lib.hid hfin
   clear hfin hpw2 hperm2 hp1 hp2 hp3 HP hown3 hg3 hsort
   go_wp2
   refine bodyPost_ret (results_tmp2 rfl _ _ _) rfl ?_
   exact HF.out
end Go.Proofs
namespace Go.Proofs
open Go.RowKit Go.LS Go.Deep Go.Sort
set_option linter.all false
theorem CanonPost.base {n:Nat}{st:Nat→St}{cl:Nat→Int}{vld:St→Bool}{w w1:World}{e:Ending}{w':World}(h:CanonPost n st cl vld w1 e w') (hs:w.Since w.heap.size w1):CanonPost n st cl vld w e w':=by
 obtain⟨v,idx,res,h1,h2,h3,h4,h5,h6,h7⟩:=h
 exact⟨v,idx,res,h1,h2,h3,h4,h5,hs.trans (zJ9 h6 hs.size),own_base h7 hs.size⟩
theorem SplitW.canon {w wr:World}{B M1 M2 M3 n nn:Nat}{st:Nat→St}{cl:Nat→Int}{m:St→Option Nat}(h:SplitW w wr B M1 M2 M3 n (stF st n) (clF cl n) nn m) (vld:St→Bool) (hn:n≤300)
  (hV:∀i,i<n→∀W,Calls Tryz.prog 117 #[.agg #[.int .i64 (st i).1,.int .i64 (st i).2.1,.int .i64 (st i).2.2]] W fun e w'=>e = .returned (.bool (vld (st i)))∧Below W.heap.size W w') :
  Calls Tryz.prog 72 #[.slice (some ⟨M1,0,none⟩) n n,.slice (some ⟨M2,0,none⟩) n n] wr (CanonPost n st cl vld wr):=by
 obtain⟨l1,l2,l3,l4⟩:=h.le
 refine Tryz.canon_walk M1 M2 n n n st cl vld wr hn (by omega) (by omega) (fun i hi=>⟨?_,?_,?_⟩) (fun i hi=>?_) hV
 ·rw [h.r1.cell (i:=i*3) (by omega)]
  unfold stF
  rw [if_pos (by omega),if_pos (by omega),show i*3 / 3=i by omega]
 ·rw [h.r1.cell (i:=i*3+1) (by omega)]
  unfold stF
  rw [if_pos (by omega),if_neg (by omega),if_pos (by omega),show (i*3+1) / 3=i by omega]
 ·rw [h.r1.cell (i:=i*3+2) (by omega)]
  unfold stF
  rw [if_pos (by omega),if_neg (by omega),if_neg (by omega),show (i*3+2) / 3=i by omega]
 ·rw [h.r2.cell (i:=i) (by omega)]
  unfold clF
  rw [if_pos hi]
set_option maxHeartbeats 4000000 in
set_option maxRecDepth 100000 in
theorem Tryz.CanonE_walk (ao:Option Addr) (b o n cap:Nat) (c:Nat→Nat→Int) (eqv:Nat→Nat→Bool) (vld:St→Bool) (w:World)
  (hn:n≤300) (hao:0<n→ao=some ⟨b,o,none⟩∧b<w.heap.size) (hc:∀i,i<n→∀j,j<8→w.cell? ⟨b,o+i*8+j,none⟩=some (.int .i64 (c i j)))
  (hst:∀i,i<n→stOK (c i 0,c i 1,c i 2))
  (hat:∀i,i<n→∀w1,w.Since w.heap.size w1→Calls Tryz.prog 42 #[.agg #[.int .i64 (c i 0),.int .i64 (c i 1),.int .i64 (c i 2),.int .i64 (c i 3),.int .i64 (c i 4),.int .i64 (c i 5),.int .i64 (c i 6),.int .i64 (c i 7)]] w1 fun e w'=>e = .returned (.agg #[.int .i64 (c i 0),.int .i64 (c i 1),.int .i64 (c i 2)])∧Below w1.heap.size w1 w')
  (hsame:∀i j,i<n→j<n→∀w1,w.Since w.heap.size w1→Calls Tryz.prog 43 #[.agg #[.int .i64 (c i 0),.int .i64 (c i 1),.int .i64 (c i 2),.int .i64 (c i 3),.int .i64 (c i 4),.int .i64 (c i 5),.int .i64 (c i 6),.int .i64 (c i 7)],.agg #[.int .i64 (c j 0),.int .i64 (c j 1),.int .i64 (c j 2),.int .i64 (c j 3),.int .i64 (c j 4),.int .i64 (c j 5),.int .i64 (c j 6),.int .i64 (c j 7)]] w1 fun e w'=>e = .returned (.bool (eqv i j))∧Below w1.heap.size w1 w')
  (hV:∀i,i<n→∀W,Calls Tryz.prog 117 #[.agg #[.int .i64 (c i 0),.int .i64 (c i 1),.int .i64 (c i 2)]] W fun e w'=>e = .returned (.bool (vld (c i 0,c i 1,c i 2)))∧Below W.heap.size W w') :
  Calls Tryz.prog 41 #[.slice ao n cap,.func (.func 42) #[] #[],.func (.func 43) #[] #[]] w (CanonPost n (fun i=>(c i 0,c i 1,c i 2)) (clsOf (fun i=>(c i 0,c i 1,c i 2)) eqv) vld w):=by
 have h1:=Tryz.SplitE_walk ao b o n cap c eqv w (by omega) hao hc hst hat hsame
 have h2:∀M1 M2 M3 w1,SplitW w w1 w.heap.size M1 M2 M3 n (stF (fun i=>(c i 0,c i 1,c i 2)) n) (clF (clsOf (fun i=>(c i 0,c i 1,c i 2)) eqv) n) n (firstOf (fun i=>(c i 0,c i 1,c i 2)) n)→Calls Tryz.prog 72 #[.slice (some ⟨M1,0,none⟩) n n,.slice (some ⟨M2,0,none⟩) n n] w1 (CanonPost n (fun i=>(c i 0,c i 1,c i 2)) (clsOf (fun i=>(c i 0,c i 1,c i 2)) eqv) vld w):=fun M1 M2 M3 w1 h=>
  (h.canon vld hn hV).mono fun e w' h'=>h'.base h.since
 clear hao hc hst hat hsame hV
 generalize clsOf (fun i=>(c i 0,c i 1,c i 2)) eqv=cl at *
 generalize (fun i=>(c i 0,c i 1,c i 2))=st at *
 go_enter Tryz.func41,Tryz.ntmps41
 go_wp2_with fail
 refine h1.mono ?_
 rintro e w1 ⟨M1,M2,M3,rfl,hS⟩
 have h3:=h2 M1 M2 M3 w1 hS
 clear h1 h2 hS
 go_wp2_with fail
 refine h3.mono ?_
 rintro e w2 hP
 have hP2:=hP
 obtain⟨v,idx,res,rfl,-⟩:=hP2
 have HP:=Lib.hid hP
 clear hP h3
 go_wp2
 refine bodyPost_ret (results_tmp2 rfl _ _ _) rfl ?_
 exact HP.out
set_option maxHeartbeats 4000000 in
set_option maxRecDepth 100000 in
theorem Tryz.CanonR_walk (ao:Option Addr) (b o n cap:Nat) (c:Nat→Nat→Int) (eqv:Nat→Nat→Bool) (vld:St→Bool) (w:World)
  (hn:n≤300) (hao:0<n→ao=some ⟨b,o,none⟩∧b<w.heap.size) (hc:∀i,i<n→∀j,j<6→w.cell? ⟨b,o+i*6+j,none⟩=some (.int .i64 (c i j)))
  (hst:∀i,i<n→stOK (c i 0,c i 1,c i 2))
  (hat:∀i,i<n→∀w1,w.Since w.heap.size w1→Calls Tryz.prog 51 #[.agg #[.int .i64 (c i 0),.int .i64 (c i 1),.int .i64 (c i 2),.int .i64 (c i 3),.int .i64 (c i 4),.int .i64 (c i 5)]] w1 fun e w'=>e = .returned (.agg #[.int .i64 (c i 0),.int .i64 (c i 1),.int .i64 (c i 2)])∧Below w1.heap.size w1 w')
  (hsame:∀i j,i<n→j<n→∀w1,w.Since w.heap.size w1→Calls Tryz.prog 52 #[.agg #[.int .i64 (c i 0),.int .i64 (c i 1),.int .i64 (c i 2),.int .i64 (c i 3),.int .i64 (c i 4),.int .i64 (c i 5)],.agg #[.int .i64 (c j 0),.int .i64 (c j 1),.int .i64 (c j 2),.int .i64 (c j 3),.int .i64 (c j 4),.int .i64 (c j 5)]] w1 fun e w'=>e = .returned (.bool (eqv i j))∧Below w1.heap.size w1 w')
  (hV:∀i,i<n→∀W,Calls Tryz.prog 117 #[.agg #[.int .i64 (c i 0),.int .i64 (c i 1),.int .i64 (c i 2)]] W fun e w'=>e = .returned (.bool (vld (c i 0,c i 1,c i 2)))∧Below W.heap.size W w') :
  Calls Tryz.prog 50 #[.slice ao n cap,.func (.func 51) #[] #[],.func (.func 52) #[] #[]] w (CanonPost n (fun i=>(c i 0,c i 1,c i 2)) (clsOf (fun i=>(c i 0,c i 1,c i 2)) eqv) vld w):=by
 have h1:=Tryz.SplitR_walk ao b o n cap c eqv w (by omega) hao hc hst hat hsame
 have h2:∀M1 M2 M3 w1,SplitW w w1 w.heap.size M1 M2 M3 n (stF (fun i=>(c i 0,c i 1,c i 2)) n) (clF (clsOf (fun i=>(c i 0,c i 1,c i 2)) eqv) n) n (firstOf (fun i=>(c i 0,c i 1,c i 2)) n)→Calls Tryz.prog 72 #[.slice (some ⟨M1,0,none⟩) n n,.slice (some ⟨M2,0,none⟩) n n] w1 (CanonPost n (fun i=>(c i 0,c i 1,c i 2)) (clsOf (fun i=>(c i 0,c i 1,c i 2)) eqv) vld w):=fun M1 M2 M3 w1 h=>
  (h.canon vld hn hV).mono fun e w' h'=>h'.base h.since
 clear hao hc hst hat hsame hV
 generalize clsOf (fun i=>(c i 0,c i 1,c i 2)) eqv=cl at *
 generalize (fun i=>(c i 0,c i 1,c i 2))=st at *
 go_enter Tryz.func50,Tryz.ntmps50
 go_wp2_with fail
 refine h1.mono ?_
 rintro e w1 ⟨M1,M2,M3,rfl,hS⟩
 have h3:=h2 M1 M2 M3 w1 hS
 clear h1 h2 hS
 go_wp2_with fail
 refine h3.mono ?_
 rintro e w2 hP
 have hP2:=hP
 obtain⟨v,idx,res,rfl,-⟩:=hP2
 have HP:=Lib.hid hP
 clear hP h3
 go_wp2
 refine bodyPost_ret (results_tmp2 rfl _ _ _) rfl ?_
 exact HP.out
set_option maxHeartbeats 4000000 in
set_option maxRecDepth 100000 in
theorem Tryz.CanonB_walk (ao:Option Addr) (b o n cap:Nat) (c:Nat→Nat→Int) (ad:Nat→Option Addr) (ln cp:Nat→Nat) (eqv:Nat→Nat→Bool) (vld:St→Bool) (w:World)
  (hn:n≤300) (hao:0<n→ao=some ⟨b,o,none⟩∧b<w.heap.size) (hc:∀i,i<n→∀j,j<8→w.cell? ⟨b,o+i*9+j,none⟩=some (.int .i64 (c i j)))
  (hc8:∀i,i<n→w.cell? ⟨b,o+i*9+8,none⟩=some (.slice (ad i) (ln i) (cp i)))
  (hst:∀i,i<n→stOK (c i 0,c i 1,c i 2))
  (hat:∀i,i<n→∀w1,w.Since w.heap.size w1→Calls Tryz.prog 58 #[.agg #[.int .i64 (c i 0),.int .i64 (c i 1),.int .i64 (c i 2),.int .i64 (c i 3),.int .i64 (c i 4),.int .i64 (c i 5),.int .i64 (c i 6),.int .i64 (c i 7),.slice (ad i) (ln i) (cp i)]] w1 fun e w'=>e = .returned (.agg #[.int .i64 (c i 0),.int .i64 (c i 1),.int .i64 (c i 2)])∧Below w1.heap.size w1 w')
  (hsame:∀i j,i<n→j<n→∀w1,w.Since w.heap.size w1→Calls Tryz.prog 59 #[.agg #[.int .i64 (c i 0),.int .i64 (c i 1),.int .i64 (c i 2),.int .i64 (c i 3),.int .i64 (c i 4),.int .i64 (c i 5),.int .i64 (c i 6),.int .i64 (c i 7),.slice (ad i) (ln i) (cp i)],.agg #[.int .i64 (c j 0),.int .i64 (c j 1),.int .i64 (c j 2),.int .i64 (c j 3),.int .i64 (c j 4),.int .i64 (c j 5),.int .i64 (c j 6),.int .i64 (c j 7),.slice (ad j) (ln j) (cp j)]] w1 fun e w'=>e = .returned (.bool (eqv i j))∧Below w1.heap.size w1 w')
  (hV:∀i,i<n→∀W,Calls Tryz.prog 117 #[.agg #[.int .i64 (c i 0),.int .i64 (c i 1),.int .i64 (c i 2)]] W fun e w'=>e = .returned (.bool (vld (c i 0,c i 1,c i 2)))∧Below W.heap.size W w') :
  Calls Tryz.prog 57 #[.slice ao n cap,.func (.func 58) #[] #[],.func (.func 59) #[] #[]] w (CanonPost n (fun i=>(c i 0,c i 1,c i 2)) (clsOf (fun i=>(c i 0,c i 1,c i 2)) eqv) vld w):=by
 have h1:=Tryz.SplitB_walk ao b o n cap c ad ln cp eqv w (by omega) hao hc hc8 hst hat hsame
 have h2:∀M1 M2 M3 w1,SplitW w w1 w.heap.size M1 M2 M3 n (stF (fun i=>(c i 0,c i 1,c i 2)) n) (clF (clsOf (fun i=>(c i 0,c i 1,c i 2)) eqv) n) n (firstOf (fun i=>(c i 0,c i 1,c i 2)) n)→Calls Tryz.prog 72 #[.slice (some ⟨M1,0,none⟩) n n,.slice (some ⟨M2,0,none⟩) n n] w1 (CanonPost n (fun i=>(c i 0,c i 1,c i 2)) (clsOf (fun i=>(c i 0,c i 1,c i 2)) eqv) vld w):=fun M1 M2 M3 w1 h=>
  (h.canon vld hn hV).mono fun e w' h'=>h'.base h.since
 clear hao hc hst hat hsame hV hc8
 generalize clsOf (fun i=>(c i 0,c i 1,c i 2)) eqv=cl at *
 generalize (fun i=>(c i 0,c i 1,c i 2))=st at *
 go_enter Tryz.func57,Tryz.ntmps57
 go_wp2_with fail
 refine h1.mono ?_
 rintro e w1 ⟨M1,M2,M3,rfl,hS⟩
 have h3:=h2 M1 M2 M3 w1 hS
 clear h1 h2 hS
 go_wp2_with fail
 refine h3.mono ?_
 rintro e w2 hP
 have hP2:=hP
 obtain⟨v,idx,res,rfl,-⟩:=hP2
 have HP:=Lib.hid hP
 clear hP h3
 go_wp2
 refine bodyPost_ret (results_tmp2 rfl _ _ _) rfl ?_
 exact HP.out
end Go.Proofs
