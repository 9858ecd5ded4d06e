/-
  The walk of attendance.Fold. No condition but those that each theorem names.
-/
import Derived.Test.YtmgjidfafnajnaaGreatZXE
namespace Go.Proofs
open Go.RowKit Go.LS Go.Deep Go.Sort
set_option linter.all false
def regV (g off:Nat):Value:=.agg #[.pointer (some ⟨g,off,none⟩)]
theorem grown_sets {w W:World}{g o:Nat}{v:Value}(h:w.grownBy W (some g)) (hg:g<w.heap.size):w.grownBy (W.setCell ⟨g,o,none⟩ v) (some g):=
 ⟨h.os,h.tape,h.output,by simp only [World.setCell,Array.size_modify]; exact h.size,fun k hk hne=>(blk_setCell_other _ _ _ _ (by intro e; exact hne (by rw [e]))).trans (h.block k hk hne)⟩
theorem grown_refl (w:World) (row:Option Nat):w.grownBy w row:=⟨rfl,rfl,rfl,Nat.le_refl _,fun _ _ _=>rfl⟩
theorem grown_alloc {w W:World}{row:Option Nat}(h:w.grownBy W row) (o:Obj):w.grownBy (W.alloc o) row:=
 ⟨h.os,h.tape,h.output,by simp; have:=h.size; omega,fun k hk hne=>(blk_alloc_lt _ _ _ (by have:=h.size; omega)).trans (h.block k hk hne)⟩
theorem grown_drew {w W:World}{row:Option Nat}(h:w.grownBy W row):w.grownBy W.drew row:=⟨h.os,h.tape,h.output,h.size,h.block⟩
set_option maxHeartbeats 4000000 in
set_option maxRecDepth 100000 in
theorem Tryz.present_walk (g off n c B:Nat) (xs:List Value) (mi:Int) (w:World) (h:w.ownsRow B 60 5 (.slice (some ⟨g,0,none⟩) n c) n xs) (ho:off+4<n*5) :
  Calls Tryz.prog 80 #[regV g off,.int .i64 mi] w fun e w'=>e = .returned (.int .i64 0)∧w.grownBy w' (some g)∧w'.ownsRow B 60 5 (.slice (some ⟨g,0,none⟩) n c) n (((xs.set (off+1) (.int .i64 1)).set (off+2) (.int .i64 (-1))).set (off+3) (.int .i64 (-1))):=by
 have hx:∀j,j<n*5→∃u,w.cell? ⟨g,j,none⟩=some u:=fun j hj=>by
  have hl:j<xs.length:=by rw [h.1]; exact hj
  exact⟨_,(h.cellAt j hj).trans (List.getElem?_eq_getElem hl)⟩
 obtain⟨z1,c1⟩:=hx (off+1) (by omega); obtain⟨z2,c2⟩:=hx (off+2) (by omega); obtain⟨z3,c3⟩:=hx (off+3) (by omega)
 have f1:=h.frozenAt (off+1); have f2:=h.frozenAt (off+2); have f3:=h.frozenAt (off+3)
 have hg:=(h.lt g rfl).2
 have n1:=World.new_ne w _ c1; have n2:=World.new_ne w _ c2; have n3:=World.new_ne w _ c3
 have k1:¬ g=w.heap.size:=by omega
 have k2:¬ w.heap.size=g:=by omega
 have hfin:∀W:World,W=((((w.setCell ⟨g,off+1,none⟩ (.int .i64 1)).setCell ⟨g,off+2,none⟩ (.int .i64 (-1))).setCell ⟨g,off+3,none⟩ (.int .i64 (-1))).alloc (.cells #[.pointer (some ⟨g,off,none⟩)] 120)).drew→w.grownBy W (some g)∧W.ownsRow B 60 5 (.slice (some ⟨g,0,none⟩) n c) n (((xs.set (off+1) (.int .i64 1)).set (off+2) (.int .i64 (-1))).set (off+3) (.int .i64 (-1))):=fun W e=>by
  subst e
  exact⟨grown_drew (grown_alloc (grown_sets (grown_sets (grown_sets (grown_refl _ _) hg) hg) hg) _),own_alloc (own_set (own_set (own_set h (off+1) (by omega) _) (off+2) (by omega) _) (off+3) (by omega) _) _⟩
 have hbox:∀U:World,U.heap.size=w.heap.size→(U.alloc (.cells #[.pointer (some ⟨g,off,none⟩)] 120)).drew.cell? ⟨w.heap.size,0,none⟩=some (.pointer (some ⟨g,off,none⟩)):=fun U hU=>by
  rw [← hU]; exact cell_blk (heap_alloc_new U (.cells #[.pointer (some ⟨g,off,none⟩)] 120)) 0
 have HF:=Lib.hid hfin
 unfold regV
 clear h hfin hx
 go_enter Tryz.func80,Tryz.ntmps80
 go_wp2_with fail
 go_region_held3 (fun w'=>w'.cell? ⟨w.heap.size,0,none⟩=some (.pointer (some ⟨g,off,none⟩)))
  (first | (with_reducible exact hbox _ rfl) | (with_reducible exact hbox _ (by simp [World.setCell])) | go_keep)
  (fail)
 go_wp2
 go_ret
 exact⟨rfl,HF.out _ rfl⟩
set_option maxHeartbeats 4000000 in
set_option maxRecDepth 100000 in
theorem Tryz.absent_walk (g off n c B:Nat) (xs:List Value) (mi:Int) (w:World) (h:w.ownsRow B 60 5 (.slice (some ⟨g,0,none⟩) n c) n xs) (ho:off+4<n*5) :
  Calls Tryz.prog 81 #[regV g off,.int .i64 mi] w fun e w'=>e = .returned (.int .i64 0)∧w.grownBy w' (some g)∧w'.ownsRow B 60 5 (.slice (some ⟨g,0,none⟩) n c) n (((xs.set (off+1) (.int .i64 2)).set (off+2) (.int .i64 (-1))).set (off+3) (.int .i64 (-1))):=by
 have hx:∀j,j<n*5→∃u,w.cell? ⟨g,j,none⟩=some u:=fun j hj=>by
  have hl:j<xs.length:=by rw [h.1]; exact hj
  exact⟨_,(h.cellAt j hj).trans (List.getElem?_eq_getElem hl)⟩
 obtain⟨z1,c1⟩:=hx (off+1) (by omega); obtain⟨z2,c2⟩:=hx (off+2) (by omega); obtain⟨z3,c3⟩:=hx (off+3) (by omega)
 have f1:=h.frozenAt (off+1); have f2:=h.frozenAt (off+2); have f3:=h.frozenAt (off+3)
 have hg:=(h.lt g rfl).2
 have n1:=World.new_ne w _ c1; have n2:=World.new_ne w _ c2; have n3:=World.new_ne w _ c3
 have k1:¬ g=w.heap.size:=by omega
 have k2:¬ w.heap.size=g:=by omega
 have hfin:∀W:World,W=((((w.setCell ⟨g,off+1,none⟩ (.int .i64 2)).setCell ⟨g,off+2,none⟩ (.int .i64 (-1))).setCell ⟨g,off+3,none⟩ (.int .i64 (-1))).alloc (.cells #[.pointer (some ⟨g,off,none⟩)] 120)).drew→w.grownBy W (some g)∧W.ownsRow B 60 5 (.slice (some ⟨g,0,none⟩) n c) n (((xs.set (off+1) (.int .i64 2)).set (off+2) (.int .i64 (-1))).set (off+3) (.int .i64 (-1))):=fun W e=>by
  subst e
  exact⟨grown_drew (grown_alloc (grown_sets (grown_sets (grown_sets (grown_refl _ _) hg) hg) hg) _),own_alloc (own_set (own_set (own_set h (off+1) (by omega) _) (off+2) (by omega) _) (off+3) (by omega) _) _⟩
 have hbox:∀U:World,U.heap.size=w.heap.size→(U.alloc (.cells #[.pointer (some ⟨g,off,none⟩)] 120)).drew.cell? ⟨w.heap.size,0,none⟩=some (.pointer (some ⟨g,off,none⟩)):=fun U hU=>by
  rw [← hU]; exact cell_blk (heap_alloc_new U (.cells #[.pointer (some ⟨g,off,none⟩)] 120)) 0
 have HF:=Lib.hid hfin
 unfold regV
 clear h hfin hx
 go_enter Tryz.func81,Tryz.ntmps81
 go_wp2_with fail
 go_region_held3 (fun w'=>w'.cell? ⟨w.heap.size,0,none⟩=some (.pointer (some ⟨g,off,none⟩)))
  (first | (with_reducible exact hbox _ rfl) | (with_reducible exact hbox _ (by simp [World.setCell])) | go_keep)
  (fail)
 go_wp2
 go_ret
 exact⟨rfl,HF.out _ rfl⟩
set_option maxHeartbeats 4000000 in
set_option maxRecDepth 100000 in
theorem Tryz.late_walk (g off n c B:Nat) (xs:List Value) (mi:Int) (w:World) (h:w.ownsRow B 60 5 (.slice (some ⟨g,0,none⟩) n c) n xs) (ho:off+4<n*5) :
  Calls Tryz.prog 82 #[regV g off,.int .i64 mi] w fun e w'=>e = .returned (.int .i64 0)∧w.grownBy w' (some g)∧w'.ownsRow B 60 5 (.slice (some ⟨g,0,none⟩) n c) n ((xs.set (off+1) (.int .i64 1)).set (off+2) (.int .i64 mi)):=by
 have hx:∀j,j<n*5→∃u,w.cell? ⟨g,j,none⟩=some u:=fun j hj=>by
  have hl:j<xs.length:=by rw [h.1]; exact hj
  exact⟨_,(h.cellAt j hj).trans (List.getElem?_eq_getElem hl)⟩
 obtain⟨z1,c1⟩:=hx (off+1) (by omega); obtain⟨z2,c2⟩:=hx (off+2) (by omega); obtain⟨z3,c3⟩:=hx (off+3) (by omega)
 have f1:=h.frozenAt (off+1); have f2:=h.frozenAt (off+2); have f3:=h.frozenAt (off+3)
 have hg:=(h.lt g rfl).2
 have n1:=World.new_ne w _ c1; have n2:=World.new_ne w _ c2; have n3:=World.new_ne w _ c3
 have k1:¬ g=w.heap.size:=by omega
 have k2:¬ w.heap.size=g:=by omega
 have hfin:∀W:World,W=(((w.setCell ⟨g,off+1,none⟩ (.int .i64 1)).setCell ⟨g,off+2,none⟩ (.int .i64 mi)).alloc (.cells #[.pointer (some ⟨g,off,none⟩)] 120)).drew→w.grownBy W (some g)∧W.ownsRow B 60 5 (.slice (some ⟨g,0,none⟩) n c) n ((xs.set (off+1) (.int .i64 1)).set (off+2) (.int .i64 mi)):=fun W e=>by
  subst e
  exact⟨grown_drew (grown_alloc (grown_sets (grown_sets (grown_refl _ _) hg) hg) _),own_alloc (own_set (own_set h (off+1) (by omega) _) (off+2) (by omega) _) _⟩
 have hbox:∀U:World,U.heap.size=w.heap.size→(U.alloc (.cells #[.pointer (some ⟨g,off,none⟩)] 120)).drew.cell? ⟨w.heap.size,0,none⟩=some (.pointer (some ⟨g,off,none⟩)):=fun U hU=>by
  rw [← hU]; exact cell_blk (heap_alloc_new U (.cells #[.pointer (some ⟨g,off,none⟩)] 120)) 0
 have HF:=Lib.hid hfin
 unfold regV
 clear h hfin hx
 go_enter Tryz.func82,Tryz.ntmps82
 go_wp2_with fail
 go_region_held3 (fun w'=>w'.cell? ⟨w.heap.size,0,none⟩=some (.pointer (some ⟨g,off,none⟩)))
  (first | (with_reducible exact hbox _ rfl) | (with_reducible exact hbox _ (by simp [World.setCell])) | go_keep)
  (fail)
 go_wp2
 go_ret
 exact⟨rfl,HF.out _ rfl⟩
end Go.Proofs
namespace Go.Proofs
open Go.RowKit Go.LS Go.Deep Go.Sort
set_option linter.all false
set_option maxHeartbeats 4000000 in
set_option maxRecDepth 100000 in
theorem Tryz.left_walk (g off n c B:Nat) (xs:List Value) (mi st:Int) (w:World) (h:w.ownsRow B 60 5 (.slice (some ⟨g,0,none⟩) n c) n xs) (ho:off+4<n*5) (hst:xs[off+1]?=some (.int .i64 st)) :
  Calls Tryz.prog 83 #[regV g off,.int .i64 mi] w fun e w'=>e = .returned (.int .i64 (if st=1 then 0 else 8))∧w.grownBy w' (some g)∧w'.ownsRow B 60 5 (.slice (some ⟨g,0,none⟩) n c) n (if st=1 then xs.set (off+3) (.int .i64 mi) else xs):=by
 have hx:∀j,j<n*5→∃u,w.cell? ⟨g,j,none⟩=some u:=fun j hj=>by
  have hl:j<xs.length:=by rw [h.1]; exact hj
  exact⟨_,(h.cellAt j hj).trans (List.getElem?_eq_getElem hl)⟩
 have c1:=(h.cellAt (off+1) (by omega)).trans hst
 obtain⟨z3,c3⟩:=hx (off+3) (by omega)
 have f3:=h.frozenAt (off+3)
 have hg:=(h.lt g rfl).2
 have n1:=World.new_ne w _ c1; have n3:=World.new_ne w _ c3
 have k1:¬ g=w.heap.size:=by omega
 have k2:¬ w.heap.size=g:=by omega
 unfold regV
 by_cases hs:st=1
 ·subst hs
  simp only [if_true]
  have hfin:∀W:World,W=(w.setCell ⟨g,off+3,none⟩ (.int .i64 mi)).alloc (.cells #[.pointer (some ⟨g,off,none⟩)] 120)→w.grownBy W (some g)∧W.ownsRow B 60 5 (.slice (some ⟨g,0,none⟩) n c) n (xs.set (off+3) (.int .i64 mi)):=fun W e=>by
   subst e
   exact⟨grown_alloc (grown_sets (grown_refl _ _) hg) _,own_alloc (own_set h (off+3) (by omega) _) _⟩
  have HF:=Lib.hid hfin
  clear h hfin hx hst
  go_enter Tryz.func83,Tryz.ntmps83
  go_wp2
  go_ret
  exact⟨rfl,HF.out _ rfl⟩
 ·have hs':(st != 1)=true:=by simpa using hs
  rw [if_neg hs,if_neg hs]
  have hfin:∀W:World,W=w.alloc (.cells #[.pointer (some ⟨g,off,none⟩)] 120)→w.grownBy W (some g)∧W.ownsRow B 60 5 (.slice (some ⟨g,0,none⟩) n c) n xs:=fun W e=>by
   subst e
   exact⟨grown_alloc (grown_refl _ _) _,own_alloc h _⟩
  have HF:=Lib.hid hfin
  clear h hfin hx hst
  go_enter Tryz.func83,Tryz.ntmps83
  go_wp2
  go_ret
  exact⟨rfl,HF.out _ rfl⟩
set_option maxHeartbeats 4000000 in
set_option maxRecDepth 100000 in
theorem Tryz.incident_full (g off n c B k sc:Nat) (sa:Option Addr) (xs:List Value) (mi:Int) (w:World) (h:w.ownsRow B 60 5 (.slice (some ⟨g,0,none⟩) n c) n xs) (ho:off+4<n*5) (hst:xs[off+4]?=some (.slice sa k sc)) (hk:8≤k) :
  Calls Tryz.prog 84 #[regV g off,.int .i64 mi] w fun e w'=>e = .returned (.int .i64 3)∧w.grownBy w' (some g)∧w'.ownsRow B 60 5 (.slice (some ⟨g,0,none⟩) n c) n xs:=by
 have c1:=(h.cellAt (off+4) (by omega)).trans hst
 have hg:=(h.lt g rfl).2
 have n1:=World.new_ne w _ c1
 have k1:¬ g=w.heap.size:=by omega
 have k2:¬ w.heap.size=g:=by omega
 have hk8:(8:Int)≤(k:Int):=by omega
 unfold regV
 have hfin:∀W:World,W=w.alloc (.cells #[.pointer (some ⟨g,off,none⟩)] 120)→w.grownBy W (some g)∧W.ownsRow B 60 5 (.slice (some ⟨g,0,none⟩) n c) n xs:=fun W e=>by
  subst e
  exact⟨grown_alloc (grown_refl _ _) _,own_alloc h _⟩
 have HF:=Lib.hid hfin
 clear h hfin hst
 go_enter Tryz.func84,Tryz.ntmps84
 go_wp2
 go_ret
 exact⟨rfl,HF.out _ rfl⟩
set_option maxHeartbeats 8000000 in
set_option maxRecDepth 100000 in
theorem Tryz.incident_more (g off n c B k sc:Nat) (sa:Option Addr) (xs:List Value) (inc:List Int) (mi:Int) (w:World) (h:w.ownsRow B 60 5 (.slice (some ⟨g,0,none⟩) n c) n xs) (ho:off+4<n*5) (hst:xs[off+4]?=some (.slice sa k sc)) (hk:k<8)
  (hi:w.ownsRow B 3 1 (.slice sa k sc) k (intZ inc)) (hne:some g≠(Value.slice sa k sc).ownBlock) (hB:B≤w.heap.size) (P:Ending→World→Prop)
  (hadd:∀ (U wA:World) (gg cap:Nat),w.Since w.heap.size U→U.grownBy wA (Value.slice sa k sc).ownBlock→wA.ownsRow B 3 1 (.slice (some ⟨gg,0,none⟩) (k+1) cap) (k+1) (intZ inc++[.int .i64 mi])→((Value.slice sa k sc).ownBlock=some gg∨gg=U.heap.size) →
   P (.returned (.int .i64 0)) (wA.setCell ⟨g,off+4,none⟩ (.slice (some ⟨gg,0,none⟩) (k+1) cap))) :
  Calls Tryz.prog 84 #[regV g off,.int .i64 mi] w P:=by
 obtain⟨i3,hi3,hz30,hz31,hz32⟩:=info_parts Tryz.info3
 have c1:=(h.cellAt (off+4) (by omega)).trans hst
 have f1:=h.frozenAt (off+4)
 have hg:=(h.lt g rfl).2
 have n1:=World.new_ne w _ c1
 have k1:¬ g=w.heap.size:=by omega
 have k2:¬ w.heap.size=g:=by omega
 have hk8:¬ (8:Int)≤(k:Int):=by omega
 have hk9:(k:Int)<8:=by omega
 unfold regV
 have sU:w.Since w.heap.size ((w.alloc (.cells #[.pointer (some ⟨g,off,none⟩)] 120)).alloc (.cells #[.int .i64 mi] 3)).drew:=(((World.Since.refl _ w).alloc (Nat.le_refl _) _).alloc (by simp) _).drew
 have osA:((w.alloc (.cells #[.pointer (some ⟨g,off,none⟩)] 120)).alloc (.cells #[.int .i64 mi] 3)).drew.ownsRow B 3 1 (.slice sa k sc) k (intZ inc):=own_keep hi sU
 have hbase:B≤((w.alloc (.cells #[.pointer (some ⟨g,off,none⟩)] 120)).alloc (.cells #[.int .i64 mi] 3)).drew.heap.size:=Nat.le_trans hB sU.size
 have eU:=cell_since sU c1
 have fU:=(sU.frozen (a:=⟨g,off+4,none⟩) hg).trans f1
 have hgU:g<((w.alloc (.cells #[.pointer (some ⟨g,off,none⟩)] 120)).alloc (.cells #[.int .i64 mi] 3)).drew.heap.size:=Nat.lt_of_lt_of_le hg sU.size
 have hne2:some w.heap.size≠(Value.slice sa k sc).ownBlock:=fun e=>by have:=(hi.lt _ e.symm).2; omega
 have eB:((w.alloc (.cells #[.pointer (some ⟨g,off,none⟩)] 120)).alloc (.cells #[.int .i64 mi] 3)).drew.cell? ⟨w.heap.size,0,none⟩=some (.pointer (some ⟨g,off,none⟩)):=zQ9 (blk_alloc_lt _ _ _ (by simp)) (cell_blk (heap_alloc_new w (.cells #[.pointer (some ⟨g,off,none⟩)] 120)) 0)
 have hBU:w.heap.size<((w.alloc (.cells #[.pointer (some ⟨g,off,none⟩)] 120)).alloc (.cells #[.int .i64 mi] 3)).drew.heap.size:=World.block_lt_of_cell? _ _ eB
 have HA:=Lib.hid (hadd ((w.alloc (.cells #[.pointer (some ⟨g,off,none⟩)] 120)).alloc (.cells #[.int .i64 mi] 3)).drew)
 have HS:=Lib.hid sU
 have hnew:((w.alloc (.cells #[.pointer (some ⟨g,off,none⟩)] 120)).alloc (.cells #[.int .i64 mi] 3)).heap[w.heap.size+1]?=some (.cells #[.int .i64 mi] 3):=by
  have:=heap_alloc_new (w.alloc (.cells #[.pointer (some ⟨g,off,none⟩)] 120)) (.cells #[.int .i64 mi] 3)
  rw [show (w.alloc (.cells #[.pointer (some ⟨g,off,none⟩)] 120)).heap.size=w.heap.size+1 by simp] at this
  exact this
 clear h hst hadd sU hi
 go_enter Tryz.func84,Tryz.ntmps84
 go_wp2_with fail
 go_region_law (first
  | (refine step_append_lies _ (by rfl) _ _ _ (by rfl) B 3 i3 (.int .i64 0) 1 8 Tryz.underlying22 hi3 hz30 hz31 hz32 rfl (by omega) (.slice sa k sc) k (intZ inc) (by rfl) osA ⟨w.heap.size+1,0,none⟩ 1 1 [.int .i64 mi] (by rfl) (by rfl) (World.news_of_block (cs := #[.int .i64 mi]) (t:=3) (fr:=(0,0)) hnew) (by simp [Value.oneCell']) (by omega) (by unfold maxLen; omega) (by omega) hbase _ rfl ?_; intro gg2 cap2 wA2 hownA2 hgrow2 hat2 hlt3; have hfA:=(hgrow2.cell_far ⟨g,off+4,none⟩ hgU hne).trans eU; have hfB:=(hgrow2.frozen_far ⟨g,off+4,none⟩ hgU hne).trans fU; have hfC:=(hgrow2.cell_far ⟨w.heap.size,0,none⟩ hBU hne2).trans eB))
 all_goals
  have HF:=Lib.hid (HA.out wA2 gg2 cap2 HS.out hgrow2 hownA2 hat2)
  clear hgrow2 hownA2 hat2 HA hfA hfB eU fU osA
  go_wp2
  exact HF.out
end Go.Proofs
namespace Go.Proofs
open Go.RowKit Go.LS Go.Deep Go.Sort
set_option linter.all false
structure AttN where
 cand:Int
 state:Int
 late:Int
 left:Int
 vi:Value
 inc:List Int
abbrev At:=Int×Int×Int×Int×List Int
def AttN.cells (a:AttN):List Value:=[.int .i64 a.cand,.int .i64 a.state,.int .i64 a.late,.int .i64 a.left,a.vi]
def AttN.log (a:AttN):At:=(a.cand,a.state,a.late,a.left,a.inc)
def AttN.row (a:AttN):Value×List Int:=(a.vi,a.inc)
def cellsA (l:List AttN):List Value:=l.flatMap AttN.cells
def famA (l:List AttN):List (Value×List Int):=l.map AttN.row
theorem cellsA_len (l:List AttN):(cellsA l).length=l.length*5:=flat_len _ 5 (fun _=>rfl) l
theorem cellsA_app (l m:List AttN):cellsA (l++m)=cellsA l++cellsA m:=by simp [cellsA]
theorem cellsA_at (l:List AttN) (i j:Nat) (h:i<l.length) (hj:j<5):(cellsA l)[i*5+j]?=l[i].cells[j]?:=flat_get AttN.cells 5 (fun _=>rfl) l i j h hj
theorem cellsA_split (l:List AttN) (i:Nat) (h:i<l.length):cellsA l=cellsA (l.take i)++(l[i].cells++cellsA (l.drop (i+1))):=by
 have e:l=l.take i++l[i] :: l.drop (i+1):=by rw [← List.drop_eq_getElem_cons h,List.take_append_drop]
 have h2:cellsA (l[i] :: l.drop (i+1))=l[i].cells++cellsA (l.drop (i+1)):=by unfold cellsA; rw [List.flatMap_cons]
 calc cellsA l=cellsA (l.take i++l[i] :: l.drop (i+1)):=by rw [← e]
  _=_:=by rw [cellsA_app,h2]
theorem cellsA_set (l:List AttN) (i j:Nat) (h:i<l.length) (y:AttN) (u:Value) (hj:j<5) (hy:y.cells=l[i].cells.set j u):(cellsA l).set (i*5+j) u=cellsA (l.set i y):=by
 have h2:cellsA (l.set i y)=cellsA (l.take i)++(y.cells++cellsA (l.drop (i+1))):=by
  have e:l.set i y=l.take i++y :: l.drop (i+1):=by rw [List.set_eq_take_append_cons_drop,if_pos h]
  have h2:cellsA (y :: l.drop (i+1))=y.cells++cellsA (l.drop (i+1)):=by unfold cellsA; rw [List.flatMap_cons]
  rw [e,cellsA_app,h2]
 have hl:(cellsA (l.take i)).length=i*5:=by rw [cellsA_len,List.length_take,Nat.min_eq_left (by omega)]
 rw [cellsA_split l i h,h2,set_at _ _ j _ _ (by rw [hl]),List.set_append_left _ _ (by rw [show l[i].cells.length=5 from rfl]; exact hj),hy]
theorem famA_set (l:List AttN) (i:Nat) (h:i<l.length) (y:AttN):famA (l.set i y)=famA (l.take i)++y.row :: famA (l.drop (i+1)):=by
 have e:l.set i y=l.take i++y :: l.drop (i+1):=by rw [List.set_eq_take_append_cons_drop,if_pos h]
 unfold famA
 rw [e,List.map_append,List.map_cons]
theorem famA_split (l:List AttN) (i:Nat) (h:i<l.length):famA l=famA (l.take i)++l[i].row :: famA (l.drop (i+1)):=by
 have:=famA_set l i h l[i]
 rwa [List.set_getElem_self] at this
structure AllW (w wr:World) (B:Nat) (v:Value) (l:List AttN):Prop where
 since:w.Since B wr
 le:B≤wr.heap.size
 own:wr.ownsRow B 60 5 v l.length (cellsA l)
 fam:FamI wr B (famA l)
 ap:∀p∈famA l,apart v p.1
theorem AllW.keep {w wr w':World}{B:Nat}{v:Value}{l:List AttN}(h:AllW w wr B v l) (hs:wr.Since wr.heap.size w'):AllW w w' B v l:=
 ⟨h.since.trans (zJ9 hs h.le),Nat.le_trans h.le hs.size,own_keep h.own hs,h.fam.since hs,h.ap⟩
theorem AllW.nums {w U w':World}{B g c p:Nat}{l:List AttN}{y:AttN}(h:AllW w U B (.slice (some ⟨g,0,none⟩) l.length c) l) (hp:p<l.length) (hy:y.row=l[p].row) (hg:U.grownBy w' (some g)) (ho:w'.ownsRow B 60 5 (.slice (some ⟨g,0,none⟩) l.length c) l.length (cellsA (l.set p y))) :
  AllW w w' B (.slice (some ⟨g,0,none⟩) l.length c) (l.set p y):=by
 have hf:famA (l.set p y)=famA l:=by rw [famA_set l p hp,famA_split l p hp,hy]
 have A:∀q∈famA l,q.1.ownBlock≠some g:=fun q hq=>apart_some (h.ap q hq)
 refine⟨h.since.grown hg h.le fun k hk=>by cases hk; exact (h.own.lt g rfl).1,Nat.le_trans h.le hg.size,by rw [List.length_set]; exact ho,?_,?_⟩
 ·rw [hf]; exact h.fam.kept hg fun q hq=>.inr (A q hq)
 ·rw [hf]; exact fun q hq=>h.ap q hq
theorem AllW.more {w U wA:World}{B g c p gg cap k:Nat}{l:List AttN}{s:Int}(h:AllW w U B (.slice (some ⟨g,0,none⟩) l.length c) l) (hp:p<l.length) (hk:k=l[p].inc.length){row:Option Nat}(hg:U.grownBy wA row) (hrow:row=l[p].vi.ownBlock)
  (hown:wA.ownsRow B 3 1 (.slice (some ⟨gg,0,none⟩) (k+1) cap) (k+1) (intZ l[p].inc++[.int .i64 s])) (hat:l[p].vi.ownBlock=some gg∨gg=U.heap.size) :
  AllW w (wA.setCell ⟨g,p*5+4,none⟩ (.slice (some ⟨gg,0,none⟩) (k+1) cap)) B (.slice (some ⟨g,0,none⟩) l.length c) (l.set p { l[p] with vi:=.slice (some ⟨gg,0,none⟩) (k+1) cap,inc:=l[p].inc++[s] }):=by
 have hl:=famA_split l p hp
 have hmem:l[p].row∈famA l:=by rw [hl]; simp
 have hva:=h.ap _ hmem
 have hvs:=h.fam.lt _ hmem
 have hgl:=h.own.lt g rfl
 have hsub:∀q∈famA (l.take p)++famA (l.drop (p+1)),q∈famA l:=fun q hq=>by
  rw [hl]
  rcases List.mem_append.1 hq with h1 | h1
  ·exact List.mem_append_left _ h1
  ·exact List.mem_append_right _ (List.mem_cons_of_mem _ h1)
 have hap:=h.fam.ap
 rw [hl,List.pairwise_append,List.pairwise_cons] at hap
 obtain⟨a1,⟨a2,a3⟩,a4⟩:=hap
 have hq:∀q∈famA (l.take p)++famA (l.drop (p+1)),apart l[p].vi q.1:=fun q hq=>by
  rcases List.mem_append.1 hq with h1 | h1
  ·exact (a4 q h1 l[p].row (by simp)).symm
  ·exact a2 q h1
 have hr:wA.ownsRow B 60 5 (.slice (some ⟨g,0,none⟩) l.length c) l.length (cellsA l):=h.own.kept hg (.inr (by
  rw [hrow]
  intro e
  exact apart_some hva e.symm))
 have hF:FamI wA B (famA (l.set p { l[p] with vi:=.slice (some ⟨gg,0,none⟩) (k+1) cap,inc:=l[p].inc++[s] })):=by
  rw [famA_set l p hp]
  refine FamI.swap2 (q':=AttN.row { l[p] with vi:=.slice (some ⟨gg,0,none⟩) (k+1) cap,inc:=l[p].inc++[s] }) (by rw [← hl]; exact h.fam) hg hrow ?_ fun q hq'=>?_
  ·show wA.ownsRow B 3 1 (.slice (some ⟨gg,0,none⟩) (k+1) cap) (l[p].inc++[s]).length (intZ (l[p].inc++[s]))
   rw [List.length_append,List.length_singleton,← hk,intZ_app]; exact hown
  ·exact (apart_grown (hq q hq') rfl hat fun j hj=>(h.fam.lt q (hsub q hq') j hj).2).symm
 have A:∀q∈famA (l.set p { l[p] with vi:=.slice (some ⟨gg,0,none⟩) (k+1) cap,inc:=l[p].inc++[s] }),q.1.ownBlock≠some g:=fun q hq'=>by
  rw [famA_set l p hp] at hq'
  rcases List.mem_append.1 hq' with h1 | h1
  ·exact apart_some (h.ap q (hsub q (List.mem_append_left _ h1)))
  ·rcases List.mem_cons.1 h1 with rfl | h1
   ·intro e
    have e:gg=g:=Option.some.inj e
    subst e
    rcases hat with h1 | h1
    ·exact apart_some hva h1
    ·omega
   ·exact apart_some (h.ap q (hsub q (List.mem_append_right _ h1)))
 refine⟨zE9 (h.since.grown hg h.le fun j hj=>(hvs j (by rw [← hj,hrow]; rfl)).1) _ _ _ hgl.1,by simp only [World.setCell,Array.size_modify]; exact Nat.le_trans h.le hg.size,?_,hF.setCell g _ _ A,fun q hq'=>.inr (.inr (Ne.symm (A q hq')))⟩
 have o2:=own_set hr (p*5+4) (by omega) (.slice (some ⟨gg,0,none⟩) (k+1) cap)
 rw [cellsA_set l p 4 hp { l[p] with vi:=.slice (some ⟨gg,0,none⟩) (k+1) cap,inc:=l[p].inc++[s] } _ (by omega) rfl] at o2
 rw [List.length_set]; exact o2
def handleP (kind mi:Int) (a:At):Int×At:=
 if kind=1 then (0,(a.1,1,-1,-1,a.2.2.2.2)) else if kind=2 then (0,(a.1,2,-1,-1,a.2.2.2.2)) else if kind=3 then (0,(a.1,1,mi,a.2.2.2.1,a.2.2.2.2))
 else if kind=4 then (if a.2.1=1 then (0,(a.1,a.2.1,a.2.2.1,mi,a.2.2.2.2)) else (8,a))
 else if 8≤a.2.2.2.2.length then (3,a) else (0,(a.1,a.2.1,a.2.2.1,a.2.2.2.1,a.2.2.2.2++[mi]))
def Oth (g:Nat) (l:List AttN) (W w':World):Prop:=W.heap.size≤w'.heap.size∧∀k,k<W.heap.size→k≠g→(∀q∈famA l,q.1.ownBlock≠some k)→w'.heap[k]?=W.heap[k]?
def HandPost (w0:World) (B:Nat) (v:Value) (l:List AttN) (p:Nat) (g:Nat) (W:World) (r:Int×At) (e:Ending) (w':World):Prop:=
 ∃l',e = .returned (.int .i64 r.1)∧AllW w0 w' B v l'∧l'.map AttN.log=(l.map AttN.log).set p r.2∧Oth g l W w'
theorem oth_grown {g:Nat}{l:List AttN}{W w':World}(h:W.grownBy w' (some g)):Oth g l W w':=⟨h.size,fun k h2 h1 _=>h.block k h2 (by intro e; exact h1 (Option.some.inj e))⟩
theorem oth_since {g:Nat}{l:List AttN}{W w':World}(h:W.Since W.heap.size w'):Oth g l W w':=⟨h.size,fun k h2 _ _=>h.block k h2⟩
theorem Oth.from' {g:Nat}{l:List AttN}{w W w':World}(h:Oth g l W w') (hs:w.Since w.heap.size W):Oth g l w w':=
 ⟨Nat.le_trans hs.size h.1,fun k h1 h2 h3=>(h.2 k (Nat.lt_of_lt_of_le h1 hs.size) h2 h3).trans (hs.block k h1)⟩
theorem Oth.far {w0 w:World}{B g c:Nat}{l:List AttN}{W w':World}(h:Oth g l W w') (ha:AllW w0 w B (.slice (some ⟨g,0,none⟩) l.length c) l) (k:Nat) (h1:w.heap.size≤k) (h2:k<W.heap.size):w'.heap[k]?=W.heap[k]?:=
 h.2 k h2 (by have:=(ha.own.lt g rfl).2; omega) fun q hq e=>by have:=(ha.fam.lt q hq k e).2; omega
theorem map_setA {l:List AttN}{p:Nat}(y:AttN) (r:At) (hy:y.log=r):(l.set p y).map AttN.log=(l.map AttN.log).set p r:=by rw [List.map_set,hy]
theorem map_selfA {l:List AttN}{p:Nat}(hp:p<l.length) (r:At) (hy:l[p].log=r):l.map AttN.log=(l.map AttN.log).set p r:=by
 have:=map_setA (l:=l) (p:=p) l[p] r hy
 rwa [List.set_getElem_self] at this
end Go.Proofs
namespace Go.Proofs
open Go.RowKit Go.LS Go.Deep Go.Sort
set_option linter.all false
theorem Tryz.hand1 (mi:Int) (w0:World) (B g c p:Nat) (l:List AttN) (W:World) (h:AllW w0 W B (.slice (some ⟨g,0,none⟩) l.length c) l) (hp:p<l.length) :
  Calls Tryz.prog 80 #[regV g (p*5),.int .i64 mi] W (HandPost w0 B (.slice (some ⟨g,0,none⟩) l.length c) l p g W (handleP 1 mi l[p].log)):=by
 refine (Tryz.present_walk g (p*5) l.length c B (cellsA l) mi W h.own (by omega)).mono ?_
 rintro e w' ⟨rfl,h1,h2⟩
 rw [cellsA_set l p 1 hp { l[p] with state:=1 } _ (by omega) rfl,cellsA_set _ p 2 (by simpa using hp) { l[p] with state:=1,late:=-1 } _ (by omega) (by simp; rfl),cellsA_set _ p 3 (by simpa using hp) { l[p] with state:=1,late:=-1,left:=-1 } _ (by omega) (by simp; rfl),List.set_set,List.set_set] at h2
 exact⟨_,rfl,h.nums (y:={ l[p] with state:=1,late:=-1,left:=-1 }) hp rfl h1 h2,map_setA _ _ rfl,oth_grown h1⟩
theorem Tryz.hand2 (mi:Int) (w0:World) (B g c p:Nat) (l:List AttN) (W:World) (h:AllW w0 W B (.slice (some ⟨g,0,none⟩) l.length c) l) (hp:p<l.length) :
  Calls Tryz.prog 81 #[regV g (p*5),.int .i64 mi] W (HandPost w0 B (.slice (some ⟨g,0,none⟩) l.length c) l p g W (handleP 2 mi l[p].log)):=by
 refine (Tryz.absent_walk g (p*5) l.length c B (cellsA l) mi W h.own (by omega)).mono ?_
 rintro e w' ⟨rfl,h1,h2⟩
 rw [cellsA_set l p 1 hp { l[p] with state:=2 } _ (by omega) rfl,cellsA_set _ p 2 (by simpa using hp) { l[p] with state:=2,late:=-1 } _ (by omega) (by simp; rfl),cellsA_set _ p 3 (by simpa using hp) { l[p] with state:=2,late:=-1,left:=-1 } _ (by omega) (by simp; rfl),List.set_set,List.set_set] at h2
 exact⟨_,rfl,h.nums (y:={ l[p] with state:=2,late:=-1,left:=-1 }) hp rfl h1 h2,map_setA _ _ rfl,oth_grown h1⟩
theorem Tryz.hand3 (mi:Int) (w0:World) (B g c p:Nat) (l:List AttN) (W:World) (h:AllW w0 W B (.slice (some ⟨g,0,none⟩) l.length c) l) (hp:p<l.length) :
  Calls Tryz.prog 82 #[regV g (p*5),.int .i64 mi] W (HandPost w0 B (.slice (some ⟨g,0,none⟩) l.length c) l p g W (handleP 3 mi l[p].log)):=by
 refine (Tryz.late_walk g (p*5) l.length c B (cellsA l) mi W h.own (by omega)).mono ?_
 rintro e w' ⟨rfl,h1,h2⟩
 rw [cellsA_set l p 1 hp { l[p] with state:=1 } _ (by omega) rfl,cellsA_set _ p 2 (by simpa using hp) { l[p] with state:=1,late:=mi } _ (by omega) (by simp; rfl),List.set_set] at h2
 exact⟨_,rfl,h.nums (y:={ l[p] with state:=1,late:=mi }) hp rfl h1 h2,map_setA _ _ rfl,oth_grown h1⟩
theorem Tryz.hand4 (mi:Int) (w0:World) (B g c p:Nat) (l:List AttN) (W:World) (h:AllW w0 W B (.slice (some ⟨g,0,none⟩) l.length c) l) (hp:p<l.length) :
  Calls Tryz.prog 83 #[regV g (p*5),.int .i64 mi] W (HandPost w0 B (.slice (some ⟨g,0,none⟩) l.length c) l p g W (handleP 4 mi l[p].log)):=by
 refine (Tryz.left_walk g (p*5) l.length c B (cellsA l) mi l[p].state W h.own (by omega) (cellsA_at l p 1 hp (by omega))).mono ?_
 rintro e w' ⟨rfl,h1,h2⟩
 by_cases hs:l[p].state=1
 ·rw [if_pos hs,cellsA_set l p 3 hp { l[p] with left:=mi } _ (by omega) rfl] at h2
  refine⟨_,?_,h.nums (y:={ l[p] with left:=mi }) hp rfl h1 h2,map_setA _ _ ?_,oth_grown h1⟩
  ·simp [handleP,AttN.log,hs]
  ·simp [handleP,AttN.log,hs]
 ·rw [if_neg hs] at h2
  have hself:l.set p l[p]=l:=List.set_getElem_self hp
  have h3:=h.nums (y:=l[p]) hp rfl h1 (by rw [hself]; exact h2)
  rw [hself] at h3
  refine⟨l,?_,h3,map_selfA hp _ ?_,oth_grown h1⟩
  ·simp [handleP,AttN.log,hs]
  ·simp [handleP,AttN.log,hs]
theorem Tryz.hand5 (mi:Int) (w0:World) (B g c p:Nat) (l:List AttN) (W:World) (h:AllW w0 W B (.slice (some ⟨g,0,none⟩) l.length c) l) (hp:p<l.length) :
  Calls Tryz.prog 84 #[regV g (p*5),.int .i64 mi] W (HandPost w0 B (.slice (some ⟨g,0,none⟩) l.length c) l p g W (handleP 5 mi l[p].log)):=by
 have hmem:l[p].row∈famA l:=by rw [famA_split l p hp]; simp
 have hi:=h.fam.own _ hmem
 obtain⟨sa,sc,hvi,-⟩:=own_form hi
 have hvi:l[p].vi = .slice sa l[p].inc.length sc:=hvi
 have hi:W.ownsRow B 3 1 l[p].vi l[p].inc.length (intZ l[p].inc):=hi
 have hst:(cellsA l)[p*5+4]?=some (.slice sa l[p].inc.length sc):=by rw [cellsA_at l p 4 hp (by omega),← hvi]; rfl
 by_cases h8:8≤l[p].inc.length
 ·refine (Tryz.incident_full g (p*5) l.length c B _ sc sa (cellsA l) mi W h.own (by omega) hst h8).mono ?_
  rintro e w' ⟨rfl,h1,h2⟩
  have hself:l.set p l[p]=l:=List.set_getElem_self hp
  have h3:=h.nums (y:=l[p]) hp rfl h1 (by rw [hself]; exact h2)
  rw [hself] at h3
  refine⟨l,?_,h3,map_selfA hp _ ?_,oth_grown h1⟩
  ·simp [handleP,AttN.log,h8]
  ·simp [handleP,AttN.log,h8]
 ·have hva:=h.ap _ hmem
  rw [hvi] at hi
  have hne:some g≠(Value.slice sa l[p].inc.length sc).ownBlock:=by rw [← hvi]; exact fun e=>apart_some hva e.symm
  refine Tryz.incident_more g (p*5) l.length c B _ sc sa (cellsA l) l[p].inc mi W h.own (by omega) hst (by omega) hi hne h.le _ fun U wA gg cap sU hg1 ho1 hat=>?_
  have hm:=(h.keep sU).more (s:=mi) hp rfl hg1 (by rw [hvi]) ho1 (by rw [hvi]; exact hat)
  refine⟨_,?_,hm,map_setA _ _ ?_,?_,?_⟩
  ·simp [handleP,AttN.log,h8]
  ·simp [handleP,AttN.log,h8]
  ·simp only [World.setCell,Array.size_modify]; exact Nat.le_trans sU.size hg1.size
  ·intro k h2 h1 h3
   refine (blk_setCell_other _ _ _ _ (by show k≠g; exact h1)).trans ((hg1.block k (Nat.lt_of_lt_of_le h2 sU.size) fun e=>?_).trans (sU.block k h2))
   exact h3 _ hmem (by show l[p].vi.ownBlock=_; rw [hvi]; exact e.symm)
end Go.Proofs
namespace Go.Proofs
open Go.RowKit Go.LS Go.Deep Go.Sort
set_option linter.all false
structure RegR where
 t:Int
 src:Int
 seq:Int
 kind:Int
 cand:Int
 mins:Int
def RegR.val (x:RegR):Value:=.agg #[.int .i64 x.t,.int .i64 x.src,.int .i64 x.seq,.int .i64 x.kind,.int .i64 x.cand,.int .i64 x.mins]
theorem alloc3_b (w:World) (o1 o2 o3:Obj):(((w.alloc o1).alloc o2).alloc o3).heap[w.heap.size+1]?=some o2:=by
 have h:=heap_alloc_new (w.alloc o1) o2
 rw [show (w.alloc o1).heap.size=w.heap.size+1 by simp] at h
 exact (blk_alloc_lt _ _ _ (by simp)).trans h
theorem alloc3_c (w:World) (o1 o2 o3:Obj):(((w.alloc o1).alloc o2).alloc o3).heap[w.heap.size+1+1]?=some o3:=by
 have h:=heap_alloc_new ((w.alloc o1).alloc o2) o3
 rw [show ((w.alloc o1).alloc o2).heap.size=w.heap.size+1+1 by simp] at h
 exact h
set_option maxHeartbeats 8000000 in
set_option maxRecDepth 100000 in
theorem Tryz.handle1 (t src seq cd mi:Int) (w0:World) (B g c p:Nat) (l:List AttN) (w:World) (h:AllW w0 w B (.slice (some ⟨g,0,none⟩) l.length c) l) (hp:p<l.length) :
  Calls Tryz.prog 56 #[regV g (p*5),.agg #[.int .i64 t,.int .i64 src,.int .i64 seq,.int .i64 1,.int .i64 cd,.int .i64 mi]] w (HandPost w0 B (.slice (some ⟨g,0,none⟩) l.length c) l p g w (handleP 1 mi l[p].log)):=by
 have hH:∀W,w.Since w.heap.size W→Calls Tryz.prog 80 #[regV g (p*5),.int .i64 mi] W (HandPost w0 B (.slice (some ⟨g,0,none⟩) l.length c) l p g W (handleP 1 mi l[p].log)):=fun W hW=>Tryz.hand1 mi w0 B g c p l W (h.keep hW) hp
 obtain⟨P,hP⟩:∃P,P=HandPost w0 B (.slice (some ⟨g,0,none⟩) l.length c) l p g w (handleP 1 mi l[p].log):=⟨_,rfl⟩
 rw [← hP]
 have hfin:∀W e w',w.Since w.heap.size W→HandPost w0 B (.slice (some ⟨g,0,none⟩) l.length c) l p g W (handleP 1 mi l[p].log) e w'→P e w':=fun W e w' hW ⟨l',h1,h2,h3,h4⟩=>by
  rw [hP]
  exact⟨l',h1,h2,h3,h4.from' hW⟩
 have HF:=Lib.hid hfin
 have HA:=Lib.hid h
 generalize handleP 1 mi l[p].log=r at *
 clear h hP hfin
 unfold regV at *
 go_enter Tryz.func56,Tryz.ntmps56
 go_wp2_with fail
 have sW:w.Since w.heap.size (((w.alloc (.cells #[.pointer (some ⟨g,p*5,none⟩)] 120)).alloc (.cells #[.int .i64 t,.int .i64 src,.int .i64 seq,.int .i64 1,.int .i64 cd,.int .i64 mi] 42)).alloc (.cells #[.nilFunc,.func (.func 80) #[.agg #[.pointer (some ⟨g,p*5,none⟩)]] #[],.func (.func 81) #[.agg #[.pointer (some ⟨g,p*5,none⟩)]] #[],.func (.func 82) #[.agg #[.pointer (some ⟨g,p*5,none⟩)]] #[],.func (.func 83) #[.agg #[.pointer (some ⟨g,p*5,none⟩)]] #[],.func (.func 84) #[.agg #[.pointer (some ⟨g,p*5,none⟩)]] #[]] 148)):=(((World.Since.refl _ w).alloc (Nat.le_refl _) _).alloc (by simp) _).alloc (by simp; omega) _
 have n2:((((w.alloc (.cells #[.pointer (some ⟨g,p*5,none⟩)] 120)).alloc (.cells #[.int .i64 t,.int .i64 src,.int .i64 seq,.int .i64 1,.int .i64 cd,.int .i64 mi] 42)).alloc (.cells #[.nilFunc,.func (.func 80) #[.agg #[.pointer (some ⟨g,p*5,none⟩)]] #[],.func (.func 81) #[.agg #[.pointer (some ⟨g,p*5,none⟩)]] #[],.func (.func 82) #[.agg #[.pointer (some ⟨g,p*5,none⟩)]] #[],.func (.func 83) #[.agg #[.pointer (some ⟨g,p*5,none⟩)]] #[],.func (.func 84) #[.agg #[.pointer (some ⟨g,p*5,none⟩)]] #[]] 148))).heap.size=w.heap.size+3:=by simp
 have q3:((((w.alloc (.cells #[.pointer (some ⟨g,p*5,none⟩)] 120)).alloc (.cells #[.int .i64 t,.int .i64 src,.int .i64 seq,.int .i64 1,.int .i64 cd,.int .i64 mi] 42)).alloc (.cells #[.nilFunc,.func (.func 80) #[.agg #[.pointer (some ⟨g,p*5,none⟩)]] #[],.func (.func 81) #[.agg #[.pointer (some ⟨g,p*5,none⟩)]] #[],.func (.func 82) #[.agg #[.pointer (some ⟨g,p*5,none⟩)]] #[],.func (.func 83) #[.agg #[.pointer (some ⟨g,p*5,none⟩)]] #[],.func (.func 84) #[.agg #[.pointer (some ⟨g,p*5,none⟩)]] #[]] 148))).cell? ⟨w.heap.size+1,3,none⟩=some (.int .i64 1):=cell_blk (alloc3_b _ _ _ _) 3
 have q5:((((w.alloc (.cells #[.pointer (some ⟨g,p*5,none⟩)] 120)).alloc (.cells #[.int .i64 t,.int .i64 src,.int .i64 seq,.int .i64 1,.int .i64 cd,.int .i64 mi] 42)).alloc (.cells #[.nilFunc,.func (.func 80) #[.agg #[.pointer (some ⟨g,p*5,none⟩)]] #[],.func (.func 81) #[.agg #[.pointer (some ⟨g,p*5,none⟩)]] #[],.func (.func 82) #[.agg #[.pointer (some ⟨g,p*5,none⟩)]] #[],.func (.func 83) #[.agg #[.pointer (some ⟨g,p*5,none⟩)]] #[],.func (.func 84) #[.agg #[.pointer (some ⟨g,p*5,none⟩)]] #[]] 148))).cell? ⟨w.heap.size+1,5,none⟩=some (.int .i64 mi):=cell_blk (alloc3_b _ _ _ _) 5
 have qm:((((w.alloc (.cells #[.pointer (some ⟨g,p*5,none⟩)] 120)).alloc (.cells #[.int .i64 t,.int .i64 src,.int .i64 seq,.int .i64 1,.int .i64 cd,.int .i64 mi] 42)).alloc (.cells #[.nilFunc,.func (.func 80) #[.agg #[.pointer (some ⟨g,p*5,none⟩)]] #[],.func (.func 81) #[.agg #[.pointer (some ⟨g,p*5,none⟩)]] #[],.func (.func 82) #[.agg #[.pointer (some ⟨g,p*5,none⟩)]] #[],.func (.func 83) #[.agg #[.pointer (some ⟨g,p*5,none⟩)]] #[],.func (.func 84) #[.agg #[.pointer (some ⟨g,p*5,none⟩)]] #[]] 148))).cell? ⟨w.heap.size+1+1,1,none⟩=some (.func (.func 80) #[.agg #[.pointer (some ⟨g,p*5,none⟩)]] #[]):=cell_blk (alloc3_c _ _ _ _) 1
 generalize (((w.alloc (.cells #[.pointer (some ⟨g,p*5,none⟩)] 120)).alloc (.cells #[.int .i64 t,.int .i64 src,.int .i64 seq,.int .i64 1,.int .i64 cd,.int .i64 mi] 42)).alloc (.cells #[.nilFunc,.func (.func 80) #[.agg #[.pointer (some ⟨g,p*5,none⟩)]] #[],.func (.func 81) #[.agg #[.pointer (some ⟨g,p*5,none⟩)]] #[],.func (.func 82) #[.agg #[.pointer (some ⟨g,p*5,none⟩)]] #[],.func (.func 83) #[.agg #[.pointer (some ⟨g,p*5,none⟩)]] #[],.func (.func 84) #[.agg #[.pointer (some ⟨g,p*5,none⟩)]] #[]] 148))=W2 at *
 have sWd:w.Since w.heap.size W2.drew:=sW.drew
 have hI:W2.cell? ⟨w.heap.size+1,3,none⟩=some (.int .i64 1)∧W2.cell? ⟨w.heap.size+1,5,none⟩=some (.int .i64 mi)∧W2.cell? ⟨w.heap.size+1+1,1,none⟩=some (.func (.func 80) #[.agg #[.pointer (some ⟨g,p*5,none⟩)]] #[]):=⟨q3,q5,qm⟩
 have hI':W2.drew.cell? ⟨w.heap.size+1,3,none⟩=some (.int .i64 1)∧W2.drew.cell? ⟨w.heap.size+1,5,none⟩=some (.int .i64 mi)∧W2.drew.cell? ⟨w.heap.size+1+1,1,none⟩=some (.func (.func 80) #[.agg #[.pointer (some ⟨g,p*5,none⟩)]] #[]):=⟨q3,q5,qm⟩
 go_region_held3 (fun w'=>w'.cell? ⟨w.heap.size+1,3,none⟩=some (.int .i64 1)∧w'.cell? ⟨w.heap.size+1,5,none⟩=some (.int .i64 mi)∧w'.cell? ⟨w.heap.size+1+1,1,none⟩=some (.func (.func 80) #[.agg #[.pointer (some ⟨g,p*5,none⟩)]] #[]))
  (first | (with_reducible exact hI) | (with_reducible exact hI') | (with_reducible exact⟨b3,b5,bm⟩) | (with_reducible assumption))
  (first | (go_at_call 80; (with_reducible refine (hH _ sWd).mono ?_); rintro e w' ⟨l',rfl,hA',hm',hk'⟩; have b3:=zQ9 (hk'.far HA.out (w.heap.size+1) (by omega) (by show _<W2.heap.size; omega)) q3; have b5:=zQ9 (hk'.far HA.out (w.heap.size+1) (by omega) (by show _<W2.heap.size; omega)) q5; have bm:=zQ9 (hk'.far HA.out (w.heap.size+1+1) (by omega) (by show _<W2.heap.size; omega)) qm))
 have HG:=Lib.hid (HF.out W2.drew _ w' sWd ⟨l',rfl,hA',hm',hk'⟩)
 clear hA' hm' hk'
 go_wp2
 exact HG.out
set_option maxHeartbeats 8000000 in
set_option maxRecDepth 100000 in
theorem Tryz.handle2 (t src seq cd mi:Int) (w0:World) (B g c p:Nat) (l:List AttN) (w:World) (h:AllW w0 w B (.slice (some ⟨g,0,none⟩) l.length c) l) (hp:p<l.length) :
  Calls Tryz.prog 56 #[regV g (p*5),.agg #[.int .i64 t,.int .i64 src,.int .i64 seq,.int .i64 2,.int .i64 cd,.int .i64 mi]] w (HandPost w0 B (.slice (some ⟨g,0,none⟩) l.length c) l p g w (handleP 2 mi l[p].log)):=by
 have hH:∀W,w.Since w.heap.size W→Calls Tryz.prog 81 #[regV g (p*5),.int .i64 mi] W (HandPost w0 B (.slice (some ⟨g,0,none⟩) l.length c) l p g W (handleP 2 mi l[p].log)):=fun W hW=>Tryz.hand2 mi w0 B g c p l W (h.keep hW) hp
 obtain⟨P,hP⟩:∃P,P=HandPost w0 B (.slice (some ⟨g,0,none⟩) l.length c) l p g w (handleP 2 mi l[p].log):=⟨_,rfl⟩
 rw [← hP]
 have hfin:∀W e w',w.Since w.heap.size W→HandPost w0 B (.slice (some ⟨g,0,none⟩) l.length c) l p g W (handleP 2 mi l[p].log) e w'→P e w':=fun W e w' hW ⟨l',h1,h2,h3,h4⟩=>by
  rw [hP]
  exact⟨l',h1,h2,h3,h4.from' hW⟩
 have HF:=Lib.hid hfin
 have HA:=Lib.hid h
 generalize handleP 2 mi l[p].log=r at *
 clear h hP hfin
 unfold regV at *
 go_enter Tryz.func56,Tryz.ntmps56
 go_wp2_with fail
 have sW:w.Since w.heap.size (((w.alloc (.cells #[.pointer (some ⟨g,p*5,none⟩)] 120)).alloc (.cells #[.int .i64 t,.int .i64 src,.int .i64 seq,.int .i64 2,.int .i64 cd,.int .i64 mi] 42)).alloc (.cells #[.nilFunc,.func (.func 80) #[.agg #[.pointer (some ⟨g,p*5,none⟩)]] #[],.func (.func 81) #[.agg #[.pointer (some ⟨g,p*5,none⟩)]] #[],.func (.func 82) #[.agg #[.pointer (some ⟨g,p*5,none⟩)]] #[],.func (.func 83) #[.agg #[.pointer (some ⟨g,p*5,none⟩)]] #[],.func (.func 84) #[.agg #[.pointer (some ⟨g,p*5,none⟩)]] #[]] 148)):=(((World.Since.refl _ w).alloc (Nat.le_refl _) _).alloc (by simp) _).alloc (by simp; omega) _
 have n2:((((w.alloc (.cells #[.pointer (some ⟨g,p*5,none⟩)] 120)).alloc (.cells #[.int .i64 t,.int .i64 src,.int .i64 seq,.int .i64 2,.int .i64 cd,.int .i64 mi] 42)).alloc (.cells #[.nilFunc,.func (.func 80) #[.agg #[.pointer (some ⟨g,p*5,none⟩)]] #[],.func (.func 81) #[.agg #[.pointer (some ⟨g,p*5,none⟩)]] #[],.func (.func 82) #[.agg #[.pointer (some ⟨g,p*5,none⟩)]] #[],.func (.func 83) #[.agg #[.pointer (some ⟨g,p*5,none⟩)]] #[],.func (.func 84) #[.agg #[.pointer (some ⟨g,p*5,none⟩)]] #[]] 148))).heap.size=w.heap.size+3:=by simp
 have q3:((((w.alloc (.cells #[.pointer (some ⟨g,p*5,none⟩)] 120)).alloc (.cells #[.int .i64 t,.int .i64 src,.int .i64 seq,.int .i64 2,.int .i64 cd,.int .i64 mi] 42)).alloc (.cells #[.nilFunc,.func (.func 80) #[.agg #[.pointer (some ⟨g,p*5,none⟩)]] #[],.func (.func 81) #[.agg #[.pointer (some ⟨g,p*5,none⟩)]] #[],.func (.func 82) #[.agg #[.pointer (some ⟨g,p*5,none⟩)]] #[],.func (.func 83) #[.agg #[.pointer (some ⟨g,p*5,none⟩)]] #[],.func (.func 84) #[.agg #[.pointer (some ⟨g,p*5,none⟩)]] #[]] 148))).cell? ⟨w.heap.size+1,3,none⟩=some (.int .i64 2):=cell_blk (alloc3_b _ _ _ _) 3
 have q5:((((w.alloc (.cells #[.pointer (some ⟨g,p*5,none⟩)] 120)).alloc (.cells #[.int .i64 t,.int .i64 src,.int .i64 seq,.int .i64 2,.int .i64 cd,.int .i64 mi] 42)).alloc (.cells #[.nilFunc,.func (.func 80) #[.agg #[.pointer (some ⟨g,p*5,none⟩)]] #[],.func (.func 81) #[.agg #[.pointer (some ⟨g,p*5,none⟩)]] #[],.func (.func 82) #[.agg #[.pointer (some ⟨g,p*5,none⟩)]] #[],.func (.func 83) #[.agg #[.pointer (some ⟨g,p*5,none⟩)]] #[],.func (.func 84) #[.agg #[.pointer (some ⟨g,p*5,none⟩)]] #[]] 148))).cell? ⟨w.heap.size+1,5,none⟩=some (.int .i64 mi):=cell_blk (alloc3_b _ _ _ _) 5
 have qm:((((w.alloc (.cells #[.pointer (some ⟨g,p*5,none⟩)] 120)).alloc (.cells #[.int .i64 t,.int .i64 src,.int .i64 seq,.int .i64 2,.int .i64 cd,.int .i64 mi] 42)).alloc (.cells #[.nilFunc,.func (.func 80) #[.agg #[.pointer (some ⟨g,p*5,none⟩)]] #[],.func (.func 81) #[.agg #[.pointer (some ⟨g,p*5,none⟩)]] #[],.func (.func 82) #[.agg #[.pointer (some ⟨g,p*5,none⟩)]] #[],.func (.func 83) #[.agg #[.pointer (some ⟨g,p*5,none⟩)]] #[],.func (.func 84) #[.agg #[.pointer (some ⟨g,p*5,none⟩)]] #[]] 148))).cell? ⟨w.heap.size+1+1,2,none⟩=some (.func (.func 81) #[.agg #[.pointer (some ⟨g,p*5,none⟩)]] #[]):=cell_blk (alloc3_c _ _ _ _) 2
 generalize (((w.alloc (.cells #[.pointer (some ⟨g,p*5,none⟩)] 120)).alloc (.cells #[.int .i64 t,.int .i64 src,.int .i64 seq,.int .i64 2,.int .i64 cd,.int .i64 mi] 42)).alloc (.cells #[.nilFunc,.func (.func 80) #[.agg #[.pointer (some ⟨g,p*5,none⟩)]] #[],.func (.func 81) #[.agg #[.pointer (some ⟨g,p*5,none⟩)]] #[],.func (.func 82) #[.agg #[.pointer (some ⟨g,p*5,none⟩)]] #[],.func (.func 83) #[.agg #[.pointer (some ⟨g,p*5,none⟩)]] #[],.func (.func 84) #[.agg #[.pointer (some ⟨g,p*5,none⟩)]] #[]] 148))=W2 at *
 have sWd:w.Since w.heap.size W2.drew:=sW.drew
 have hI:W2.cell? ⟨w.heap.size+1,3,none⟩=some (.int .i64 2)∧W2.cell? ⟨w.heap.size+1,5,none⟩=some (.int .i64 mi)∧W2.cell? ⟨w.heap.size+1+1,2,none⟩=some (.func (.func 81) #[.agg #[.pointer (some ⟨g,p*5,none⟩)]] #[]):=⟨q3,q5,qm⟩
 have hI':W2.drew.cell? ⟨w.heap.size+1,3,none⟩=some (.int .i64 2)∧W2.drew.cell? ⟨w.heap.size+1,5,none⟩=some (.int .i64 mi)∧W2.drew.cell? ⟨w.heap.size+1+1,2,none⟩=some (.func (.func 81) #[.agg #[.pointer (some ⟨g,p*5,none⟩)]] #[]):=⟨q3,q5,qm⟩
 go_region_held3 (fun w'=>w'.cell? ⟨w.heap.size+1,3,none⟩=some (.int .i64 2)∧w'.cell? ⟨w.heap.size+1,5,none⟩=some (.int .i64 mi)∧w'.cell? ⟨w.heap.size+1+1,2,none⟩=some (.func (.func 81) #[.agg #[.pointer (some ⟨g,p*5,none⟩)]] #[]))
  (first | (with_reducible exact hI) | (with_reducible exact hI') | (with_reducible exact⟨b3,b5,bm⟩) | (with_reducible assumption))
  (first | (go_at_call 81; (with_reducible refine (hH _ sWd).mono ?_); rintro e w' ⟨l',rfl,hA',hm',hk'⟩; have b3:=zQ9 (hk'.far HA.out (w.heap.size+1) (by omega) (by show _<W2.heap.size; omega)) q3; have b5:=zQ9 (hk'.far HA.out (w.heap.size+1) (by omega) (by show _<W2.heap.size; omega)) q5; have bm:=zQ9 (hk'.far HA.out (w.heap.size+1+1) (by omega) (by show _<W2.heap.size; omega)) qm))
 have HG:=Lib.hid (HF.out W2.drew _ w' sWd ⟨l',rfl,hA',hm',hk'⟩)
 clear hA' hm' hk'
 go_wp2
 exact HG.out
set_option maxHeartbeats 8000000 in
set_option maxRecDepth 100000 in
theorem Tryz.handle3 (t src seq cd mi:Int) (w0:World) (B g c p:Nat) (l:List AttN) (w:World) (h:AllW w0 w B (.slice (some ⟨g,0,none⟩) l.length c) l) (hp:p<l.length) :
  Calls Tryz.prog 56 #[regV g (p*5),.agg #[.int .i64 t,.int .i64 src,.int .i64 seq,.int .i64 3,.int .i64 cd,.int .i64 mi]] w (HandPost w0 B (.slice (some ⟨g,0,none⟩) l.length c) l p g w (handleP 3 mi l[p].log)):=by
 have hH:∀W,w.Since w.heap.size W→Calls Tryz.prog 82 #[regV g (p*5),.int .i64 mi] W (HandPost w0 B (.slice (some ⟨g,0,none⟩) l.length c) l p g W (handleP 3 mi l[p].log)):=fun W hW=>Tryz.hand3 mi w0 B g c p l W (h.keep hW) hp
 obtain⟨P,hP⟩:∃P,P=HandPost w0 B (.slice (some ⟨g,0,none⟩) l.length c) l p g w (handleP 3 mi l[p].log):=⟨_,rfl⟩
 rw [← hP]
 have hfin:∀W e w',w.Since w.heap.size W→HandPost w0 B (.slice (some ⟨g,0,none⟩) l.length c) l p g W (handleP 3 mi l[p].log) e w'→P e w':=fun W e w' hW ⟨l',h1,h2,h3,h4⟩=>by
  rw [hP]
  exact⟨l',h1,h2,h3,h4.from' hW⟩
 have HF:=Lib.hid hfin
 have HA:=Lib.hid h
 generalize handleP 3 mi l[p].log=r at *
 clear h hP hfin
 unfold regV at *
 go_enter Tryz.func56,Tryz.ntmps56
 go_wp2_with fail
 have sW:w.Since w.heap.size (((w.alloc (.cells #[.pointer (some ⟨g,p*5,none⟩)] 120)).alloc (.cells #[.int .i64 t,.int .i64 src,.int .i64 seq,.int .i64 3,.int .i64 cd,.int .i64 mi] 42)).alloc (.cells #[.nilFunc,.func (.func 80) #[.agg #[.pointer (some ⟨g,p*5,none⟩)]] #[],.func (.func 81) #[.agg #[.pointer (some ⟨g,p*5,none⟩)]] #[],.func (.func 82) #[.agg #[.pointer (some ⟨g,p*5,none⟩)]] #[],.func (.func 83) #[.agg #[.pointer (some ⟨g,p*5,none⟩)]] #[],.func (.func 84) #[.agg #[.pointer (some ⟨g,p*5,none⟩)]] #[]] 148)):=(((World.Since.refl _ w).alloc (Nat.le_refl _) _).alloc (by simp) _).alloc (by simp; omega) _
 have n2:((((w.alloc (.cells #[.pointer (some ⟨g,p*5,none⟩)] 120)).alloc (.cells #[.int .i64 t,.int .i64 src,.int .i64 seq,.int .i64 3,.int .i64 cd,.int .i64 mi] 42)).alloc (.cells #[.nilFunc,.func (.func 80) #[.agg #[.pointer (some ⟨g,p*5,none⟩)]] #[],.func (.func 81) #[.agg #[.pointer (some ⟨g,p*5,none⟩)]] #[],.func (.func 82) #[.agg #[.pointer (some ⟨g,p*5,none⟩)]] #[],.func (.func 83) #[.agg #[.pointer (some ⟨g,p*5,none⟩)]] #[],.func (.func 84) #[.agg #[.pointer (some ⟨g,p*5,none⟩)]] #[]] 148))).heap.size=w.heap.size+3:=by simp
 have q3:((((w.alloc (.cells #[.pointer (some ⟨g,p*5,none⟩)] 120)).alloc (.cells #[.int .i64 t,.int .i64 src,.int .i64 seq,.int .i64 3,.int .i64 cd,.int .i64 mi] 42)).alloc (.cells #[.nilFunc,.func (.func 80) #[.agg #[.pointer (some ⟨g,p*5,none⟩)]] #[],.func (.func 81) #[.agg #[.pointer (some ⟨g,p*5,none⟩)]] #[],.func (.func 82) #[.agg #[.pointer (some ⟨g,p*5,none⟩)]] #[],.func (.func 83) #[.agg #[.pointer (some ⟨g,p*5,none⟩)]] #[],.func (.func 84) #[.agg #[.pointer (some ⟨g,p*5,none⟩)]] #[]] 148))).cell? ⟨w.heap.size+1,3,none⟩=some (.int .i64 3):=cell_blk (alloc3_b _ _ _ _) 3
 have q5:((((w.alloc (.cells #[.pointer (some ⟨g,p*5,none⟩)] 120)).alloc (.cells #[.int .i64 t,.int .i64 src,.int .i64 seq,.int .i64 3,.int .i64 cd,.int .i64 mi] 42)).alloc (.cells #[.nilFunc,.func (.func 80) #[.agg #[.pointer (some ⟨g,p*5,none⟩)]] #[],.func (.func 81) #[.agg #[.pointer (some ⟨g,p*5,none⟩)]] #[],.func (.func 82) #[.agg #[.pointer (some ⟨g,p*5,none⟩)]] #[],.func (.func 83) #[.agg #[.pointer (some ⟨g,p*5,none⟩)]] #[],.func (.func 84) #[.agg #[.pointer (some ⟨g,p*5,none⟩)]] #[]] 148))).cell? ⟨w.heap.size+1,5,none⟩=some (.int .i64 mi):=cell_blk (alloc3_b _ _ _ _) 5
 have qm:((((w.alloc (.cells #[.pointer (some ⟨g,p*5,none⟩)] 120)).alloc (.cells #[.int .i64 t,.int .i64 src,.int .i64 seq,.int .i64 3,.int .i64 cd,.int .i64 mi] 42)).alloc (.cells #[.nilFunc,.func (.func 80) #[.agg #[.pointer (some ⟨g,p*5,none⟩)]] #[],.func (.func 81) #[.agg #[.pointer (some ⟨g,p*5,none⟩)]] #[],.func (.func 82) #[.agg #[.pointer (some ⟨g,p*5,none⟩)]] #[],.func (.func 83) #[.agg #[.pointer (some ⟨g,p*5,none⟩)]] #[],.func (.func 84) #[.agg #[.pointer (some ⟨g,p*5,none⟩)]] #[]] 148))).cell? ⟨w.heap.size+1+1,3,none⟩=some (.func (.func 82) #[.agg #[.pointer (some ⟨g,p*5,none⟩)]] #[]):=cell_blk (alloc3_c _ _ _ _) 3
 generalize (((w.alloc (.cells #[.pointer (some ⟨g,p*5,none⟩)] 120)).alloc (.cells #[.int .i64 t,.int .i64 src,.int .i64 seq,.int .i64 3,.int .i64 cd,.int .i64 mi] 42)).alloc (.cells #[.nilFunc,.func (.func 80) #[.agg #[.pointer (some ⟨g,p*5,none⟩)]] #[],.func (.func 81) #[.agg #[.pointer (some ⟨g,p*5,none⟩)]] #[],.func (.func 82) #[.agg #[.pointer (some ⟨g,p*5,none⟩)]] #[],.func (.func 83) #[.agg #[.pointer (some ⟨g,p*5,none⟩)]] #[],.func (.func 84) #[.agg #[.pointer (some ⟨g,p*5,none⟩)]] #[]] 148))=W2 at *
 have sWd:w.Since w.heap.size W2.drew:=sW.drew
 have hI:W2.cell? ⟨w.heap.size+1,3,none⟩=some (.int .i64 3)∧W2.cell? ⟨w.heap.size+1,5,none⟩=some (.int .i64 mi)∧W2.cell? ⟨w.heap.size+1+1,3,none⟩=some (.func (.func 82) #[.agg #[.pointer (some ⟨g,p*5,none⟩)]] #[]):=⟨q3,q5,qm⟩
 have hI':W2.drew.cell? ⟨w.heap.size+1,3,none⟩=some (.int .i64 3)∧W2.drew.cell? ⟨w.heap.size+1,5,none⟩=some (.int .i64 mi)∧W2.drew.cell? ⟨w.heap.size+1+1,3,none⟩=some (.func (.func 82) #[.agg #[.pointer (some ⟨g,p*5,none⟩)]] #[]):=⟨q3,q5,qm⟩
 go_region_held3 (fun w'=>w'.cell? ⟨w.heap.size+1,3,none⟩=some (.int .i64 3)∧w'.cell? ⟨w.heap.size+1,5,none⟩=some (.int .i64 mi)∧w'.cell? ⟨w.heap.size+1+1,3,none⟩=some (.func (.func 82) #[.agg #[.pointer (some ⟨g,p*5,none⟩)]] #[]))
  (first | (with_reducible exact hI) | (with_reducible exact hI') | (with_reducible exact⟨b3,b5,bm⟩) | (with_reducible assumption))
  (first | (go_at_call 82; (with_reducible refine (hH _ sWd).mono ?_); rintro e w' ⟨l',rfl,hA',hm',hk'⟩; have b3:=zQ9 (hk'.far HA.out (w.heap.size+1) (by omega) (by show _<W2.heap.size; omega)) q3; have b5:=zQ9 (hk'.far HA.out (w.heap.size+1) (by omega) (by show _<W2.heap.size; omega)) q5; have bm:=zQ9 (hk'.far HA.out (w.heap.size+1+1) (by omega) (by show _<W2.heap.size; omega)) qm))
 have HG:=Lib.hid (HF.out W2.drew _ w' sWd ⟨l',rfl,hA',hm',hk'⟩)
 clear hA' hm' hk'
 go_wp2
 exact HG.out
set_option maxHeartbeats 8000000 in
set_option maxRecDepth 100000 in
theorem Tryz.handle4 (t src seq cd mi:Int) (w0:World) (B g c p:Nat) (l:List AttN) (w:World) (h:AllW w0 w B (.slice (some ⟨g,0,none⟩) l.length c) l) (hp:p<l.length) :
  Calls Tryz.prog 56 #[regV g (p*5),.agg #[.int .i64 t,.int .i64 src,.int .i64 seq,.int .i64 4,.int .i64 cd,.int .i64 mi]] w (HandPost w0 B (.slice (some ⟨g,0,none⟩) l.length c) l p g w (handleP 4 mi l[p].log)):=by
 have hH:∀W,w.Since w.heap.size W→Calls Tryz.prog 83 #[regV g (p*5),.int .i64 mi] W (HandPost w0 B (.slice (some ⟨g,0,none⟩) l.length c) l p g W (handleP 4 mi l[p].log)):=fun W hW=>Tryz.hand4 mi w0 B g c p l W (h.keep hW) hp
 obtain⟨P,hP⟩:∃P,P=HandPost w0 B (.slice (some ⟨g,0,none⟩) l.length c) l p g w (handleP 4 mi l[p].log):=⟨_,rfl⟩
 rw [← hP]
 have hfin:∀W e w',w.Since w.heap.size W→HandPost w0 B (.slice (some ⟨g,0,none⟩) l.length c) l p g W (handleP 4 mi l[p].log) e w'→P e w':=fun W e w' hW ⟨l',h1,h2,h3,h4⟩=>by
  rw [hP]
  exact⟨l',h1,h2,h3,h4.from' hW⟩
 have HF:=Lib.hid hfin
 have HA:=Lib.hid h
 generalize handleP 4 mi l[p].log=r at *
 clear h hP hfin
 unfold regV at *
 go_enter Tryz.func56,Tryz.ntmps56
 go_wp2_with fail
 have sW:w.Since w.heap.size (((w.alloc (.cells #[.pointer (some ⟨g,p*5,none⟩)] 120)).alloc (.cells #[.int .i64 t,.int .i64 src,.int .i64 seq,.int .i64 4,.int .i64 cd,.int .i64 mi] 42)).alloc (.cells #[.nilFunc,.func (.func 80) #[.agg #[.pointer (some ⟨g,p*5,none⟩)]] #[],.func (.func 81) #[.agg #[.pointer (some ⟨g,p*5,none⟩)]] #[],.func (.func 82) #[.agg #[.pointer (some ⟨g,p*5,none⟩)]] #[],.func (.func 83) #[.agg #[.pointer (some ⟨g,p*5,none⟩)]] #[],.func (.func 84) #[.agg #[.pointer (some ⟨g,p*5,none⟩)]] #[]] 148)):=(((World.Since.refl _ w).alloc (Nat.le_refl _) _).alloc (by simp) _).alloc (by simp; omega) _
 have n2:((((w.alloc (.cells #[.pointer (some ⟨g,p*5,none⟩)] 120)).alloc (.cells #[.int .i64 t,.int .i64 src,.int .i64 seq,.int .i64 4,.int .i64 cd,.int .i64 mi] 42)).alloc (.cells #[.nilFunc,.func (.func 80) #[.agg #[.pointer (some ⟨g,p*5,none⟩)]] #[],.func (.func 81) #[.agg #[.pointer (some ⟨g,p*5,none⟩)]] #[],.func (.func 82) #[.agg #[.pointer (some ⟨g,p*5,none⟩)]] #[],.func (.func 83) #[.agg #[.pointer (some ⟨g,p*5,none⟩)]] #[],.func (.func 84) #[.agg #[.pointer (some ⟨g,p*5,none⟩)]] #[]] 148))).heap.size=w.heap.size+3:=by simp
 have q3:((((w.alloc (.cells #[.pointer (some ⟨g,p*5,none⟩)] 120)).alloc (.cells #[.int .i64 t,.int .i64 src,.int .i64 seq,.int .i64 4,.int .i64 cd,.int .i64 mi] 42)).alloc (.cells #[.nilFunc,.func (.func 80) #[.agg #[.pointer (some ⟨g,p*5,none⟩)]] #[],.func (.func 81) #[.agg #[.pointer (some ⟨g,p*5,none⟩)]] #[],.func (.func 82) #[.agg #[.pointer (some ⟨g,p*5,none⟩)]] #[],.func (.func 83) #[.agg #[.pointer (some ⟨g,p*5,none⟩)]] #[],.func (.func 84) #[.agg #[.pointer (some ⟨g,p*5,none⟩)]] #[]] 148))).cell? ⟨w.heap.size+1,3,none⟩=some (.int .i64 4):=cell_blk (alloc3_b _ _ _ _) 3
 have q5:((((w.alloc (.cells #[.pointer (some ⟨g,p*5,none⟩)] 120)).alloc (.cells #[.int .i64 t,.int .i64 src,.int .i64 seq,.int .i64 4,.int .i64 cd,.int .i64 mi] 42)).alloc (.cells #[.nilFunc,.func (.func 80) #[.agg #[.pointer (some ⟨g,p*5,none⟩)]] #[],.func (.func 81) #[.agg #[.pointer (some ⟨g,p*5,none⟩)]] #[],.func (.func 82) #[.agg #[.pointer (some ⟨g,p*5,none⟩)]] #[],.func (.func 83) #[.agg #[.pointer (some ⟨g,p*5,none⟩)]] #[],.func (.func 84) #[.agg #[.pointer (some ⟨g,p*5,none⟩)]] #[]] 148))).cell? ⟨w.heap.size+1,5,none⟩=some (.int .i64 mi):=cell_blk (alloc3_b _ _ _ _) 5
 have qm:((((w.alloc (.cells #[.pointer (some ⟨g,p*5,none⟩)] 120)).alloc (.cells #[.int .i64 t,.int .i64 src,.int .i64 seq,.int .i64 4,.int .i64 cd,.int .i64 mi] 42)).alloc (.cells #[.nilFunc,.func (.func 80) #[.agg #[.pointer (some ⟨g,p*5,none⟩)]] #[],.func (.func 81) #[.agg #[.pointer (some ⟨g,p*5,none⟩)]] #[],.func (.func 82) #[.agg #[.pointer (some ⟨g,p*5,none⟩)]] #[],.func (.func 83) #[.agg #[.pointer (some ⟨g,p*5,none⟩)]] #[],.func (.func 84) #[.agg #[.pointer (some ⟨g,p*5,none⟩)]] #[]] 148))).cell? ⟨w.heap.size+1+1,4,none⟩=some (.func (.func 83) #[.agg #[.pointer (some ⟨g,p*5,none⟩)]] #[]):=cell_blk (alloc3_c _ _ _ _) 4
 generalize (((w.alloc (.cells #[.pointer (some ⟨g,p*5,none⟩)] 120)).alloc (.cells #[.int .i64 t,.int .i64 src,.int .i64 seq,.int .i64 4,.int .i64 cd,.int .i64 mi] 42)).alloc (.cells #[.nilFunc,.func (.func 80) #[.agg #[.pointer (some ⟨g,p*5,none⟩)]] #[],.func (.func 81) #[.agg #[.pointer (some ⟨g,p*5,none⟩)]] #[],.func (.func 82) #[.agg #[.pointer (some ⟨g,p*5,none⟩)]] #[],.func (.func 83) #[.agg #[.pointer (some ⟨g,p*5,none⟩)]] #[],.func (.func 84) #[.agg #[.pointer (some ⟨g,p*5,none⟩)]] #[]] 148))=W2 at *
 have sWd:w.Since w.heap.size W2.drew:=sW.drew
 have hI:W2.cell? ⟨w.heap.size+1,3,none⟩=some (.int .i64 4)∧W2.cell? ⟨w.heap.size+1,5,none⟩=some (.int .i64 mi)∧W2.cell? ⟨w.heap.size+1+1,4,none⟩=some (.func (.func 83) #[.agg #[.pointer (some ⟨g,p*5,none⟩)]] #[]):=⟨q3,q5,qm⟩
 have hI':W2.drew.cell? ⟨w.heap.size+1,3,none⟩=some (.int .i64 4)∧W2.drew.cell? ⟨w.heap.size+1,5,none⟩=some (.int .i64 mi)∧W2.drew.cell? ⟨w.heap.size+1+1,4,none⟩=some (.func (.func 83) #[.agg #[.pointer (some ⟨g,p*5,none⟩)]] #[]):=⟨q3,q5,qm⟩
 go_region_held3 (fun w'=>w'.cell? ⟨w.heap.size+1,3,none⟩=some (.int .i64 4)∧w'.cell? ⟨w.heap.size+1,5,none⟩=some (.int .i64 mi)∧w'.cell? ⟨w.heap.size+1+1,4,none⟩=some (.func (.func 83) #[.agg #[.pointer (some ⟨g,p*5,none⟩)]] #[]))
  (first | (with_reducible exact hI) | (with_reducible exact hI') | (with_reducible exact⟨b3,b5,bm⟩) | (with_reducible assumption))
  (first | (go_at_call 83; (with_reducible refine (hH _ sWd).mono ?_); rintro e w' ⟨l',rfl,hA',hm',hk'⟩; have b3:=zQ9 (hk'.far HA.out (w.heap.size+1) (by omega) (by show _<W2.heap.size; omega)) q3; have b5:=zQ9 (hk'.far HA.out (w.heap.size+1) (by omega) (by show _<W2.heap.size; omega)) q5; have bm:=zQ9 (hk'.far HA.out (w.heap.size+1+1) (by omega) (by show _<W2.heap.size; omega)) qm))
 have HG:=Lib.hid (HF.out W2.drew _ w' sWd ⟨l',rfl,hA',hm',hk'⟩)
 clear hA' hm' hk'
 go_wp2
 exact HG.out
set_option maxHeartbeats 8000000 in
set_option maxRecDepth 100000 in
theorem Tryz.handle5 (t src seq cd mi:Int) (w0:World) (B g c p:Nat) (l:List AttN) (w:World) (h:AllW w0 w B (.slice (some ⟨g,0,none⟩) l.length c) l) (hp:p<l.length) :
  Calls Tryz.prog 56 #[regV g (p*5),.agg #[.int .i64 t,.int .i64 src,.int .i64 seq,.int .i64 5,.int .i64 cd,.int .i64 mi]] w (HandPost w0 B (.slice (some ⟨g,0,none⟩) l.length c) l p g w (handleP 5 mi l[p].log)):=by
 have hH:∀W,w.Since w.heap.size W→Calls Tryz.prog 84 #[regV g (p*5),.int .i64 mi] W (HandPost w0 B (.slice (some ⟨g,0,none⟩) l.length c) l p g W (handleP 5 mi l[p].log)):=fun W hW=>Tryz.hand5 mi w0 B g c p l W (h.keep hW) hp
 obtain⟨P,hP⟩:∃P,P=HandPost w0 B (.slice (some ⟨g,0,none⟩) l.length c) l p g w (handleP 5 mi l[p].log):=⟨_,rfl⟩
 rw [← hP]
 have hfin:∀W e w',w.Since w.heap.size W→HandPost w0 B (.slice (some ⟨g,0,none⟩) l.length c) l p g W (handleP 5 mi l[p].log) e w'→P e w':=fun W e w' hW ⟨l',h1,h2,h3,h4⟩=>by
  rw [hP]
  exact⟨l',h1,h2,h3,h4.from' hW⟩
 have HF:=Lib.hid hfin
 have HA:=Lib.hid h
 generalize handleP 5 mi l[p].log=r at *
 clear h hP hfin
 unfold regV at *
 go_enter Tryz.func56,Tryz.ntmps56
 go_wp2_with fail
 have sW:w.Since w.heap.size (((w.alloc (.cells #[.pointer (some ⟨g,p*5,none⟩)] 120)).alloc (.cells #[.int .i64 t,.int .i64 src,.int .i64 seq,.int .i64 5,.int .i64 cd,.int .i64 mi] 42)).alloc (.cells #[.nilFunc,.func (.func 80) #[.agg #[.pointer (some ⟨g,p*5,none⟩)]] #[],.func (.func 81) #[.agg #[.pointer (some ⟨g,p*5,none⟩)]] #[],.func (.func 82) #[.agg #[.pointer (some ⟨g,p*5,none⟩)]] #[],.func (.func 83) #[.agg #[.pointer (some ⟨g,p*5,none⟩)]] #[],.func (.func 84) #[.agg #[.pointer (some ⟨g,p*5,none⟩)]] #[]] 148)):=(((World.Since.refl _ w).alloc (Nat.le_refl _) _).alloc (by simp) _).alloc (by simp; omega) _
 have n2:((((w.alloc (.cells #[.pointer (some ⟨g,p*5,none⟩)] 120)).alloc (.cells #[.int .i64 t,.int .i64 src,.int .i64 seq,.int .i64 5,.int .i64 cd,.int .i64 mi] 42)).alloc (.cells #[.nilFunc,.func (.func 80) #[.agg #[.pointer (some ⟨g,p*5,none⟩)]] #[],.func (.func 81) #[.agg #[.pointer (some ⟨g,p*5,none⟩)]] #[],.func (.func 82) #[.agg #[.pointer (some ⟨g,p*5,none⟩)]] #[],.func (.func 83) #[.agg #[.pointer (some ⟨g,p*5,none⟩)]] #[],.func (.func 84) #[.agg #[.pointer (some ⟨g,p*5,none⟩)]] #[]] 148))).heap.size=w.heap.size+3:=by simp
 have q3:((((w.alloc (.cells #[.pointer (some ⟨g,p*5,none⟩)] 120)).alloc (.cells #[.int .i64 t,.int .i64 src,.int .i64 seq,.int .i64 5,.int .i64 cd,.int .i64 mi] 42)).alloc (.cells #[.nilFunc,.func (.func 80) #[.agg #[.pointer (some ⟨g,p*5,none⟩)]] #[],.func (.func 81) #[.agg #[.pointer (some ⟨g,p*5,none⟩)]] #[],.func (.func 82) #[.agg #[.pointer (some ⟨g,p*5,none⟩)]] #[],.func (.func 83) #[.agg #[.pointer (some ⟨g,p*5,none⟩)]] #[],.func (.func 84) #[.agg #[.pointer (some ⟨g,p*5,none⟩)]] #[]] 148))).cell? ⟨w.heap.size+1,3,none⟩=some (.int .i64 5):=cell_blk (alloc3_b _ _ _ _) 3
 have q5:((((w.alloc (.cells #[.pointer (some ⟨g,p*5,none⟩)] 120)).alloc (.cells #[.int .i64 t,.int .i64 src,.int .i64 seq,.int .i64 5,.int .i64 cd,.int .i64 mi] 42)).alloc (.cells #[.nilFunc,.func (.func 80) #[.agg #[.pointer (some ⟨g,p*5,none⟩)]] #[],.func (.func 81) #[.agg #[.pointer (some ⟨g,p*5,none⟩)]] #[],.func (.func 82) #[.agg #[.pointer (some ⟨g,p*5,none⟩)]] #[],.func (.func 83) #[.agg #[.pointer (some ⟨g,p*5,none⟩)]] #[],.func (.func 84) #[.agg #[.pointer (some ⟨g,p*5,none⟩)]] #[]] 148))).cell? ⟨w.heap.size+1,5,none⟩=some (.int .i64 mi):=cell_blk (alloc3_b _ _ _ _) 5
 have qm:((((w.alloc (.cells #[.pointer (some ⟨g,p*5,none⟩)] 120)).alloc (.cells #[.int .i64 t,.int .i64 src,.int .i64 seq,.int .i64 5,.int .i64 cd,.int .i64 mi] 42)).alloc (.cells #[.nilFunc,.func (.func 80) #[.agg #[.pointer (some ⟨g,p*5,none⟩)]] #[],.func (.func 81) #[.agg #[.pointer (some ⟨g,p*5,none⟩)]] #[],.func (.func 82) #[.agg #[.pointer (some ⟨g,p*5,none⟩)]] #[],.func (.func 83) #[.agg #[.pointer (some ⟨g,p*5,none⟩)]] #[],.func (.func 84) #[.agg #[.pointer (some ⟨g,p*5,none⟩)]] #[]] 148))).cell? ⟨w.heap.size+1+1,5,none⟩=some (.func (.func 84) #[.agg #[.pointer (some ⟨g,p*5,none⟩)]] #[]):=cell_blk (alloc3_c _ _ _ _) 5
 generalize (((w.alloc (.cells #[.pointer (some ⟨g,p*5,none⟩)] 120)).alloc (.cells #[.int .i64 t,.int .i64 src,.int .i64 seq,.int .i64 5,.int .i64 cd,.int .i64 mi] 42)).alloc (.cells #[.nilFunc,.func (.func 80) #[.agg #[.pointer (some ⟨g,p*5,none⟩)]] #[],.func (.func 81) #[.agg #[.pointer (some ⟨g,p*5,none⟩)]] #[],.func (.func 82) #[.agg #[.pointer (some ⟨g,p*5,none⟩)]] #[],.func (.func 83) #[.agg #[.pointer (some ⟨g,p*5,none⟩)]] #[],.func (.func 84) #[.agg #[.pointer (some ⟨g,p*5,none⟩)]] #[]] 148))=W2 at *
 have sWd:w.Since w.heap.size W2.drew:=sW.drew
 have hI:W2.cell? ⟨w.heap.size+1,3,none⟩=some (.int .i64 5)∧W2.cell? ⟨w.heap.size+1,5,none⟩=some (.int .i64 mi)∧W2.cell? ⟨w.heap.size+1+1,5,none⟩=some (.func (.func 84) #[.agg #[.pointer (some ⟨g,p*5,none⟩)]] #[]):=⟨q3,q5,qm⟩
 have hI':W2.drew.cell? ⟨w.heap.size+1,3,none⟩=some (.int .i64 5)∧W2.drew.cell? ⟨w.heap.size+1,5,none⟩=some (.int .i64 mi)∧W2.drew.cell? ⟨w.heap.size+1+1,5,none⟩=some (.func (.func 84) #[.agg #[.pointer (some ⟨g,p*5,none⟩)]] #[]):=⟨q3,q5,qm⟩
 go_region_held3 (fun w'=>w'.cell? ⟨w.heap.size+1,3,none⟩=some (.int .i64 5)∧w'.cell? ⟨w.heap.size+1,5,none⟩=some (.int .i64 mi)∧w'.cell? ⟨w.heap.size+1+1,5,none⟩=some (.func (.func 84) #[.agg #[.pointer (some ⟨g,p*5,none⟩)]] #[]))
  (first | (with_reducible exact hI) | (with_reducible exact hI') | (with_reducible exact⟨b3,b5,bm⟩) | (with_reducible assumption))
  (first | (go_at_call 84; (with_reducible refine (hH _ sWd).mono ?_); rintro e w' ⟨l',rfl,hA',hm',hk'⟩; have b3:=zQ9 (hk'.far HA.out (w.heap.size+1) (by omega) (by show _<W2.heap.size; omega)) q3; have b5:=zQ9 (hk'.far HA.out (w.heap.size+1) (by omega) (by show _<W2.heap.size; omega)) q5; have bm:=zQ9 (hk'.far HA.out (w.heap.size+1+1) (by omega) (by show _<W2.heap.size; omega)) qm))
 have HG:=Lib.hid (HF.out W2.drew _ w' sWd ⟨l',rfl,hA',hm',hk'⟩)
 clear hA' hm' hk'
 go_wp2
 exact HG.out
theorem Tryz.handle_walk (x:RegR) (h1:1≤x.kind) (h5:x.kind≤5) (w0:World) (B g c p:Nat) (l:List AttN) (w:World) (h:AllW w0 w B (.slice (some ⟨g,0,none⟩) l.length c) l) (hp:p<l.length) :
  Calls Tryz.prog 56 #[regV g (p*5),x.val] w (HandPost w0 B (.slice (some ⟨g,0,none⟩) l.length c) l p g w (handleP x.kind x.mins l[p].log)):=by
 obtain⟨t,src,seq,kd,cd,mi⟩:=x
 have hk:kd=1∨kd=2∨kd=3∨kd=4∨kd=5:=by dsimp only at h1 h5; omega
 rcases hk with rfl | rfl | rfl | rfl | rfl
 ·exact Tryz.handle1 t src seq cd mi w0 B g c p l w h hp
 ·exact Tryz.handle2 t src seq cd mi w0 B g c p l w h hp
 ·exact Tryz.handle3 t src seq cd mi w0 B g c p l w h hp
 ·exact Tryz.handle4 t src seq cd mi w0 B g c p l w h hp
 ·exact Tryz.handle5 t src seq cd mi w0 B g c p l w h hp
end Go.Proofs
namespace Go.Proofs
open Go.RowKit Go.LS Go.Deep Go.Sort
set_option linter.all false
def badR (x:RegR):Prop:=x.kind<1∨5<x.kind∨x.mins<0∨600<x.mins
instance (x : RegR) : Decidable (badR x) := by unfold badR; infer_instance
def stepR (cen:Nat→Int) (place:Nat) (there:Bool) (x:RegR) (L:List At):Int×List At:=
 if badR x then (2,L) else if there=false then (4,L) else if x.src≠0∧x.src≠cen place then (28,L)
 else ((handleP x.kind x.mins (L.getD place (0,0,0,0,[]))).1,L.set place (handleP x.kind x.mins (L.getD place (0,0,0,0,[]))).2)
def StepRPost (w0:World) (B:Nat) (v:Value) (g:Nat) (l:List AttN) (w:World) (r:Int×List At) (e:Ending) (w':World):Prop:=
 ∃l',e = .returned (.int .i64 r.1)∧AllW w0 w' B v l'∧l'.map AttN.log=r.2∧Oth g l w w'
set_option maxHeartbeats 16000000 in
set_option maxRecDepth 100000 in
theorem Tryz.stepR_walk (x:RegR) (eao:Option Addr) (eb eo ecap:Nat) (cen:Nat→Int) (place:Nat) (there:Bool) (w0:World) (B g c:Nat) (l:List AttN) (w:World) (h:AllW w0 w B (.slice (some ⟨g,0,none⟩) l.length c) l)
  (hen:0<l.length→eao=some ⟨eb,eo,none⟩∧eb<w.heap.size) (hcen:∀i,i<l.length→w.cell? ⟨eb,eo+i*4+1,none⟩=some (.int .i64 (cen i))) (hth:there=true→place<l.length)
  (hb:∀W,w.Since w.heap.size W→Calls Tryz.prog 53 #[.slice eao l.length ecap,.int .i64 x.cand,.func (.func 54) #[] #[]] W fun e w'=>e = .returned (.tuple #[.int .i64 (place:Int),.bool there])∧W.Since W.heap.size w') :
  Calls Tryz.prog 35 #[.slice eao l.length ecap,.slice (some ⟨g,0,none⟩) l.length c,x.val] w (StepRPost w0 B (.slice (some ⟨g,0,none⟩) l.length c) g l w (stepR cen place there x (l.map AttN.log))):=by
 obtain⟨P,hP⟩:∃P,P=StepRPost w0 B (.slice (some ⟨g,0,none⟩) l.length c) g l w (stepR cen place there x (l.map AttN.log)):=⟨_,rfl⟩
 rw [← hP]
 have hstay:∀W k,w.Since w.heap.size W→stepR cen place there x (l.map AttN.log)=(k,l.map AttN.log)→P (.returned (.int .i64 k)) W:=fun W k hW hk=>by
  rw [hP,hk]
  exact⟨l,rfl,h.keep hW,rfl,oth_since hW⟩
 have HS:=Lib.hid hstay
 have HH:=Lib.hid (And.intro h (And.intro hP (And.intro hen (And.intro hcen hth))))
 have hb0:=hb _ ((World.Since.refl _ w).alloc (Nat.le_refl _) (.cells #[.int .i64 x.t,.int .i64 x.src,.int .i64 x.seq,.int .i64 x.kind,.int .i64 x.cand,.int .i64 x.mins] 42))
 have s0:w.Since w.heap.size (w.alloc (.cells #[.int .i64 x.t,.int .i64 x.src,.int .i64 x.seq,.int .i64 x.kind,.int .i64 x.cand,.int .i64 x.mins] 42)):=(World.Since.refl _ w).alloc (Nat.le_refl _) _
 have HS0:=Lib.hid s0
 have hblk:=heap_alloc_new w (.cells #[.int .i64 x.t,.int .i64 x.src,.int .i64 x.seq,.int .i64 x.kind,.int .i64 x.cand,.int .i64 x.mins] 42)
 unfold RegR.val
 clear h hP hstay hen hcen hth hb s0
 generalize hn:l.length=n at *
 by_cases a1:x.kind<1
 ·clear hb0 hblk
  go_enter Tryz.func35,Tryz.ntmps35
  go_wp2
  exact HS.out _ 2 HS0.out (if_pos (.inl a1))
 by_cases a2:5<x.kind
 ·clear hb0 hblk
  go_enter Tryz.func35,Tryz.ntmps35
  go_wp2
  exact HS.out _ 2 HS0.out (if_pos (.inr (.inl a2)))
 by_cases a3:x.mins<0
 ·clear hb0 hblk
  go_enter Tryz.func35,Tryz.ntmps35
  go_wp2
  exact HS.out _ 2 HS0.out (if_pos (.inr (.inr (.inl a3))))
 by_cases a4:600<x.mins
 ·clear hb0 hblk
  go_enter Tryz.func35,Tryz.ntmps35
  go_wp2
  exact HS.out _ 2 HS0.out (if_pos (.inr (.inr (.inr a4))))
 have hbad:¬ badR x:=by unfold badR; omega
 have HB:=Lib.hid hbad
 clear hbad
 go_enter Tryz.func35,Tryz.ntmps35
 go_wp2_with fail
 generalize w.alloc (.cells #[.int .i64 x.t,.int .i64 x.src,.int .i64 x.seq,.int .i64 x.kind,.int .i64 x.cand,.int .i64 x.mins] 42)=W0 at *
 refine hb0.mono ?_
 rintro e W1 ⟨rfl,s1⟩
 have hlt:w.heap.size<W0.heap.size:=(Array.getElem?_eq_some_iff.1 hblk).1
 have hblk1:=(s1.block _ hlt).trans hblk
 have hlt1:w.heap.size<W1.heap.size:=(Array.getElem?_eq_some_iff.1 hblk1).1
 have sW:w.Since w.heap.size W1:=HS0.out.trans (zJ9 s1 (by omega))
 have HS1:=Lib.hid sW
 have b0:=cell_blk hblk1 0; have b1:=cell_blk hblk1 1; have b2:=cell_blk hblk1 2; have b3:=cell_blk hblk1 3; have b4:=cell_blk hblk1 4; have b5:=cell_blk hblk1 5
 simp only [List.getElem?_toArray,List.getElem?_cons_zero,List.getElem?_cons_succ] at b0 b1 b2 b3 b4 b5
 clear hb0 hblk s1 sW
 cases there with
 | false=>
  clear hlt hblk1 b0 b1 b2 b3 b4 b5
  go_wp2
  exact HS.out _ 4 HS1.out (by unfold stepR; rw [if_neg HB.out,if_pos rfl])
 | true=>
  obtain⟨h,hP,hen,hcen,hth⟩:=HH.out
  have hpl:=hth rfl
  have hpn:place<n:=by omega
  obtain⟨rfl,heb⟩:=hen (by omega)
  have hce:=cell_since HS1.out (hcen place hpl)
  have hp0:(0:Int)≤(place:Int):=by omega
  have hp1:(place:Int)<(n:Int):=by omega
  have hpl':place<l.length:=by omega
  have HAW:=Lib.hid (show AllW w0 w B (.slice (some ⟨g,0,none⟩) l.length c) l by rw [hn]; exact h)
  have hHd:∀W,w.Since w.heap.size W→Calls Tryz.prog 56 #[.agg #[.pointer (some ⟨g,place*5,none⟩)],.agg #[.int .i64 x.t,.int .i64 x.src,.int .i64 x.seq,.int .i64 x.kind,.int .i64 x.cand,.int .i64 x.mins]] W fun e w'=>∃r,e = .returned (.int .i64 r)∧(¬ (x.src≠0∧x.src≠cen place)→P (.returned (.int .i64 r)) w')∧Oth g l W w':=fun W hW=>by
   have h1:=Tryz.handle_walk x (by omega) (by omega) w0 B g c place l W (by rw [hn]; exact h.keep hW) hpl'
   refine h1.mono ?_
   rintro e w' ⟨l',rfl,q1,q2,q3⟩
   refine⟨_,rfl,fun hf=>?_,q3⟩
   have hget:(l.map AttN.log).getD place (0,0,0,0,[])=l[place].log:=by rw [List.getD_eq_getElem?_getD,List.getElem?_map,List.getElem?_eq_getElem hpl']; rfl
   have hst:stepR cen place true x (l.map AttN.log)=((handleP x.kind x.mins l[place].log).1,(l.map AttN.log).set place (handleP x.kind x.mins l[place].log).2):=by
    unfold stepR
    rw [if_neg HB.out,if_neg (by simp),if_neg hf,hget]
   rw [hP,hst]
   exact⟨l',rfl,by rw [hn] at q1; exact q1,q2,q3.from' hW⟩
  clear h hP hen hcen hth HH
  by_cases hs0:x.src=0
  ·have HF0:=Lib.hid (show ¬ (x.src≠0∧x.src≠cen place) from fun e=>e.1 hs0)
   have hq0:(x.src != 0)=false:=by simpa using hs0
   clear hs0
   go_wp2_with fail
   go_quiet (fail)
   rename_i nq _
   have sq1:=HS1.out.trans (zJ9 (since_drewN W1 (nq+1)) HS1.out.size)
   go_wp2_with fail
   go_region_held3 (fun w'=>w'.cell? ⟨w.heap.size,0,none⟩=some (.int .i64 x.t)∧w'.cell? ⟨w.heap.size,1,none⟩=some (.int .i64 x.src)∧w'.cell? ⟨w.heap.size,2,none⟩=some (.int .i64 x.seq)∧w'.cell? ⟨w.heap.size,3,none⟩=some (.int .i64 x.kind)∧w'.cell? ⟨w.heap.size,4,none⟩=some (.int .i64 x.cand)∧w'.cell? ⟨w.heap.size,5,none⟩=some (.int .i64 x.mins))
    (first | (with_reducible exact⟨b0,b1,b2,b3,b4,b5⟩) | (with_reducible exact⟨d0,d1,d2,d3,d4,d5⟩) | (with_reducible assumption) | go_keep)
    (first | (go_at_call 56; (with_reducible refine (hHd _ sq1).mono ?_); rintro e w9 ⟨r,rfl,hr,hkp⟩; have e9:=hkp.far HAW.out w.heap.size (Nat.le_refl _) hlt1; have d0:=zQ9 e9 b0; have d1:=zQ9 e9 b1; have d2:=zQ9 e9 b2; have d3:=zQ9 e9 b3; have d4:=zQ9 e9 b4; have d5:=zQ9 e9 b5))
   all_goals
    have HR:=Lib.hid (hr HF0.out)
    clear hr hHd
    go_wp2
    exact HR.out
  ·have hq0:(x.src != 0)=true:=by simpa using hs0
   by_cases hs1:x.src=cen place
   ·have HF0:=Lib.hid (show ¬ (x.src≠0∧x.src≠cen place) from fun e=>e.2 hs1)
    have hq1:(x.src != cen place)=false:=by simpa using hs1
    clear hs1
    generalize cen place=ce at *
    go_wp2_with fail
    go_quiet (fail)
    rename_i nq _
    have sq1:=HS1.out.trans (zJ9 (since_drewN W1 (nq+1)) HS1.out.size)
    go_wp2_with fail
    go_region_held3 (fun w'=>w'.cell? ⟨w.heap.size,0,none⟩=some (.int .i64 x.t)∧w'.cell? ⟨w.heap.size,1,none⟩=some (.int .i64 x.src)∧w'.cell? ⟨w.heap.size,2,none⟩=some (.int .i64 x.seq)∧w'.cell? ⟨w.heap.size,3,none⟩=some (.int .i64 x.kind)∧w'.cell? ⟨w.heap.size,4,none⟩=some (.int .i64 x.cand)∧w'.cell? ⟨w.heap.size,5,none⟩=some (.int .i64 x.mins))
     (first | (with_reducible exact⟨b0,b1,b2,b3,b4,b5⟩) | (with_reducible exact⟨d0,d1,d2,d3,d4,d5⟩) | (with_reducible assumption) | go_keep)
     (first | (go_at_call 56; (with_reducible refine (hHd _ sq1).mono ?_); rintro e w9 ⟨r,rfl,hr,hkp⟩; have e9:=hkp.far HAW.out w.heap.size (Nat.le_refl _) hlt1; have d0:=zQ9 e9 b0; have d1:=zQ9 e9 b1; have d2:=zQ9 e9 b2; have d3:=zQ9 e9 b3; have d4:=zQ9 e9 b4; have d5:=zQ9 e9 b5))
    all_goals
     have HR:=Lib.hid (hr HF0.out)
     clear hr hHd
     go_wp2
     exact HR.out
   ·have hq1:(x.src != cen place)=true:=by simpa using hs1
    have hfin:=fun W (hW:w.Since w.heap.size W)=>HS.out W 28 hW (by unfold stepR; rw [if_neg HB.out,if_neg (by simp),if_pos ⟨hs0,hs1⟩])
    have HF:=Lib.hid hfin
    clear hfin hHd
    go_wp2_with fail
    go_quiet (fail)
    rename_i nq _
    have sq:=HS1.out.trans (zJ9 (since_drewN W1 nq) HS1.out.size)
    go_wp2
    exact HF.out _ sq
end Go.Proofs
namespace Go.Proofs
open Go.RowKit Go.LS Go.Deep Go.Sort
set_option linter.all false
def zeroA:AttN:=⟨0,0,0,0,.slice none 0 0,[]⟩
theorem made_zeroA (n:Nat):(madeCells (Value.agg #[.int .i64 0,.int .i64 0,.int .i64 0,.int .i64 0,.slice none 0 0]).cells (n*5)).toList=cellsA (List.replicate n zeroA):=by
 refine List.ext_getElem? fun i=>?_
 have hl:(cellsA (List.replicate n zeroA)).length=n*5:=by rw [cellsA_len,List.length_replicate]
 by_cases hi:i<n*5
 ·have h1:(cellsA (List.replicate n zeroA))[i]?=zeroA.cells[i % 5]?:=by
   have:=flat_get AttN.cells 5 (fun _=>rfl) (List.replicate n zeroA) (i / 5) (i % 5) (by rw [List.length_replicate]; omega) (by omega)
   rw [show i / 5*5+i % 5=i by omega] at this
   rw [show cellsA (List.replicate n zeroA)=(List.replicate n zeroA).flatMap AttN.cells from rfl,this]
   simp
  rw [h1]
  simp only [madeCells,Array.toList_map,List.getElem?_map]
  rw [show (Array.range (n*5)).toList[i]?=some i by simp [hi]]
  have h2:i % 5<5:=by omega
  show some ((#[Value.int .i64 0,.int .i64 0,.int .i64 0,.int .i64 0,.slice none 0 0]:Array Value)[i % 5]!)=_
  generalize i % 5=j at *
  match j,h2 with
  | 0,_ | 1,_ | 2,_ | 3,_ | 4,_=>rfl
 ·rw [List.getElem?_eq_none (by simp [madeCells]; omega),List.getElem?_eq_none (by rw [hl]; omega)]
theorem set_five (l:List AttN) (m:Nat) (y:AttN) (k:Nat) (hk:k=l.length) :
  (((((cellsA (l++List.replicate (m+1) zeroA)).set (k*5) (.int .i64 y.cand)).set (k*5+1) (.int .i64 y.state)).set (k*5+2) (.int .i64 y.late)).set (k*5+3) (.int .i64 y.left)).set (k*5+4) y.vi=cellsA ((l++[y])++List.replicate m zeroA):=by
 subst hk
 have hl:=cellsA_len l
 rw [cellsA_app,set_at _ _ 0 _ _ (by omega),set_at _ _ 1 _ _ (by omega),set_at _ _ 2 _ _ (by omega),set_at _ _ 3 _ _ (by omega),set_at _ _ 4 _ _ (by omega),cellsA_app,cellsA_app,List.append_assoc]
 rfl
def noneA (c:Int):AttN:=⟨c,0,-1,-1,.slice none 0 0,[]⟩
def rawA (cand:Nat→Int) (n:Nat):List AttN:=(List.range n).map fun i=>noneA (cand i)
theorem rawA_succ (cand:Nat→Int) (n:Nat):rawA cand (n+1)=rawA cand n++[noneA (cand n)]:=by unfold rawA; rw [List.range_succ,List.map_append]; rfl
theorem rawA_len (cand:Nat→Int) (n:Nat):(rawA cand n).length=n:=by simp [rawA]
theorem famA_raw (w:World) (B:Nat) (cand:Nat→Int) (n:Nat):FamI w B (famA (rawA cand n))∧∀p∈famA (rawA cand n),p=(.slice none 0 0,[]):=by
 have h:∀p∈famA (rawA cand n),p=(.slice none 0 0,[]):=fun p hp=>by
  unfold famA rawA at hp
  simp only [List.mem_map,List.mem_range] at hp
  obtain⟨a,⟨i,_,rfl⟩,rfl⟩:=hp
  rfl
 refine⟨⟨fun p hp=>?_,?_⟩,h⟩
 ·rw [h p hp]; exact World.ownsRow_nil _ _ _ _
 ·refine List.pairwise_of_forall_mem_list fun a ha b hb=>?_
  rw [h a ha]; exact .inl rfl
structure MakeW (w wr:World) (B g n k:Nat) (cand:Nat→Int):Prop where
 since:w.Since B wr
 le:B≤wr.heap.size
 own:wr.ownsRow B 60 5 (.slice (some ⟨g,0,none⟩) n n) n (cellsA (rawA cand k++List.replicate (n - k) zeroA))
theorem MakeW.keep {w wr w':World}{B g n k:Nat}{cand:Nat→Int}(h:MakeW w wr B g n k cand) (hs:wr.Since wr.heap.size w'):MakeW w w' B g n k cand:=
 ⟨h.since.trans (zJ9 hs h.le),Nat.le_trans h.le hs.size,own_keep h.own hs⟩
theorem MakeW.put {w wr:World}{B g n k:Nat}{cand:Nat→Int}(h:MakeW w wr B g n k cand) (hk:k<n) :
  MakeW w (((((wr.setCell ⟨g,k*5,none⟩ (.int .i64 (cand k))).setCell ⟨g,k*5+1,none⟩ (.int .i64 0)).setCell ⟨g,k*5+2,none⟩ (.int .i64 (-1))).setCell ⟨g,k*5+3,none⟩ (.int .i64 (-1))).setCell ⟨g,k*5+4,none⟩ (.slice none 0 0)) B g n (k+1) cand:=by
 have hg:=h.own.lt g rfl
 have hB:=hg.1
 refine⟨zE9 (zE9 (zE9 (zE9 (zE9 h.since _ _ _ hB) _ _ _ hB) _ _ _ hB) _ _ _ hB) _ _ _ hB,by simp only [World.setCell,Array.size_modify]; exact h.le,?_⟩
 have o5:=own_set (own_set (own_set (own_set (own_set h.own (k*5) (by omega) (.int .i64 (cand k))) (k*5+1) (by omega) (.int .i64 0)) (k*5+2) (by omega) (.int .i64 (-1))) (k*5+3) (by omega) (.int .i64 (-1))) (k*5+4) (by omega) (.slice none 0 0)
 rw [show n - k=(n - (k+1))+1 by omega] at o5
 have:=set_five (rawA cand k) (n - (k+1)) (noneA (cand k)) k (rawA_len cand k).symm
 simp only [noneA] at this
 rw [this] at o5
 rw [rawA_succ]
 exact o5
theorem MakeW.done {w wr:World}{B g n:Nat}{cand:Nat→Int}(h:MakeW w wr B g n n cand):AllW w wr B (.slice (some ⟨g,0,none⟩) n n) (rawA cand n):=by
 have o:=h.own
 rw [Nat.sub_self,List.replicate_zero,List.append_nil] at o
 refine⟨h.since,h.le,by rw [rawA_len]; exact o,(famA_raw _ _ _ _).1,fun p hp=>?_⟩
 rw [(famA_raw wr B cand n).2 p hp]
 exact .inr (.inl rfl)
def runR (cen:Nat→Int) (plc:Int→Nat×Bool) (till:Int):List RegR→List At×List (Int×Int×Int)→List At×List (Int×Int×Int)
 | [],s=>s
 | x :: X,s=>if till<x.t then s else
   let r:=stepR cen (plc x.cand).1 (plc x.cand).2 x s.1
   runR cen plc till X (r.2,if r.1=0 then s.2 else s.2++[(x.src,x.seq,r.1)])
def refZ (R:List (Int×Int×Int)):List Value:=R.flatMap fun r=>[.int .i64 r.1,.int .i64 r.2.1,.int .i64 r.2.2]
theorem refZ_app (R S:List (Int×Int×Int)):refZ (R++S)=refZ R++refZ S:=by simp [refZ]
theorem own_types {w:World}{B B' e e' s s' n n':Nat}{v v':Value}{xs xs':List Value}(h:w.ownsRow B e s v n xs) (h':w.ownsRow B' e' s' v' n' xs') (hne:e≠e'):apart v v':=by
 rcases h.2 with⟨rfl,_⟩ | ⟨g,c,cur,rfl,_,h1,_⟩
 ·exact .inl rfl
 ·rcases h'.2 with⟨rfl,_⟩ | ⟨g',c',cur',rfl,_,h2,_⟩
  ·exact .inr (.inl rfl)
  ·refine .inr (.inr fun e=>?_)
   have e:g=g':=Option.some.inj e
   subst e
   rw [h1] at h2
   injection h2 with h3
   injection h3 with _ h4 _
   exact hne h4
structure FoldW (w wr:World) (B g n c:Nat) (l:List AttN) (vr:Value) (R:List (Int×Int×Int)):Prop where
 all:AllW w wr B (.slice (some ⟨g,0,none⟩) n c) l
 len:l.length=n
 own:wr.ownsRow B 86 3 vr R.length (refZ R)
theorem FoldW.keep {w wr w':World}{B g n c:Nat}{l:List AttN}{vr:Value}{R:List (Int×Int×Int)}(h:FoldW w wr B g n c l vr R) (hs:wr.Since wr.heap.size w'):FoldW w w' B g n c l vr R:=
 ⟨h.all.keep hs,h.len,own_keep h.own hs⟩
theorem FoldW.step {w wr w':World}{B g n c:Nat}{l l':List AttN}{vr:Value}{R:List (Int×Int×Int)}(h:FoldW w wr B g n c l vr R) (ha:AllW w w' B (.slice (some ⟨g,0,none⟩) n c) l') (hl:l'.length=n) (ho:Oth g l wr w'):FoldW w w' B g n c l' vr R:=by
 refine⟨ha,hl,?_⟩
 have hv:=own_types h.own h.all.own (by decide)
 have hf:∀q∈famA l,apart vr q.1:=fun q hq=>own_types h.own (h.all.fam.own q hq) (by decide)
 have o:=h.own
 refine⟨o.1,?_⟩
 rcases o.2 with h1 | ⟨k,cp,cur,rfl,hb,hc,h2⟩
 ·exact .inl h1
 ·refine .inr ⟨k,cp,cur,rfl,hb,(ho.2 k (Array.getElem?_eq_some_iff.1 hc).1 ?_ ?_).trans hc,h2⟩
  ·intro e; subst e
   rcases hv with h | h | h
   ·cases h
   ·cases h
   ·exact h rfl
  ·intro q hq e
   rcases hf q hq with h | h | h
   ·cases h
   ·rw [h] at e; cases e
   ·exact h e.symm
theorem FoldW.refuse {w wr w':World}{B g n c:Nat}{l:List AttN}{vr vr':Value}{R:List (Int×Int×Int)}{r:Int×Int×Int}(h:FoldW w wr B g n c l vr R) (hg:wr.grownBy w' vr.ownBlock) (ho:w'.ownsRow B 86 3 vr' (R.length+1) (refZ R++[.int .i64 r.1,.int .i64 r.2.1,.int .i64 r.2.2])):FoldW w w' B g n c l vr' (R++[r]):=by
 have hv:=own_types h.own h.all.own (by decide)
 have hf:∀q∈famA l,apart vr q.1:=fun q hq=>own_types h.own (h.all.fam.own q hq) (by decide)
 have hne:∀u:Value,apart vr u→u.ownBlock=none∨u.ownBlock≠vr.ownBlock:=fun u hu=>by
  rcases hu with h | h | h
  ·rw [h]; cases u.ownBlock <;> simp
  ·exact .inl h
  ·exact .inr (Ne.symm h)
 refine⟨⟨h.all.since.grown hg h.all.le fun k hk=>(h.own.lt k hk).1,Nat.le_trans h.all.le hg.size,h.all.own.kept hg (hne _ hv),h.all.fam.kept hg fun q hq=>hne _ (hf q hq),h.all.ap⟩,h.len,?_⟩
 rw [List.length_append,List.length_singleton,refZ_app]
 exact ho
end Go.Proofs
namespace Go.Proofs
open Go.RowKit Go.LS Go.Deep Go.Sort
set_option linter.all false
theorem Tryz.info60:(Tryz.prog.info? 60).map (fun i=>(i.zero,i.size,i.bytes))=some (some (.agg #[.int .i64 0,.int .i64 0,.int .i64 0,.int .i64 0,.slice none 0 0]),5,56):=by kernel_rfl
theorem Tryz.info86:(Tryz.prog.info? 86).map (fun i=>(i.zero,i.size,i.bytes))=some (some (.agg #[.int .i64 0,.int .i64 0,.int .i64 0]),3,24):=by kernel_rfl
def EvAt (w:World) (xa:Option Addr) (X:List RegR):Prop:=0<X.length→∃xb xo,xa=some ⟨xb,xo,none⟩∧xb<w.heap.size∧∀i (hi:i<X.length),w.cell? ⟨xb,xo+i*6,none⟩=some (.int .i64 X[i].t)∧w.cell? ⟨xb,xo+i*6+1,none⟩=some (.int .i64 X[i].src)∧w.cell? ⟨xb,xo+i*6+2,none⟩=some (.int .i64 X[i].seq)∧w.cell? ⟨xb,xo+i*6+3,none⟩=some (.int .i64 X[i].kind)∧w.cell? ⟨xb,xo+i*6+4,none⟩=some (.int .i64 X[i].cand)∧w.cell? ⟨xb,xo+i*6+5,none⟩=some (.int .i64 X[i].mins)
theorem own_up {w:World}{B e s n c g:Nat}{xs:List Value}(h:w.ownsRow B e s (.slice (some ⟨g,0,none⟩) n c) n xs){B':Nat}(hB:B'≤g):w.ownsRow B' e s (.slice (some ⟨g,0,none⟩) n c) n xs:=by
 refine⟨h.1,?_⟩
 rcases h.2 with⟨h1,_⟩ | ⟨g',cp,cur,e1,hb,rest⟩
 ·cases h1
 ·cases e1
  exact .inr ⟨g,c,cur,rfl,hB,rest⟩
theorem FoldW.down {w w3 w':World}{B g n c:Nat}{l:List AttN}{vr:Value}{R:List (Int×Int×Int)}(h:FoldW w3 w' B g n c l vr R) (hs:w.Since w.heap.size w3) (hB:w.heap.size≤B):FoldW w w' w.heap.size g n c l vr R:=
 ⟨⟨hs.trans (zJ9 h.all.since hB),Nat.le_trans hB h.all.le,own_base h.all.own hB,h.all.fam.base hB,h.all.ap⟩,h.len,own_base h.own hB⟩
theorem stepR_len (cen:Nat→Int) (place:Nat) (there:Bool) (x:RegR) (L:List At):(stepR cen place there x L).2.length=L.length:=by
 unfold stepR
 split
 ·rfl
 ·split
  ·rfl
  ·split
   ·rfl
   ·simp
set_option maxHeartbeats 16000000 in
set_option maxRecDepth 100000 in
theorem Tryz.FoldR_walk (eao:Option Addr) (eb eo n ecap:Nat) (cand cen pap:Nat→Int) (lat:Nat→Bool) (rv:Value) (X:List RegR) (till:Int) (plc:Int→Nat×Bool) (w:World) (hn:n≤250) (hX:X.length≤1000)
  (hen:0<n→eao=some ⟨eb,eo,none⟩∧eb<w.heap.size) (hE:∀i,i<n→w.cell? ⟨eb,eo+i*4,none⟩=some (.int .i64 (cand i))∧w.cell? ⟨eb,eo+i*4+1,none⟩=some (.int .i64 (cen i))∧w.cell? ⟨eb,eo+i*4+2,none⟩=some (.int .i64 (pap i))∧w.cell? ⟨eb,eo+i*4+3,none⟩=some (.bool (lat i)))
  (hth:∀c,(plc c).2=true→(plc c).1<n)
  (hck:∀W,w.Since w.heap.size W→Calls Tryz.prog 33 #[.slice eao n ecap] W fun e w'=>e = .returned (.int .i64 0)∧W.Since W.heap.size w')
  (hcan:∀W,w.Since w.heap.size W→Calls Tryz.prog 34 #[rv] W fun e w'=>∃xa xc,e = .returned (.tuple #[.slice xa X.length xc,.int .i64 0])∧W.Since W.heap.size w'∧EvAt w' xa X)
  (hb:∀c W,w.Since w.heap.size W→Calls Tryz.prog 53 #[.slice eao n ecap,.int .i64 c,.func (.func 54) #[] #[]] W fun e w'=>e = .returned (.tuple #[.int .i64 ((plc c).1:Int),.bool (plc c).2])∧W.Since W.heap.size w') :
  Calls Tryz.prog 11 #[.slice eao n ecap,rv,.int .i64 till] w fun e w'=>∃g vr l R,e = .returned (.tuple #[.slice (some ⟨g,0,none⟩) n n,vr,.int .i64 0])∧FoldW w w' w.heap.size g n n l vr R∧(l.map AttN.log,R)=runR cen plc till X ((rawA cand n).map AttN.log,[]):=by
 obtain⟨i6,hi6,hz60,hz61,hz62⟩:=info_parts Tryz.info60
 obtain⟨i8,hi8,hz80,hz81,hz82⟩:=info_parts Tryz.info86
 have hk0:=hck w (World.Since.refl _ _)
 have HH:=Lib.hid (And.intro hen (And.intro hE (And.intro hth (And.intro hb hcan))))
 clear hen hE hth hb hcan hck
 go_enter Tryz.func11,Tryz.ntmps11
 go_wp2_with fail
 refine hk0.mono ?_
 rintro e W1 ⟨rfl,s1⟩
 have hc1:=HH.out.2.2.2.2 W1 s1
 have HS1:=Lib.hid s1
 clear hk0 s1
 go_wp2_with fail
 refine hc1.mono ?_
 rintro e W2 ⟨xa,xc,rfl,s2,hev⟩
 have s2':=HS1.out.trans (zJ9 s2 HS1.out.size)
 have HS2:=Lib.hid (And.intro s2' hev)
 have hle2:=s2'.size
 clear hc1 s2 s2' hev HS1
 go_wp2_with (first
  | (refine wpList_make_full _ rfl _ _ 50 rfl W2.heap.size 60 i6 _ 5 Tryz.underlying50 hi6 hz60 hz61 .i64 .i64 _ _ n rfl rfl rfl rfl (by rw [hz62]; omega) (by unfold maxLen; omega) (Nat.le_refl _) ?_; intro w3 hown3 hg3))
 rw [made_zeroA] at hown3
 have h0:MakeW w w3 w.heap.size W2.heap.size n 0 cand:=⟨since_none HS2.out.1 hle2 hg3,Nat.le_trans hle2 hg3.size,own_base (by simpa [rawA] using hown3) hle2⟩
 have hev3:EvAt w3 xa X:=fun h=>by
  obtain⟨xb,xo,e,hx,hc⟩:=HS2.out.2 h
  have up:∀ {o:Nat} {v:Value},W2.cell? ⟨xb,o,none⟩=some v→w3.cell? ⟨xb,o,none⟩=some v:=fun {o v} h=>zQ9 (hg3.block xb hx (by simp)) h
  exact⟨xb,xo,e,Nat.lt_of_lt_of_le hx hg3.size,fun i hi=>by
   obtain⟨q0,q1,q2,q3,q4,q5⟩:=hc i hi
   exact⟨up q0,up q1,up q2,up q3,up q4,up q5⟩⟩
 have HW3:=Lib.hid h0.since
 generalize hgN:W2.heap.size=gN at *
 have hxl:∀xb xo:Nat,xa=some ⟨xb,xo,none⟩→0<X.length→xb<gN:=fun xb xo e h=>by
  obtain⟨xb',xo',e',hx,_⟩:=HS2.out.2 h
  rw [e] at e'; cases e'; omega
 have HX:=Lib.hid (And.intro hev3 hxl)
 have hgw:gN<w3.heap.size:=(h0.own.lt gN rfl).2
 clear hown3 hg3 HS2 hev3 hxl hgN
 go_loopw [37] (fun v wr=>∃k:Nat,k≤n∧v = .int .i64 k∧w3.Since gN wr∧w3.heap.size≤wr.heap.size∧MakeW w wr w.heap.size gN n k cand) (fun v _=>n - (RowKit.intOf v).toNat)
 case atStart=>exact⟨0,Nat.zero_le _,rfl,World.Since.refl _ _,Nat.le_refl _,h0⟩
 case round=>
  clear h0
  obtain⟨k,hk,rfl,hs3,hz3,hM⟩:=hrel
  by_cases hkl:k<n
  ·obtain⟨hen,hE,-⟩:=HH.out
   obtain⟨rfl,heb⟩:=hen (by omega)
   obtain⟨e0,e1,e2,e3⟩:=hE k hkl
   have up:∀ {o:Nat} {v:Value},w.cell? ⟨eb,o,none⟩=some v→wr.cell? ⟨eb,o,none⟩=some v:=fun {o v} h=>(hM.since.cell (a:=⟨eb,o,none⟩) heb).trans h
   have e0:=up e0; have e1:=up e1; have e2:=up e2; have e3:=up e3
   have hki:(k:Int)<(n:Int):=by omega
   have hcl:∀j,j<5→∃u,wr.cell? ⟨gN,k*5+j,none⟩=some u:=fun j hj=>by
    have hlt:k*5+j<(cellsA (rawA cand k++List.replicate (n - k) zeroA)).length:=by rw [cellsA_len,List.length_append,rawA_len,List.length_replicate]; omega
    exact⟨_,(hM.own.cellAt (k*5+j) (by omega)).trans (List.getElem?_eq_getElem hlt)⟩
   obtain⟨z0,y0⟩:=hcl 0 (by omega); obtain⟨z1,y1⟩:=hcl 1 (by omega); obtain⟨z2,y2⟩:=hcl 2 (by omega); obtain⟨z3,y3⟩:=hcl 3 (by omega); obtain⟨z4,y4⟩:=hcl 4 (by omega)
   rw [Nat.add_zero] at y0
   have f0:=hM.own.frozenAt (k*5); have f1:=hM.own.frozenAt (k*5+1); have f2:=hM.own.frozenAt (k*5+2); have f3:=hM.own.frozenAt (k*5+3); have f4:=hM.own.frozenAt (k*5+4)
   have m0:=World.new_ne wr _ y0; have m01:=World.new_ne wr _ y1; have m02:=World.new_ne wr _ y2; have m03:=World.new_ne wr _ y3; have m04:=World.new_ne wr _ y4
   have l0:=World.block_lt_of_cell? wr _ y0; have l1:=World.block_lt_of_cell? wr _ y1; have l2:=World.block_lt_of_cell? wr _ y2; have l3:=World.block_lt_of_cell? wr _ y3; have l4:=World.block_lt_of_cell? wr _ y4
   have m1:¬ gN=wr.heap.size:=by omega
   have m2:¬ wr.heap.size=gN:=by omega
   have hP:=(hM.put hkl).keep ((World.Since.refl _ _).alloc (Nat.le_refl _) (.cells #[.int .i64 (cand k),.int .i64 (cen k),.int .i64 (pap k),.bool (lat k)] 91))
   have hP2:=(hM.keep ((World.Since.refl _ _).alloc (Nat.le_refl _) (.cells #[.int .i64 (cand k),.int .i64 (cen k),.int .i64 (pap k),.bool (lat k)] 91))).put hkl
   have hS2:=zE9 (zE9 (zE9 (zE9 (zE9 hs3 gN (k*5) (.int .i64 (cand k)) (Nat.le_refl _)) gN (k*5+1) (.int .i64 0) (Nat.le_refl _)) gN (k*5+2) (.int .i64 (-1)) (Nat.le_refl _)) gN (k*5+3) (.int .i64 (-1)) (Nat.le_refl _)) gN (k*5+4) (.slice none 0 0) (Nat.le_refl _)
   have HP:=Lib.hid (And.intro hP (And.intro hP2 (And.intro hS2 hs3)))
   clear hP hP2 hS2 hs3 hM hcl hen hE HH HX
   go_wp2
   exact⟨⟨k+1,by omega,by simp,HP.out.2.2.1.alloc (by simp only [World.setCell,Array.size_modify]; omega) _,by simp [World.setCell]; omega,HP.out.1⟩,by simp [RowKit.intOf]; omega⟩
  ·have hke:k=n:=by omega
   subst hke
   have hF0:FoldW w3 wr gN gN k k (rawA cand k) (.slice none 0 0) []:=by
    have hd:=hM.done
    have ho:=hd.own
    rw [rawA_len] at ho
    exact⟨⟨hs3,by omega,by rw [rawA_len]; exact own_up ho (Nat.le_refl _),(famA_raw _ _ _ _).1,hd.ap⟩,rawA_len _ _,World.ownsRow_nil _ _ _ _⟩
   have hgl:gN<wr.heap.size:=by omega
   clear hM
   rename World=>wS
   go_wp2
   go_loopw [15,52] (fun v15 v wi=>∃ (j:Nat) (l:List AttN) (R:List (Int×Int×Int)),j≤X.length∧R.length≤j∧v = .int .i64 j∧gN<wi.heap.size∧FoldW w3 wi gN gN k k l v15 R∧runR cen plc till X ((rawA cand k).map AttN.log,[])=runR cen plc till (X.drop j) (l.map AttN.log,R)) (fun _ v _=>X.length - (RowKit.intOf v).toNat)
   case atStart=>exact⟨0,_,[],Nat.zero_le _,Nat.le_refl _,rfl,hgl,hF0,rfl⟩
   case round=>
    clear hF0 hs3 hz3
    obtain⟨j,l,R,hj,hRj,rfl,hgi,hF,hrun⟩:=hrel
    have hsi:=hF.all.since
    by_cases hjl:j<X.length
    ·obtain⟨hev3,hxl⟩:=HX.out
     obtain⟨xb,xo,rfl,hxb,hcx⟩:=hev3 (by omega)
     have hxg:=hxl xb xo rfl (by omega)
     obtain⟨q0,q1,q2,q3,q4,q5⟩:=hcx j hjl
     have up:∀ {o:Nat} {v:Value},w3.cell? ⟨xb,o,none⟩=some v→wr.cell? ⟨xb,o,none⟩=some v:=fun {o v} h=>zQ9 (hsi.block xb hxg) h
     have q0:=up q0; have q1:=up q1; have q2:=up q2; have q3:=up q3; have q4:=up q4; have q5:=up q5
     have hji:(j:Int)<(X.length:Int):=by omega
     rw [List.drop_eq_getElem_cons hjl] at hrun
     generalize hx:X[j]=x at *
     by_cases ht:till<x.t
     ·have hfin:(l.map AttN.log,R)=runR cen plc till X ((rawA cand k).map AttN.log,[]):=by rw [hrun]; simp only [runR,if_pos ht]
      have HR:=Lib.hid (And.intro hfin (hF.keep ((World.Since.refl _ _).alloc (Nat.le_refl _) (.cells #[.int .i64 x.t,.int .i64 x.src,.int .i64 x.seq,.int .i64 x.kind,.int .i64 x.cand,.int .i64 x.mins] 42))))
      clear hfin hrun hF hev3 hxl hcx hsi HH HX
      go_wp2
      go_ret3
      exact⟨gN,u15,l,R,rfl,HR.out.2.down HW3.out hle2,HR.out.1⟩
     ·have hlen:=hF.len
      have hWs:wr.Since wr.heap.size (wr.alloc (.cells #[.int .i64 x.t,.int .i64 x.src,.int .i64 x.seq,.int .i64 x.kind,.int .i64 x.cand,.int .i64 x.mins] 42)):=(World.Since.refl _ _).alloc (Nat.le_refl _) _
      have hblk:=heap_alloc_new wr (.cells #[.int .i64 x.t,.int .i64 x.src,.int .i64 x.seq,.int .i64 x.kind,.int .i64 x.cand,.int .i64 x.mins] 42)
      have hFk:=hF.keep hWs
      obtain⟨hen,hE,hth,hb,-⟩:=HH.out
      have hwW:w.Since w.heap.size (wr.alloc (.cells #[.int .i64 x.t,.int .i64 x.src,.int .i64 x.seq,.int .i64 x.kind,.int .i64 x.cand,.int .i64 x.mins] 42)):=HW3.out.trans (zJ9 hFk.all.since hle2)
      have hst:=Tryz.stepR_walk x eao eb eo ecap cen (plc x.cand).1 (plc x.cand).2 w3 gN gN k l _ (by rw [hlen]; exact hFk.all) (fun h=>by
       obtain⟨e1,e2⟩:=hen (by omega)
       exact⟨e1,Nat.lt_of_lt_of_le e2 hwW.size⟩) (fun i hi=>by
       obtain⟨-,e2⟩:=hen (by omega)
       exact (hwW.cell (a:=⟨eb,eo+i*4+1,none⟩) e2).trans (hE i (by omega)).2.1) (fun h=>by rw [hlen]; exact hth _ h) (fun W' hW'=>by rw [hlen]; exact hb x.cand W' (hwW.trans (zJ9 hW' hwW.size)))
      rw [hlen] at hst
      have hrl:=stepR_len cen (plc x.cand).1 (plc x.cand).2 x (l.map AttN.log)
      simp only [runR,if_neg ht] at hrun
      generalize hsr:stepR cen (plc x.cand).1 (plc x.cand).2 x (l.map AttN.log)=st at *
      obtain⟨cd,L2⟩:=st
      dsimp only at hst hrun hrl
      have haw:=hF.all
      rw [← hlen] at haw
      have HA:=Lib.hid (And.intro haw (And.intro hFk (And.intro hrun (And.intro hsi (And.intro hwW (And.intro hrl (And.intro hblk hlen)))))))
      have hls:wr.heap.size<(wr.alloc (.cells #[.int .i64 x.t,.int .i64 x.src,.int .i64 x.seq,.int .i64 x.kind,.int .i64 x.cand,.int .i64 x.mins] 42)).heap.size:=by simp
      unfold RegR.val at hst
      clear hen hE hth hb hF hFk hrun haw hsi hWs hwW hrl hev3 hxl hcx HH HX hsr hblk hlen
      go_wp2_with fail
      generalize hWW:wr.alloc (.cells #[.int .i64 x.t,.int .i64 x.src,.int .i64 x.seq,.int .i64 x.kind,.int .i64 x.cand,.int .i64 x.mins] 42)=WW at *
      refine hst.mono ?_
      rintro e w5 ⟨l',rfl,hA',hm',ho'⟩
      obtain⟨haw,hFk,hrun,hsi,hwW,hrl,hblk,hlen⟩:=HA.out
      have hl5:l'.length=k:=by
       have h1:(l'.map AttN.log).length=L2.length:=by rw [show l'.map AttN.log=L2 from hm']
       rw [List.length_map] at h1 hrl
       omega
      have hF5:=hFk.step hA' hl5 ho'
      have hbl:=(ho'.far haw wr.heap.size (Nat.le_refl _) hls).trans hblk
      have b1:=cell_blk hbl 1; have b2:=cell_blk hbl 2
      simp only [List.getElem?_toArray,List.getElem?_cons_zero,List.getElem?_cons_succ] at b1 b2
      have hg5:gN<w5.heap.size:=Nat.lt_of_lt_of_le (by have:=hls; omega) ho'.1
      have hm':l'.map AttN.log=L2:=hm'
      rw [← hm'] at hrun
      have H5:=Lib.hid (And.intro hF5 hrun)
      have hb5:=hF5.all.le
      have hown5:=hF5.own
      clear hst haw hFk hrun hsi hwW hrl hblk hlen hA' hm' ho' hF5 hbl HA hl5 hls
      by_cases hcd:cd=0
      ·have hne:(cd != 0)=false:=by simpa using hcd
       go_wp2
       exact⟨⟨j+1,l',R,by omega,by omega,by simp,hg5,H5.out.1,by rw [H5.out.2,if_pos hcd]⟩,by simp [RowKit.intOf]; omega⟩
      ·have hne:(cd != 0)=true:=by simpa using hcd
       have hownA:=own_alloc hown5 (.cells #[.int .i64 x.src,.int .i64 x.seq,.int .i64 cd] 86)
       clear hown5
       go_wp2_with (at_builtin; refine wpList_append_lies _ rfl (.tmp 67) (.tmp 77) 46 rfl gN 86 i8 (.agg #[.int .i64 0,.int .i64 0,.int .i64 0]) 3 24 Tryz.underlying46 hi8 hz80 hz81 hz82 rfl (by decide) _ _ _ rfl hownA ⟨w5.heap.size,0,none⟩ 1 1 [.int .i64 x.src,.int .i64 x.seq,.int .i64 cd] rfl rfl (World.news_of_block (cs := #[.int .i64 x.src,.int .i64 x.seq,.int .i64 cd]) (t:=86) (fr:=(0,0)) (heap_alloc_new w5 _)) (by simp [Value.oneCell']) (by omega) (by unfold maxLen; omega) (by omega) (by simp; omega) _ rfl ?_; intro gg ncap wA hownB hgrow hat hlt2)
       have hF6:=(H5.out.1.keep ((World.Since.refl _ w5).alloc (Nat.le_refl _) (.cells #[.int .i64 x.src,.int .i64 x.seq,.int .i64 cd] 86))).refuse (r:=(x.src,x.seq,cd)) hgrow hownB
       exact⟨⟨j+1,l',R++[(x.src,x.seq,cd)],by omega,by simp; omega,by simp,Nat.lt_of_lt_of_le hg5 (by have:=hgrow.size; simp at this; omega),hF6,by rw [H5.out.2,if_neg hcd]⟩,by simp [RowKit.intOf]; omega⟩
    ·have hje:j=X.length:=by omega
     subst hje
     rw [List.drop_length] at hrun
     have HR:=Lib.hid (And.intro hrun hF)
     clear hrun hF HX HH
     go_wp2
     go_ret3
     exact⟨gN,u15,l,R,rfl,HR.out.2.down HW3.out hle2,HR.out.1.symm⟩
end Go.Proofs
