/-
  The law in plain Lean: what the functions compute answers true. No condition.
-/
import Derived.Test.YtmgjidfafnajnaaGreatLs29
import Derived.Test.YtmgjidfafnajnaaGreatD3
namespace Go.LS
set_option linter.all false
set_option linter.unusedSimpArgs false
set_option linter.unusedVariables false
theorem ix_nat {α:Type} [Inhabited α] (l:List α) (k:Nat) (h:k<l.length):ix l (k:Int)=l[k]:=by simp [ix,List.getD,h]
theorem ix_mem {α:Type} [Inhabited α] (l:List α) (n:Int) (h0:0≤n) (h:n<l.length):ix l n∈l:=by
 have:n.toNat<l.length:=by omega
 simp [ix,List.getD,this]
theorem i64_add1 (k:Nat) (h:k<4611686018427387904):IntKind.i64.wrap ((k:Int)+1)=((k+1:Nat):Int):=by
 rw [wrap64 (by omega) (by omega)]; omega
theorem i64_id {n:Int}(h1 : -9223372036854775808≤n) (h2:n<9223372036854775808):IntKind.i64.wrap n=n:=wrap64 h1 h2
theorem iter_fold {α β ρ:Type}(l:List α) (f:Int×β→Option ((Int×β)⊕ρ)) (g:β→α→β) (fin:β→ρ) (I:Nat→β→Prop)
  (hstep:∀ (k:Nat) (b:β) (hk:k<l.length),I k b→f ((k:Int),b)=some (.inl (((k+1:Nat):Int),g b l[k]))∧I (k+1) (g b l[k]))
  (hend:∀b,I l.length b→f ((l.length:Int),b)=some (.inr (fin b))) (b:β) (h0:I 0 b):iter f ((0:Int),b)=some (fin (l.foldl g b)):=by
 have key:∀ (n k:Nat) (b:β),l.length - k=n→k≤l.length→I k b→iter f ((k:Int),b)=some (fin ((l.drop k).foldl g b)):=by
  intro n
  induction n with
  | zero=>
   intro k b hn hk hI
   have:k=l.length:=by omega
   subst this
   rw [iter_inr (hend b hI),List.drop_length]; rfl
  | succ n ih=>
   intro k b hn hk hI
   have hk':k<l.length:=by omega
   obtain⟨h1,h2⟩:=hstep k b hk' hI
   rw [iter_inl h1,ih (k+1) _ (by omega) (by omega) h2,List.drop_eq_getElem_cons hk']; rfl
 have:=key _ 0 b rfl (by omega) h0
 simpa using this
theorem iter_scan {α ρ:Type}(l:List α) (f:Int→Option (Int⊕ρ)) (p:α→Bool) (hit:α→ρ) (miss:ρ)
  (hstep:∀ (k:Nat) (hk:k<l.length),f (k:Int)=some (if p l[k]=true then .inr (hit l[k]) else .inl ((k+1:Nat):Int)))
  (hend:f (l.length:Int)=some (.inr miss)):iter f (0:Int)=some (match l.find? p with | some a=>hit a | none=>miss):=by
 have key:∀ (n k:Nat),l.length - k=n→k≤l.length→iter f (k:Int)=some (match (l.drop k).find? p with | some a=>hit a | none=>miss):=by
  intro n
  induction n with
  | zero=>
   intro k hn hk
   have:k=l.length:=by omega
   subst this
   rw [iter_inr hend,List.drop_length]; rfl
  | succ n ih=>
   intro k hn hk
   have hk':k<l.length:=by omega
   have h1:=hstep k hk'
   rw [List.drop_eq_getElem_cons hk',List.find?_cons]
   cases hp:p l[k] with
   | true=>rw [hp,if_pos rfl] at h1; rw [iter_inr h1]
   | false=>rw [hp,if_neg (by simp)] at h1; rw [iter_inl h1,ih (k+1) (by omega) (by omega)]
 have:=key _ 0 rfl (by omega)
 simpa using this
end Go.LS
namespace Go.LS
set_option linter.all false
set_option linter.unusedSimpArgs false
set_option linter.unusedVariables false
structure TOK (t:zk9):Prop where
 len:t.L.length≤600
 lo:0≤t.At
 hi:t.At≤t.L.length
theorem new_ok (l:List Int):∃t,make_New l=some t∧TOK t:=by
 unfold make_New make_New_j1
 rcases bcases (decide ((600:Int)<(l.length:Int))) with h | h <;> rw [h]
 ·have h':(600:Int)<l.length:=by simpa using h
  refine⟨_,by rw [cond_true,req_pos (by omega)],?_⟩
  exact⟨by simp; omega,by simp,by simp⟩
 ·have h':(l.length:Int)≤600:=by simpa using h
  exact⟨_,by rw [cond_false],⟨by simp; omega,by simp,by simp⟩⟩
theorem cut_ok (x n:Int) (h:n≤4611686018427387904):∃y,make_Cut x n=some y∧0≤y∧(1≤n→y<n)∧(n<1→y=0):=by
 unfold make_Cut make_Cut_j1
 rcases bcases (decide (n<(1:Int))) with hc | hc <;> rw [hc]
 ·have:n<1:=by simpa using hc
  exact⟨0,rfl,by omega,by omega,fun _=>rfl⟩
 ·have h1:1≤n:=by simpa using hc
  rw [cond_false,req_pos (by omega)]
  have h3:=Int.tmod_lt_of_pos x (show 0<n by omega)
  have h4 : -n<x.tmod n:=Int.lt_tmod_of_pos x (show 0<n by omega)
  rcases bcases (decide (Int.tmod x n<(0:Int))) with hd | hd <;> rw [hd]
  ·have:x.tmod n<0:=by simpa using hd
   exact⟨_,rfl,by rw [wrap64 (by omega) (by omega)]; omega,by rw [wrap64 (by omega) (by omega)]; omega,by omega⟩
  ·have:0≤x.tmod n:=by simpa using hd
   exact⟨_,rfl,this,fun _=>h3,by omega⟩
theorem raw_ok (t:zk9) (h:TOK t):∃y t',make_Tape_Raw t=some (y,t')∧TOK t':=by
 obtain⟨h1,h2,h3⟩:=h
 unfold make_Tape_Raw
 rcases bcases (decide ((t.L.length:Int)≤t.At)) with hc | hc <;> rw [hc]
 ·exact⟨_,_,rfl,h1,h2,h3⟩
 ·have hlt:t.At<t.L.length:=by simpa using hc
  rw [cond_false,wrap64 (n:=t.At+1) (by omega) (by omega),wrap64 (by omega) (by omega),req_pos (by omega)]
  exact⟨_,_,rfl,h1,by show 0≤t.At+1; omega,by show t.At+1≤(t.L.length:Int); omega⟩
theorem next_ok (t:zk9) (n:Int) (h:TOK t) (hn:n≤4611686018427387904):∃y t',zC9 t n=some (y,t')∧TOK t'∧0≤y∧(1≤n→y<n)∧(n<1→y=0):=by
 obtain⟨y,t',e1,h1⟩:=raw_ok t h
 obtain⟨z,e2,h2⟩:=cut_ok y n hn
 exact⟨z,t',by unfold zC9; rw [e1]; simp only [Option.bind]; rw [e2],h1,h2⟩
theorem range_ok (t:zk9) (lo hi:Int) (h:TOK t) (h1 : -1152921504606846976≤lo) (h2:hi≤1152921504606846976) (h3:lo≤hi):∃y t',zK9 t lo hi=some (y,t')∧TOK t'∧lo≤y∧y≤hi:=by
 obtain⟨y,t',e1,h4,h5,h6,h7⟩:=next_ok t (hi - lo+1) h (by omega)
 refine⟨lo+y,t',?_,h4,by omega,by have:=h6 (by omega); omega⟩
 unfold zK9
 rw [wrap64 (n:=hi - lo) (by omega) (by omega),wrap64 (by omega) (by omega),e1]
 simp only [Option.bind]
 rw [wrap64 (by omega) (by have:=h6 (by omega); omega)]
theorem one_ok (t:zk9) (n:Int) (h:TOK t) (hn:n≤4611686018427387904):∃y t',zy1 t n=some (y,t')∧TOK t':=by
 obtain⟨y,t',e1,h1,_⟩:=next_ok t n h hn
 exact⟨_,t',by unfold zy1; rw [e1]; rfl,h1⟩
theorem pick_ok (t:zk9) (l:List Int) (h:TOK t) (h1:1≤l.length) (h2:l.length≤1000):∃y t',zR9 t l=some (y,t')∧TOK t'∧y∈l:=by
 obtain⟨y,t',e1,h3,h4,h5,_⟩:=next_ok t l.length h (by omega)
 have h6:=h5 (by omega)
 exact⟨_,t',by unfold zR9; rw [e1]; simp only [Option.bind]; rw [req_pos ⟨h4,h6⟩],h3,ix_mem l y h4 h6⟩
end Go.LS
namespace Go.LS
open Go.Proofs
set_option linter.all false
set_option linter.unusedSimpArgs false
set_option linter.unusedVariables false
theorem least {P:Nat→Prop}:∀n,P n→∃m,P m∧∀k,P k→m≤k:=by
 intro n
 induction n using Nat.strongRecOn with
 | _ n ih=>
  intro h
  by_cases hx:∃m,m<n∧P m
  ·obtain⟨m,h1,h2⟩:=hx; exact ih m h1 h2
  ·exact⟨n,h,fun k hk=>by
    by_cases hlt:k<n
    ·exact absurd ⟨k,hlt,hk⟩ hx
    ·omega⟩
theorem mem_getD {α:Type}{l:List α}{d x:α}(h:x∈l):∃i,i<l.length∧l.getD i d=x:=by
 obtain⟨i,hi,e⟩:=List.getElem_of_mem h
 exact⟨i,hi,by rw [getD_at l d i hi]; exact e⟩
section
variable {α:Type} [DecidableEq α] [Inhabited α]
noncomputable def canonI (f:α→List Int) (l:List α):List Nat:=canonIdx l.length (fun i=>st3 (f (l.getD i default))) (fun i j=>decide (l.getD i default=l.getD j default)) vldS
noncomputable def canonEv (f:α→List Int) (l:List α):List α:=(canonI f l).map fun i=>l.getD i default
theorem canonI_lt {f:α→List Int}{l:List α}{i:Nat}(h:i∈canonI f l):i<l.length:=(((canonIdx_spec _ _ _ _).1 i).1 h).1
theorem canonI_len (f:α→List Int) (l:List α):(canonI f l).length≤l.length:=by
 unfold canonI canonIdx
 rw [(List.mergeSort_perm _ _).length_eq]
 refine Nat.le_trans (List.length_filter_le _ _) ?_
 rw [List.length_range]
 exact Nat.le_refl _
theorem canonEv_len (f:α→List Int) (l:List α):(canonEv f l).length≤l.length:=by
 unfold canonEv; rw [List.length_map]; exact canonI_len f l
theorem canon_mem (f:α→List Int) (l:List α) (e:α):e∈canonEv f l↔e∈l∧vldS (st3 (f e))=true∧∀x∈l,vldS (st3 (f x))=true→sameId (st3 (f e)) (st3 (f x))→x=e:=by
 unfold canonEv
 rw [List.mem_map]
 constructor
 ·rintro⟨i,hi,rfl⟩
  obtain⟨c1,c2,c3⟩:=((canonIdx_spec _ _ _ _).1 i).1 hi
  refine⟨getD_mem l default i c1,c2,fun x hx hv hs=>?_⟩
  obtain⟨k,hk,rfl⟩:=mem_getD (d:=default) hx
  obtain⟨_,_,h3⟩:=c3 k hk hv hs
  by_cases hne:k=i
  ·rw [hne]
  ·exact (of_decide_eq_true (h3 hne)).symm
 ·rintro⟨h1,h2,h3⟩
  obtain⟨j,hj,ej⟩:=mem_getD (d:=default) h1
  obtain⟨i,⟨hi1,hi2,hi3⟩,hmin⟩:=least (P:=fun k=>k<l.length∧vldS (st3 (f (l.getD k default)))=true∧sameId (st3 (f e)) (st3 (f (l.getD k default)))) j ⟨hj,by rw [ej]; exact h2,by rw [ej]; exact sameId_refl _⟩
  have hie:l.getD i default=e:=h3 _ (getD_mem l default i hi1) hi2 hi3
  refine⟨i,((canonIdx_spec _ _ _ _).1 i).2 ⟨hi1,hi2,fun k hk hv hs=>?_⟩,hie⟩
  dsimp only at hv hs ⊢
  rw [hie] at hs
  have hke:l.getD k default=e:=h3 _ (getD_mem l default k hk) hv hs
  refine⟨hmin k ⟨hk,hv,hs⟩,by rw [hie,hke],fun _=>decide_eq_true (by rw [hie,hke])⟩
theorem canon_sorted (f:α→List Int) (l:List α):(canonEv f l).Pairwise fun a b=>stLt (st3 (f a)) (st3 (f b)):=by
 unfold canonEv
 rw [List.pairwise_map]
 exact (canonIdx_spec _ _ _ _).2
theorem canon_eq (f:α→List Int){l m:List α}(h:∀x,x∈l↔x∈m):canonEv f l=canonEv f m:=
 sorted_uniq (R:=fun a b=>stLt (st3 (f a)) (st3 (f b))) (fun _=>stLt_irrefl _) (fun _ _ _=>stLt_trans) (canon_sorted f l) (canon_sorted f m) fun x=>by
  rw [canon_mem,canon_mem,h x]
  constructor
  ·rintro⟨h1,h2,h3⟩; exact⟨h1,h2,fun y hy=>h3 y ((h y).2 hy)⟩
  ·rintro⟨h1,h2,h3⟩; exact⟨h1,h2,fun y hy=>h3 y ((h y).1 hy)⟩
theorem canonEv_sub {f:α→List Int}{l:List α}{x:α}(h:x∈canonEv f l):x∈l:=((canon_mem f l x).1 h).1
end
theorem bindV_def {α β:Type}(x:α) (f:α→Option β):bindV x f=f x:=rfl
theorem reqE {α:Type}{p:Prop}{x y:Option α}(hp:p) (h:x=y):req p x=y:=by rw [req_pos hp]; exact h
theorem reqX {α:Type}{p:Prop}{x:Option α}{Q:α→Prop}(hp:p) (h:∃b,x=some b∧Q b):∃b,req p x=some b∧Q b:=by rw [req_pos hp]; exact h
theorem iter_put {α:Type} [Inhabited α] (l:List α) (Y:List Int) (f:Int×List α→Option ((Int×List α)⊕List α))
  (hf:∀ (k:Nat) (w:List α),k<Y.length→w.length=Y.length→f ((k:Int),w)=some (.inl (((k+1:Nat):Int),setI w (k:Int) (ix l (ix Y (k:Int))))))
  (hend:∀w,f ((Y.length:Int),w)=some (.inr w)) (z:α):iter f ((0:Int),rep (Y.length:Int) z)=some (Y.map (ix l)):=by
 have key:∀ (m k:Nat) (w:List α),Y.length - k=m→k≤Y.length→w.length=Y.length→w.take k=(Y.take k).map (ix l)→iter f ((k:Int),w)=some (Y.map (ix l)):=by
  intro m
  induction m with
  | zero=>
   intro k w hm hk hw ht
   have:k=Y.length:=by omega
   subst this
   rw [iter_inr (hend w)]
   rw [List.take_length,← hw,List.take_length] at ht
   rw [ht]
  | succ m ih=>
   intro k w hm hk hw ht
   have hk':k<Y.length:=by omega
   rw [iter_inl (hf k w hk' hw)]
   refine ih (k+1) _ (by omega) (by omega) (by rw [len_setI]; exact hw) ?_
   unfold setI
   rw [Int.toNat_natCast,List.take_succ_eq_append_getElem (by rw [List.length_set]; omega),List.take_set_of_le (Nat.le_refl _),ht,List.getElem_set_self,List.take_succ_eq_append_getElem hk',List.map_append,ix_nat Y k hk']
   rfl
 exact key Y.length 0 _ (by omega) (by omega) (by simp [rep]) (by simp)
theorem map_ix_idx {α:Type} [Inhabited α] (l:List α) (X:List Nat) (h:∀i∈X,i<l.length):(X.map fun i:Nat=>(i:Int)).map (ix l)=X.map fun i=>l.getD i default:=by
 rw [List.map_map]
 refine List.map_congr_left fun i hi=>?_
 rfl
theorem ix_idx (X:List Nat) (k:Nat) (h:k<X.length):ix (X.map fun i:Nat=>(i:Int)) (k:Int)=((X[k]:Nat):Int):=by
 rw [ix_nat _ k (by simpa using h)]; simp
def okS (s:zB9):Prop:=stOK (s.Time,s.Source,s.Seq)
theorem canonE_eq (l:List zg9) (hl:l.length≤300) (hs:∀x∈l,okS x.Stamp):entry_Canonical l=some (canonEv evE l,0):=by
 unfold entry_Canonical
 have hc:zA9 l=some ((canonI evE l).map (fun i:Nat=>(i:Int)),0):=by
  unfold zA9
  rw [req_pos ⟨hl,hs⟩]; rfl
 rw [hc,Option.bind_some]
 have hlen:=canonI_len evE l
 have hlt:=fun i (hi:i∈canonI evE l)=>canonI_lt hi
 simp only []
 rw [show ((0:Int) != 0)=false from rfl,cond_false,req_pos (by rw [List.length_map]; omega),bindV_def]
 rw [iter_put l ((canonI evE l).map fun i:Nat=>(i:Int)) _ (fun k w hk hw=>?_) (fun w=>?_) _,Option.bind_some]
 ·unfold entry_Canonical_j1
  rw [map_ix_idx l _ hlt]; rfl
 ·have hk':k<(canonI evE l).length:=by simpa using hk
  have h1:=hlt _ (List.getElem_mem hk')
  unfold entry_Canonical_l2
  simp only []
  rw [show decide ((k:Int)<(((canonI evE l).map fun i:Nat=>(i:Int)).length:Int))=true by simpa using hk',cond_true,req_pos (by omega),ix_idx _ k hk',req_pos (by constructor <;> omega),bindV_def,i64_add1 k (by omega)]
 ·unfold entry_Canonical_l2
  simp only []
  rw [show decide ((((canonI evE l).map fun i:Nat=>(i:Int)).length:Int)<(((canonI evE l).map fun i:Nat=>(i:Int)).length:Int))=false by simp,cond_false]
theorem canonR_eq (l:List ze9) (hl:l.length≤300) (hs:∀x∈l,okS x.Stamp):attendance_Canonical l=some (canonEv evR l,0):=by
 unfold attendance_Canonical
 have hc:zv9 l=some ((canonI evR l).map (fun i:Nat=>(i:Int)),0):=by
  unfold zv9
  rw [req_pos ⟨hl,hs⟩]; rfl
 rw [hc,Option.bind_some]
 have hlen:=canonI_len evR l
 have hlt:=fun i (hi:i∈canonI evR l)=>canonI_lt hi
 simp only []
 rw [show ((0:Int) != 0)=false from rfl,cond_false,req_pos (by rw [List.length_map]; omega)]
 rw [iter_put l ((canonI evR l).map fun i:Nat=>(i:Int)) _ (fun k w hk hw=>?_) (fun w=>?_) _,Option.bind_some]
 ·unfold attendance_Canonical_j1
  rw [map_ix_idx l _ hlt]; rfl
 ·have hk':k<(canonI evR l).length:=by simpa using hk
  have h1:=hlt _ (List.getElem_mem hk')
  unfold attendance_Canonical_l2
  simp only []
  rw [show decide ((k:Int)<(((canonI evR l).map fun i:Nat=>(i:Int)).length:Int))=true by simpa using hk',cond_true,req_pos (by omega),ix_idx _ k hk',req_pos (by constructor <;> omega),bindV_def,i64_add1 k (by omega)]
 ·unfold attendance_Canonical_l2
  simp only []
  rw [show decide ((((canonI evR l).map fun i:Nat=>(i:Int)).length:Int)<(((canonI evR l).map fun i:Nat=>(i:Int)).length:Int))=false by simp,cond_false]
theorem any_ne (a b:List Int) (h:a.length=b.length):(List.range a.length).find? (fun k=>a.getD k 0 != b.getD k 0)=none↔a=b:=by
 rw [List.find?_eq_none]
 constructor
 ·intro hx
  refine List.ext_getElem h fun k h1 h2=>?_
  have:=hx k (List.mem_range.2 h1)
  rw [List.getD_eq_getElem?_getD,List.getD_eq_getElem?_getD,List.getElem?_eq_getElem h1,List.getElem?_eq_getElem h2] at this
  simpa using this
 ·rintro rfl k _
  simp
theorem iter_ints (a b:List Int) (h:a.length=b.length) (ha:a.length≤1000) (f:Int→Option (Int⊕(Unit⊕Bool)))
  (hf:∀ (k:Nat),k<a.length→f (k:Int)=some (if (ix a (k:Int) != ix b (k:Int))=true then .inr (.inr false) else .inl ((k+1:Nat):Int)))
  (hend:f (a.length:Int)=some (.inr (.inl ()))):iter f (0:Int)=some (if a=b then .inl () else .inr false):=by
 have h1:=iter_scan (List.range a.length) f (fun k=>a.getD k 0 != b.getD k 0) (fun _=>(.inr false:Unit⊕Bool)) (.inl ())
  (fun k hk=>by
   have hk':k<a.length:=by simpa using hk
   rw [hf k hk']
   rw [List.getElem_range,ix_nat a k hk',ix_nat b k (by omega),List.getD_eq_getElem?_getD,List.getD_eq_getElem?_getD,List.getElem?_eq_getElem hk',List.getElem?_eq_getElem (show k<b.length by omega)]
   simp only [Option.getD_some]) (by rw [List.length_range]; exact hend)
 rw [h1]
 have h2:=any_ne a b h
 cases hfd:(List.range a.length).find? (fun k=>a.getD k 0 != b.getD k 0) with
 | none=>rw [if_pos (h2.1 hfd)]
 | some k=>rw [if_neg (fun e=>by rw [h2.2 e] at hfd; cases hfd)]
theorem equal_eq (a b:List Int) (ha:a.length≤1000):zc1 a b=some (decide (a=b)):=by
 unfold zc1
 by_cases h:a.length=b.length
 ·rw [show ((a.length:Int) != (b.length:Int))=false by simp [h],cond_false]
  rw [iter_ints a b h ha _ (fun k hk=>?_) ?_,Option.bind_some]
  ·unfold slices_Equal_intint_j1
   by_cases e:a=b
   ·rw [if_pos e]; simp [e]
   ·rw [if_neg e]; simp [e]
  rotate_left
  ·unfold slices_Equal_intint_l2
   rw [show decide ((k:Int)<(a.length:Int))=true by simpa using hk,cond_true,req_pos (by constructor <;> omega),i64_add1 k (by omega)]
   cases (ix a (k:Int) != ix b (k:Int)) <;> rfl
  ·unfold slices_Equal_intint_l2
   rw [show decide ((a.length:Int)<(a.length:Int))=false by simp,cond_false]
 ·rw [show ((a.length:Int) != (b.length:Int))=true by simp; omega,cond_true]
  rw [show decide (a=b)=false by simp; intro e; exact h (by rw [e])]
theorem ints_eq (a b:List Int) (ha:a.length≤1000):zL9 a b=some (decide (a=b)):=by
 unfold zL9
 by_cases h:a.length=b.length
 ·rw [show ((a.length:Int) != (b.length:Int))=false by simp [h],cond_false]
  rw [iter_ints a b h ha _ (fun k hk=>?_) ?_,Option.bind_some]
  ·unfold ref06_Ints_j1
   by_cases e:a=b
   ·rw [if_pos e]; simp [e]
   ·rw [if_neg e]; simp [e]
  rotate_left
  ·unfold ref06_Ints_l2
   rw [show decide ((k:Int)<(a.length:Int))=true by simpa using hk,cond_true,req_pos (by constructor <;> omega),i64_add1 k (by omega)]
   cases (ix a (k:Int) != ix b (k:Int)) <;> rfl
  ·unfold ref06_Ints_l2
   rw [show decide ((a.length:Int)<(a.length:Int))=false by simp,cond_false]
 ·rw [show ((a.length:Int) != (b.length:Int))=true by simp; omega,cond_true]
  rw [show decide (a=b)=false by simp; intro e; exact h (by rw [e])]
theorem same_B (a b:zh9) (ha:a.Candidates.length≤1000):custody_Same a b=some (decide (a=b)):=by
 unfold custody_Same
 rw [equal_eq _ _ ha]
 refine reqE (fun _=>rfl) ?_
 congr 1
 obtain⟨⟨a1,a2,a3⟩,a4,a5,a6,a7,a8,a9⟩:=a
 obtain⟨⟨b1,b2,b3⟩,b4,b5,b6,b7,b8,b9⟩:=b
 rw [Bool.eq_iff_iff]
 simp only [Bool.and_eq_true,beq_iff_eq,decide_eq_true_eq,Option.getD_some,zh9.mk.injEq,zB9.mk.injEq]
 constructor
 ·rintro⟨⟨⟨⟨⟨⟨⟨h1,h2,h3⟩,h4⟩,h5⟩,h6⟩,h7⟩,h8⟩,h9⟩; exact⟨⟨h1,h2,h3⟩,h4,h5,h6,h7,h8,h9⟩
 ·rintro⟨⟨h1,h2,h3⟩,h4,h5,h6,h7,h8,h9⟩; exact⟨⟨⟨⟨⟨⟨⟨h1,h2,h3⟩,h4⟩,h5⟩,h6⟩,h7⟩,h8⟩,h9⟩
theorem clone_eq (l:List Int) (h:l.length≤1000):slices_Clone_intint l=some l:=if_pos h
theorem set_same {α:Type} [Inhabited α] (w:List α) (k:Int) (x:α) (h:k.toNat<w.length):setI (setI w k x) k x=setI w k x:=by
 unfold setI; rw [List.set_set]
theorem ix_setI {α:Type} [Inhabited α] (w:List α) (k:Nat) (x:α) (h:k<w.length):ix (setI w (k:Int) x) (k:Int)=x:=by
 rw [ix_nat _ k (by rw [len_setI]; exact h)]
 simp [setI]
def okB (x:zh9):Prop:=okS x.Stamp∧x.Candidates.length≤100
theorem canonB_eq (l:List zh9) (hl:l.length≤300) (hs:∀x∈l,okB x):custody_Canonical l=some (canonEv evB l,0):=by
 unfold custody_Canonical
 have hc:zy9 l=some ((canonI evB l).map (fun i:Nat=>(i:Int)),0):=by
  unfold zy9
  rw [req_pos ⟨hl,fun x hx=>(hs x hx).1,fun x hx y hy=>same_B x y (by have:=(hs x hx).2; omega)⟩]; rfl
 rw [hc,Option.bind_some]
 have hlen:=canonI_len evB l
 have hlt:=fun i (hi:i∈canonI evB l)=>canonI_lt hi
 simp only []
 rw [show ((0:Int) != 0)=false from rfl,cond_false,req_pos (by rw [List.length_map]; omega),bindV_def]
 rw [iter_put l ((canonI evB l).map fun i:Nat=>(i:Int)) _ (fun k w hk hw=>?_) (fun w=>?_) _,Option.bind_some]
 ·unfold custody_Canonical_j1
  rw [map_ix_idx l _ hlt]; rfl
 ·have hk':k<(canonI evB l).length:=by simpa using hk
  have h1:=hlt _ (List.getElem_mem hk')
  have hkw:k<w.length:=by omega
  have hb:=hs _ (ix_mem l ((canonI evB l)[k]:Int) (by omega) (by omega))
  unfold custody_Canonical_l2
  simp only []
  rw [show decide ((k:Int)<(((canonI evB l).map fun i:Nat=>(i:Int)).length:Int))=true by simpa using hk',cond_true,req_pos (by omega),ix_idx _ k hk',req_pos (by constructor <;> omega),bindV_def]
  rw [req_pos (by omega),clone_eq _ (by have:=hb.2; omega),Option.bind_some,req_pos (by rw [len_setI]; omega),bindV_def,ix_setI w k _ hkw,i64_add1 k (by omega)]
  rw [set_same _ _ _ (by simpa using hkw)]
 ·unfold custody_Canonical_l2
  simp only []
  rw [show decide ((((canonI evB l).map fun i:Nat=>(i:Int)).length:Int)<(((canonI evB l).map fun i:Nat=>(i:Int)).length:Int))=false by simp,cond_false]
end Go.LS
namespace Go.LS
open Go.Proofs
set_option linter.all false
set_option linter.unusedSimpArgs false
set_option linter.unusedVariables false
def Post {α:Type}(x:Option (α×zk9)) (P:α→Prop):Prop:=∃y t',x=some (y,t')∧TOK t'∧P y
theorem bindP {α β:Type}{x:Option (α×zk9)}{P:α→Prop}{g:α×zk9→Option β}{Q:Option β→Prop}(h:Post x P) (k:∀y t',TOK t'→P y→Q (g (y,t'))):Q (x.bind g):=by
 obtain⟨y,t',rfl,h1,h2⟩:=h; exact k y t' h1 h2
theorem bindS {α β:Type}{x:Option α}{P:α→Prop}{g:α→Option β}{Q:Option β→Prop}(h:∃y,x=some y∧P y) (k:∀y,P y→Q (g y)):Q (x.bind g):=by
 obtain⟨y,rfl,h1⟩:=h; exact k y h1
theorem condQ {α:Type}{Q:Option α→Prop}{b:Bool}{x y:Option α}(hx:b=true→Q x) (hy:b=false→Q y):Q (cond b x y):=by
 cases b
 ·exact hy rfl
 ·exact hx rfl
theorem reqQ {α:Type}{Q:Option α→Prop}{p:Prop}{x:Option α}(hp:p) (h:Q x):Q (req p x):=by rw [req_pos hp]; exact h
theorem bindVQ {α β:Type}{Q:Option β→Prop}{x:α}{f:α→Option β}(h:Q (f x)):Q (bindV x f):=h
theorem zG1 (t:zk9) (n:Int) (h:TOK t) (h1:1≤n) (hn:n≤4611686018427387904):Post (zC9 t n) fun y=>0≤y∧y<n:=by
 obtain⟨y,t',e,h2,h3,h4,_⟩:=next_ok t n h hn
 exact⟨y,t',e,h2,h3,h4 h1⟩
theorem range_post (t:zk9) (lo hi:Int) (h:TOK t) (h1 : -1152921504606846976≤lo) (h2:hi≤1152921504606846976) (h3:lo≤hi):Post (zK9 t lo hi) fun y=>lo≤y∧y≤hi:=by
 obtain⟨y,t',e,h4,h5,h6⟩:=range_ok t lo hi h h1 h2 h3
 exact⟨y,t',e,h4,h5,h6⟩
theorem one_post (t:zk9) (n:Int) (h:TOK t) (hn:n≤4611686018427387904):Post (zy1 t n) fun _=>True:=by
 obtain⟨y,t',e,h1⟩:=one_ok t n h hn
 exact⟨y,t',e,h1,trivial⟩
theorem pick_post (t:zk9) (l:List Int) (h:TOK t) (h1:1≤l.length) (h2:l.length≤1000):Post (zR9 t l) fun y=>y∈l:=by
 obtain⟨y,t',e,h3,h4⟩:=pick_ok t l h h1 h2
 exact⟨y,t',e,h3,h4⟩
theorem wild_post (t:zk9) (h:TOK t):Post (zH1 t) in64:=by
 unfold zH1
 refine bindP (Q:=fun x=>Post x in64) (pick_post t _ h (by decide) (by decide)) fun y t' ht hy=>?_
 refine⟨y,t',rfl,ht,?_⟩
 simp only [List.mem_cons,List.not_mem_nil,or_false] at hy
 unfold in64
 omega
def stampP:Option (zB9×zk9)→Prop:=fun x=>Post x okS
theorem stamp_post (t:zk9) (h:TOK t):Post (make_Tape_Stamp t (4:Int)) okS:=by
 show stampP _
 unfold make_Tape_Stamp
 refine bindP (range_post t _ _ h (by decide) (by decide) (by decide)) fun y t1 h1 hy=>?_
 refine bindP (range_post t1 _ _ h1 (by decide) (by decide) (by decide)) fun y2 t2 h2 hy2=>?_
 refine bindP (range_post t2 _ _ h2 (by decide) (by decide) (by decide)) fun y4 t3 h3 hy4=>?_
 have fin:∀ (t:zk9) (a b c:Int),TOK t→in64 a→in64 b→in64 c→stampP (zA1 t.L t.At a b c):=fun t a b c ht ha hb hc=>⟨_,_,rfl,ht,ha,hb,hc⟩
 have i1:in64 y:=by unfold in64; omega
 have i2:in64 y2:=by unfold in64; omega
 have i4:in64 y4:=by unfold in64; omega
 refine condQ (fun _=>?_) (fun _=>fin _ _ _ _ h3 i1 i2 i4)
 refine bindP (one_post t3 _ h3 (by decide)) fun y6 t4 h4 _=>?_
 refine condQ (fun _=>?_) (fun _=>fin _ _ _ _ h4 i1 i2 i4)
 refine bindP (zG1 t4 _ h4 (by decide) (by decide)) fun y8 t5 h5 _=>?_
 refine condQ (fun _=>?_) (fun _=>condQ (fun _=>?_) (fun _=>?_))
 ·exact bindP (wild_post t5 h5) fun y t ht hy=>fin _ _ _ _ ht hy i2 i4
 ·exact bindP (wild_post t5 h5) fun y t ht hy=>fin _ _ _ _ ht i1 hy i4
 ·exact bindP (wild_post t5 h5) fun y t ht hy=>fin _ _ _ _ ht i1 i2 hy
theorem deadlines_ok (t:zk9) (h:TOK t):Post (make_Tape_Deadlines t 0) fun d=>0≤d.Close∧d.Close≤d.Late∧d.Late≤1000:=by
 unfold make_Tape_Deadlines
 refine bindP (Q:=fun x=>Post x _) (range_post t _ _ h (by decide) (by decide) (by decide)) fun y t1 h1 hy=>?_
 refine bindP (Q:=fun x=>Post x _) (zG1 t1 _ h1 (by decide) (by decide)) fun y2 t2 h2 hy2=>?_
 unfold zB1
 simp only []
 rw [show decide ((0:Int)<0)=false from rfl,cond_false,i64_id (by omega) (by omega)]
 exact⟨_,_,rfl,h2,by show 0≤y; omega,by show y≤y+y2; omega,by show y+y2≤1000; omega⟩
def GE (i:Int) (n:Nat):Option ((Int×(List Int)×Int×(List zg9))⊕((List Int)×Int×(List zg9)))→Prop:=fun r=>
 ∃L A out',r=some (.inl (i - 1,L,A,out'))∧TOK ⟨L,A⟩∧out'.length≤n+2∧∀x∈out',okS x.Stamp
theorem entry_j3 (i:Int) (hi:1≤i∧i≤10) (out:List zg9) (hl:out.length≤18) (ho:∀x∈out,okS x.Stamp) (a:List Int) (b e2 e3 e4 e5 e6 e7 e8 e9:Int) (ht:TOK ⟨a,b⟩) (he:okS ⟨e2,e3,e4⟩) :
  GE i out.length (zF9 i out a b e2 e3 e4 e5 e6 e7 e8 e9):=by
 unfold zF9
 obtain⟨x,hx⟩:∃x,x=zg9.mk (zB9.mk e2 e3 e4) e5 (zX9.mk e6 e7 e8) e9:=⟨_,rfl⟩
 rw [← hx]
 have hxs:okS x.Stamp:=by rw [hx]; exact he
 refine reqQ (by simp; omega) (bindVQ ?_)
 obtain⟨out4,h4⟩:∃o,o=out++[x]:=⟨_,rfl⟩
 rw [← h4]
 have hl4:out4.length=out.length+1:=by rw [h4]; simp
 have ho4:∀x∈out4,okS x.Stamp:=fun z hz=>by
  rw [h4] at hz
  rcases List.mem_append.1 hz with hz | hz
  ·exact ho z hz
  ·rw [List.mem_singleton.1 hz]; exact hxs
 refine bindP (one_post _ _ ht (by decide)) fun y t1 h1 _=>?_
 refine condQ (fun _=>?_) (fun _=>?_)
 ·refine bindP (zG1 t1 _ h1 (by omega) (by omega)) fun z t2 h2 hz=>?_
  have hm:=ix_mem out4 z hz.1 hz.2
  refine reqQ ⟨hz,by simp; omega⟩ (bindVQ ?_)
  unfold zv1
  rw [i64_id (by omega) (by omega)]
  refine⟨_,_,_,rfl,h2,by simp; omega,fun u hu=>?_⟩
  rcases List.mem_append.1 hu with hu | hu
  ·exact ho4 u hu
  ·rw [List.mem_singleton.1 hu]; exact ho4 _ hm
 ·unfold zv1
  rw [i64_id (by omega) (by omega)]
  exact⟨_,_,_,rfl,h1,by omega,ho4⟩
theorem entry_j4 (i:Int) (hi:1≤i∧i≤10) (out:List zg9) (hl:out.length≤18) (ho:∀x∈out,okS x.Stamp) (y2 y4 y6 y8 y10 e:Int) (a:List Int) (b e1:Int) (ht:TOK ⟨a,b⟩) (h4:in64 y4) (he:in64 e) :
  GE i out.length (zu1 8 i out y2 y4 y6 y8 y10 e a b e1):=by
 have hs:okS ⟨y4,e,(out.length:Int)⟩:=⟨h4,he,by show in64 (out.length:Int); unfold in64; omega⟩
 unfold zu1
 refine condQ (fun _=>?_) (fun _=>entry_j3 i hi out hl ho _ _ _ _ _ _ _ _ _ _ ht hs)
 refine bindP (one_post _ _ ht (by decide)) fun _ t1 h1 _=>?_
 refine condQ (fun _=>?_) (fun _=>entry_j3 i hi out hl ho _ _ _ _ _ _ _ _ _ _ h1 hs)
 refine bindP (zG1 t1 _ h1 (by decide) (by decide)) fun _ t2 h2 _=>?_
 refine condQ (fun _=>bindP (range_post t2 _ _ h2 (by decide) (by decide) (by decide)) fun _ _ h _=>entry_j3 i hi out hl ho _ _ _ _ _ _ _ _ _ _ h hs) (fun _=>?_)
 refine condQ (fun _=>bindP (wild_post t2 h2) fun _ _ h _=>entry_j3 i hi out hl ho _ _ _ _ _ _ _ _ _ _ h hs) (fun _=>?_)
 refine condQ (fun _=>bindP (pick_post t2 _ h2 (by decide) (by decide)) fun _ _ h _=>entry_j3 i hi out hl ho _ _ _ _ _ _ _ _ _ _ h hs) (fun _=>?_)
 refine condQ (fun _=>bindP (pick_post t2 _ h2 (by decide) (by decide)) fun _ _ h _=>entry_j3 i hi out hl ho _ _ _ _ _ _ _ _ _ _ h hs) (fun _=>?_)
 refine condQ (fun _=>bindP (stamp_post t2 h2) fun _ _ h hk=>entry_j3 i hi out hl ho _ _ _ _ _ _ _ _ _ _ h hk) (fun _=>?_)
 exact bindP (pick_post t2 _ h2 (by simp) (by simp)) fun _ _ h _=>entry_j3 i hi out hl ho _ _ _ _ _ _ _ _ _ _ h hs
theorem entry_j5 (i:Int) (hi:1≤i∧i≤10) (out:List zg9) (hl:out.length≤18) (ho:∀x∈out,okS x.Stamp) (y2 y4 y6 y8 y10:Int) (a:List Int) (b e:Int) (ht:TOK ⟨a,b⟩) (h4:in64 y4) (he:in64 e) :
  GE i out.length (zt1 8 i out y2 y4 y6 y8 y10 a b e):=by
 unfold zt1
 refine condQ (fun _=>?_) (fun _=>entry_j4 i hi out hl ho _ _ _ _ _ _ _ _ _ ht h4 he)
 refine bindP (zG1 _ _ ht (by decide) (by decide)) fun _ t1 h1 _=>?_
 refine bindS (P:=fun _=>True) ?_ fun _ _=>entry_j4 i hi out hl ho _ _ _ _ _ _ _ _ _ h1 h4 he
 obtain⟨y,e1,_⟩:=cut_ok (IntKind.i64.wrap (y2+_)) 3 (by decide)
 exact⟨y,e1,trivial⟩
theorem entries_ok (t:zk9) (h:TOK t):Post (zU1 t 10 8) fun l=>l.length≤20∧∀x∈l,okS x.Stamp:=by
 unfold zU1
 refine bindP (Q:=fun x=>Post x _) (range_post t _ _ h (by decide) (by decide) (by decide)) fun y t1 h1 hy=>?_
 obtain⟨⟨a,b,o⟩,e1,h2,h3,h4⟩:=iter_inv (f:=zs1 8) (fun s:Int×(List Int)×Int×(List zg9)=>0≤s.1∧s.1≤10∧(s.2.2.2.length:Int)+2*s.1≤20∧(∀x∈s.2.2.2,okS x.Stamp)∧TOK ⟨s.2.1,s.2.2.1⟩) (fun s=>s.1.toNat)
  (fun r:(List Int)×Int×(List zg9)=>TOK ⟨r.1,r.2.1⟩∧r.2.2.length≤20∧∀x∈r.2.2,okS x.Stamp) (fun s hI=>by
   obtain⟨i,a,b,out⟩:=s
   obtain⟨g1,g2,g3,g4,g5⟩:=hI
   dsimp only at g1 g2 g3 g4 g5
   by_cases hi:0<i
   ·left
    have key:GE i out.length (zs1 8 (i,a,b,out)):=by
     unfold zs1
     dsimp only
     rw [show decide ((0:Int)<i)=true by simpa using hi,cond_true]
     refine bindP (range_post _ _ _ g5 (by decide) (by decide) (by decide)) fun y2 t2 h2 hy2=>?_
     refine bindP (range_post t2 _ _ h2 (by decide) (by decide) (by decide)) fun y4 t4 h4 hy4=>?_
     refine bindP (pick_post t4 _ h4 (by decide) (by decide)) fun y6 t6 h6 _=>?_
     refine bindP (zG1 t6 _ h6 (by decide) (by decide)) fun y8 t8 h8 _=>?_
     refine bindP (zG1 t8 _ h8 (by decide) (by decide)) fun y10 t10 h10 _=>?_
     refine bindP (one_post t10 _ h10 (by decide)) fun y35 t35 h35 _=>?_
     have i4:in64 y4:=by unfold in64; omega
     exact condQ (fun _=>entry_j5 i ⟨by omega,g2⟩ out (by omega) g4 _ _ _ _ _ _ _ _ h35 i4 (by unfold in64; omega)) (fun _=>entry_j5 i ⟨by omega,g2⟩ out (by omega) g4 _ _ _ _ _ _ _ _ h35 i4 (by unfold in64; omega))
    obtain⟨L,A,out',e,k1,k2,k3⟩:=key
    exact⟨_,e,⟨by show 0≤i - 1; omega,by show i - 1≤10; omega,by show (out'.length:Int)+2*(i - 1)≤20; omega,k3,k1⟩,by show (i - 1).toNat<i.toNat; omega⟩
   ·right
    unfold zs1
    dsimp only
    rw [show decide ((0:Int)<i)=false by simpa using hi,cond_false]
    exact⟨_,rfl,g5,by show out.length≤20; omega,g4⟩) (y,t1.L,t1.At,([]:List zg9)) ⟨hy.1,hy.2,by simp; omega,(fun x hx=>by cases hx),h1⟩
 dsimp only
 rw [e1,Option.bind_some]
 exact⟨_,_,rfl,h2,h3,h4⟩
def GR (i:Int) (n:Nat):Option ((Int×(List Int)×Int×(List ze9))⊕((List Int)×Int×(List ze9)))→Prop:=fun r=>
 ∃L A out',r=some (.inl (i - 1,L,A,out'))∧TOK ⟨L,A⟩∧out'.length≤n+2∧∀x∈out',okS x.Stamp
theorem reg_j3 (i:Int) (hi:1≤i∧i≤10) (out:List ze9) (hl:out.length≤18) (ho:∀x∈out,okS x.Stamp) (a:List Int) (b e e1 e2 e3 e4 e5:Int) (ht:TOK ⟨a,b⟩) (he:okS ⟨e,e1,e2⟩) :
  GR i out.length (zG9 i out a b e e1 e2 e3 e4 e5):=by
 unfold zG9
 obtain⟨x,hx⟩:∃x,x=ze9.mk (zB9.mk e e1 e2) e3 e4 e5:=⟨_,rfl⟩
 rw [← hx]
 have hxs:okS x.Stamp:=by rw [hx]; exact he
 refine reqQ (by simp; omega) ?_
 obtain⟨out4,h4⟩:∃o,o=out++[x]:=⟨_,rfl⟩
 rw [← h4]
 have hl4:out4.length=out.length+1:=by rw [h4]; simp
 have ho4:∀x∈out4,okS x.Stamp:=fun z hz=>by
  rw [h4] at hz
  rcases List.mem_append.1 hz with hz | hz
  ·exact ho z hz
  ·rw [List.mem_singleton.1 hz]; exact hxs
 refine bindP (one_post _ _ ht (by decide)) fun y t1 h1 _=>?_
 refine condQ (fun _=>?_) (fun _=>?_)
 ·refine bindP (zG1 t1 _ h1 (by omega) (by omega)) fun z t2 h2 hz=>?_
  have hm:=ix_mem out4 z hz.1 hz.2
  refine reqQ ⟨hz,by simp; omega⟩ (bindVQ ?_)
  unfold ze1
  rw [i64_id (by omega) (by omega)]
  refine⟨_,_,_,rfl,h2,by simp; omega,fun u hu=>?_⟩
  rcases List.mem_append.1 hu with hu | hu
  ·exact ho4 u hu
  ·rw [List.mem_singleton.1 hu]; exact ho4 _ hm
 ·unfold ze1
  rw [i64_id (by omega) (by omega)]
  exact⟨_,_,_,rfl,h1,by omega,ho4⟩
theorem registers_ok (t:zk9) (h:TOK t):Post (zI1 t 10 8) fun l=>l.length≤20∧∀x∈l,okS x.Stamp:=by
 unfold zI1
 refine bindP (Q:=fun x=>Post x _) (range_post t _ _ h (by decide) (by decide) (by decide)) fun y t1 h1 hy=>?_
 obtain⟨⟨a,b,o⟩,e1,h2,h3,h4⟩:=iter_inv (f:=zd1 8) (fun s:Int×(List Int)×Int×(List ze9)=>0≤s.1∧s.1≤10∧(s.2.2.2.length:Int)+2*s.1≤20∧(∀x∈s.2.2.2,okS x.Stamp)∧TOK ⟨s.2.1,s.2.2.1⟩) (fun s=>s.1.toNat)
  (fun r:(List Int)×Int×(List ze9)=>TOK ⟨r.1,r.2.1⟩∧r.2.2.length≤20∧∀x∈r.2.2,okS x.Stamp) (fun s hI=>by
   obtain⟨i,a,b,out⟩:=s
   obtain⟨g1,g2,g3,g4,g5⟩:=hI
   dsimp only at g1 g2 g3 g4 g5
   by_cases hi:0<i
   ·left
    have hi2:1≤i∧i≤10:=⟨by omega,g2⟩
    have hl:out.length≤18:=by omega
    have key:GR i out.length (zd1 8 (i,a,b,out)):=by
     unfold zd1
     dsimp only
     rw [show decide ((0:Int)<i)=true by simpa using hi,cond_true]
     refine bindP (range_post _ _ _ g5 (by decide) (by decide) (by decide)) fun y2 t2 h2 hy2=>?_
     refine bindP (pick_post t2 _ h2 (by decide) (by decide)) fun y4 t4 h4 hy4=>?_
     refine bindP (range_post t4 _ _ h4 (by decide) (by decide) (by decide)) fun y6 t6 h6 _=>?_
     refine bindP (zG1 t6 _ h6 (by decide) (by decide)) fun y8 t8 h8 _=>?_
     refine bindP (zG1 t8 _ h8 (by decide) (by decide)) fun y10 t10 h10 _=>?_
     have hs:okS ⟨y2,y4,(out.length:Int)⟩:=by
      simp only [List.mem_cons,List.not_mem_nil,or_false] at hy4
      refine⟨?_,?_,?_⟩
      ·show in64 y2; unfold in64; omega
      ·show in64 y4; unfold in64; omega
      ·show in64 (out.length:Int); unfold in64; omega
     refine condQ (fun _=>?_) (fun _=>reg_j3 i hi2 out hl g4 _ _ _ _ _ _ _ _ h10 hs)
     refine bindP (one_post t10 _ h10 (by decide)) fun _ t11 h11 _=>?_
     refine condQ (fun _=>?_) (fun _=>reg_j3 i hi2 out hl g4 _ _ _ _ _ _ _ _ h11 hs)
     refine bindP (zG1 t11 _ h11 (by decide) (by decide)) fun _ t12 h12 _=>?_
     refine condQ (fun _=>bindP (range_post t12 _ _ h12 (by decide) (by decide) (by decide)) fun _ _ h _=>reg_j3 i hi2 out hl g4 _ _ _ _ _ _ _ _ h hs) (fun _=>?_)
     refine condQ (fun _=>bindP (wild_post t12 h12) fun _ _ h _=>reg_j3 i hi2 out hl g4 _ _ _ _ _ _ _ _ h hs) (fun _=>?_)
     refine condQ (fun _=>bindP (pick_post t12 _ h12 (by decide) (by decide)) fun _ _ h _=>reg_j3 i hi2 out hl g4 _ _ _ _ _ _ _ _ h hs) (fun _=>?_)
     exact bindP (stamp_post t12 h12) fun _ _ h hk=>reg_j3 i hi2 out hl g4 _ _ _ _ _ _ _ _ h hk
    obtain⟨L,A,out',e,k1,k2,k3⟩:=key
    exact⟨_,e,⟨by show 0≤i - 1; omega,by show i - 1≤10; omega,by show (out'.length:Int)+2*(i - 1)≤20; omega,k3,k1⟩,by show (i - 1).toNat<i.toNat; omega⟩
   ·right
    unfold zd1
    dsimp only
    rw [show decide ((0:Int)<i)=false by simpa using hi,cond_false]
    exact⟨_,rfl,g5,by show out.length≤20; omega,g4⟩) (y,t1.L,t1.At,([]:List ze9)) ⟨hy.1,hy.2,by simp; omega,(fun x hx=>by cases hx),h1⟩
 dsimp only
 rw [e1,Option.bind_some]
 exact⟨_,_,rfl,h2,h3,h4⟩
def GB (i:Int) (n:Nat):Option ((Int×(List Int)×Int×(List zh9)×(List Int)×(List Int))⊕((List Int)×Int×(List zh9)))→Prop:=fun r=>
 ∃L A out' w w',r=some (.inl (i - 1,L,A,out',w,w'))∧TOK ⟨L,A⟩∧out'.length≤n+2∧(∀x∈out',okB x)∧w.length=3∧(∀x∈w,-1≤x∧x≤3)∧w'.length=3
structure HW (w w1:List Int):Prop where
 l:w.length=3
 r:∀x∈w,-1≤x∧x≤3
 l1:w1.length=3
theorem HW.set {w w1:List Int}(h:HW w w1) (k x:Int) (hx : -1≤x∧x≤3):HW (setI w k x) w1:=by
 refine⟨by rw [len_setI]; exact h.l,fun y hy=>?_,h.l1⟩
 rcases List.mem_or_eq_of_mem_set hy with hy | hy
 ·exact h.r y hy
 ·rw [hy]; exact hx
theorem HW.set1 {w w1:List Int}(h:HW w w1) (k x:Int):HW w (setI w1 k x):=⟨h.l,h.r,by rw [len_setI]; exact h.l1⟩
theorem bag_j3 (i:Int) (hi:1≤i∧i≤10) (out:List zh9) (hl:out.length≤18) (ho:∀x∈out,okB x) (w w1:List Int) (hw:HW w w1) (a:List Int) (b e5 e6 e7 e8 e9 e10 e11 e12:Int) (w7:List Int) (ht:TOK ⟨a,b⟩) (he:okS ⟨e5,e6,e7⟩) (h7:w7.length≤100) :
  GB i out.length (zH9 i out w w1 a b e5 e6 e7 e8 e9 e10 e11 e12 w7):=by
 unfold zH9
 obtain⟨x,hx⟩:∃x,x=zh9.mk (zB9.mk e5 e6 e7) e8 e9 e10 e11 e12 w7:=⟨_,rfl⟩
 rw [← hx]
 have hxs:okB x:=by rw [hx]; exact⟨he,h7⟩
 refine reqQ (by simp; omega) (bindVQ ?_)
 obtain⟨out4,h4⟩:∃o,o=out++[x]:=⟨_,rfl⟩
 rw [← h4]
 have hl4:out4.length=out.length+1:=by rw [h4]; simp
 have ho4:∀x∈out4,okB x:=fun z hz=>by
  rw [h4] at hz
  rcases List.mem_append.1 hz with hz | hz
  ·exact ho z hz
  ·rw [List.mem_singleton.1 hz]; exact hxs
 refine bindP (one_post _ _ ht (by decide)) fun y t1 h1 _=>?_
 refine condQ (fun _=>?_) (fun _=>?_)
 ·refine bindP (zG1 t1 _ h1 (by omega) (by omega)) fun z t2 h2 hz=>?_
  have hm:=ix_mem out4 z hz.1 hz.2
  refine reqQ ⟨hz,by simp; omega⟩ (bindVQ ?_)
  unfold zE1
  rw [i64_id (by omega) (by omega)]
  refine⟨_,_,_,_,_,rfl,h2,by simp; omega,fun u hu=>?_,hw.l,hw.r,hw.l1⟩
  rcases List.mem_append.1 hu with hu | hu
  ·exact ho4 u hu
  ·rw [List.mem_singleton.1 hu]; exact ho4 _ hm
 ·unfold zE1
  rw [i64_id (by omega) (by omega)]
  exact⟨_,_,_,_,_,rfl,h1,by omega,ho4,hw.l,hw.r,hw.l1⟩
theorem bag_j4 (i:Int) (hi:1≤i∧i≤10) (out:List zh9) (hl:out.length≤18) (ho:∀x∈out,okB x) (w w1:List Int) (hw:HW w w1) (y2:Int) (a:List Int) (b e e1 e2 e3:Int) (w6:List Int) (e4:Int) (ht:TOK ⟨a,b⟩) (h4:in64 e4) (h6:w6.length≤99) :
  GB i out.length (zD1 8 i out y2 a b e e1 e2 e3 w w1 w6 e4):=by
 have hs:okS ⟨(out.length:Int),e4,(out.length:Int)⟩:=⟨by show in64 (out.length:Int); unfold in64; omega,h4,by show in64 (out.length:Int); unfold in64; omega⟩
 have h6':w6.length≤100:=by omega
 unfold zD1
 refine condQ (fun _=>?_) (fun _=>bag_j3 i hi out hl ho w w1 hw _ _ _ _ _ _ _ _ _ _ _ ht hs h6')
 refine bindP (one_post _ _ ht (by decide)) fun _ t1 h1 _=>?_
 refine condQ (fun _=>?_) (fun _=>bag_j3 i hi out hl ho w w1 hw _ _ _ _ _ _ _ _ _ _ _ h1 hs h6')
 refine bindP (zG1 t1 _ h1 (by decide) (by decide)) fun _ t2 h2 _=>?_
 refine condQ (fun _=>bindP (range_post t2 _ _ h2 (by decide) (by decide) (by decide)) fun _ _ h _=>bag_j3 i hi out hl ho w w1 hw _ _ _ _ _ _ _ _ _ _ _ h hs h6') (fun _=>?_)
 refine condQ (fun _=>bindP (pick_post t2 _ h2 (by decide) (by decide)) fun _ _ h _=>bag_j3 i hi out hl ho w w1 hw _ _ _ _ _ _ _ _ _ _ _ h hs h6') (fun _=>?_)
 refine condQ (fun _=>bindP (pick_post t2 _ h2 (by decide) (by decide)) fun _ _ h _=>bag_j3 i hi out hl ho w w1 hw _ _ _ _ _ _ _ _ _ _ _ h hs h6') (fun _=>?_)
 refine condQ (fun _=>bindP (pick_post t2 _ h2 (by decide) (by decide)) fun _ _ h _=>bag_j3 i hi out hl ho w w1 hw _ _ _ _ _ _ _ _ _ _ _ h hs h6') (fun _=>?_)
 refine condQ (fun _=>bindP (pick_post t2 _ h2 (by decide) (by decide)) fun _ _ h _=>bag_j3 i hi out hl ho w w1 hw _ _ _ _ _ _ _ _ _ _ _ h hs h6') (fun _=>?_)
 refine condQ (fun _=>bindP (pick_post t2 _ h2 (by decide) (by decide)) fun _ _ h _=>reqQ (by simp; omega) (bag_j3 i hi out hl ho w w1 hw _ _ _ _ _ _ _ _ _ _ _ h hs (by simp; omega))) (fun _=>?_)
 exact bindP (stamp_post t2 h2) fun _ _ h hk=>bag_j3 i hi out hl ho w w1 hw _ _ _ _ _ _ _ _ _ _ _ h hk h6'
theorem bag_j5 (i:Int) (hi:1≤i∧i≤10) (out:List zh9) (hl:out.length≤18) (ho:∀x∈out,okB x) (w w1:List Int) (hw:HW w w1) (y2 y4:Int) (a:List Int) (b e e1 e2 e3:Int) (w6:List Int) (ht:TOK ⟨a,b⟩) (h4:in64 y4) (h2 : -1≤e2∧e2≤3) (h6:w6.length≤99) :
  GB i out.length (zW9 8 i out y2 y4 a b e e1 e2 e3 w w1 w6):=by
 unfold zW9
 refine condQ (fun _=>bag_j4 i hi out hl ho w w1 hw _ _ _ _ _ _ _ _ _ ht ?_ h6) (fun _=>bag_j4 i hi out hl ho w w1 hw _ _ _ _ _ _ _ _ _ ht h4 h6)
 unfold imax in64
 split <;> omega
def QL (c:Int):Option ((Int×(List Int)×Int×(List Int))⊕((List Int)×Int×(List Int)))→Prop:=fun r=>∃ (a':List Int) (b':Int) (w':List Int),r=some (Sum.inl (c+1,a',b',w'))∧TOK ⟨a',b'⟩∧(w'.length:Int)≤c+1
theorem bag_l8 (y2:Int) (a:List Int) (b:Int) (ht:TOK ⟨a,b⟩):∃r,iter (zm1 y2) ((0:Int),a,b,([]:List Int))=some r∧TOK ⟨r.1,r.2.1⟩∧r.2.2.length≤9:=by
 refine iter_inv (f:=zm1 y2) (fun s:Int×(List Int)×Int×(List Int)=>0≤s.1∧s.1≤9∧(s.2.2.2.length:Int)≤s.1∧TOK ⟨s.2.1,s.2.2.1⟩) (fun s=>9 - s.1.toNat)
  (fun r:(List Int)×Int×(List Int)=>TOK ⟨r.1,r.2.1⟩∧r.2.2.length≤9) (fun s hI=>?_) _ ⟨Int.le_refl _,by show (0:Int)≤9; decide,by simp,ht⟩
 obtain⟨c,a,b,w⟩:=s
 obtain⟨g1,g2,g3,g4⟩:=hI
 dsimp only at g1 g2 g3 g4
 by_cases hc:c<9
 ·left
  have key:QL c (zm1 y2 (c,a,b,w)):=by
   have fin:∀ (a':List Int) (b':Int) (w':List Int),TOK ⟨a',b'⟩→(w'.length:Int)≤c+1→QL c (zn1 c a' b' w'):=fun a' b' w' h1 h2=>by
    unfold zn1
    rw [i64_id (by omega) (by omega)]
    exact⟨_,_,_,rfl,h1,h2⟩
   unfold zm1
   dsimp only
   rw [show decide (c<(9:Int))=true by simpa using hc,cond_true]
   obtain⟨y,e1,_⟩:=cut_ok c 3 (by decide)
   rw [e1,Option.bind_some]
   refine condQ (Q:=QL c) (fun _=>?_) (fun _=>fin _ _ _ g4 (by omega))
   refine bindP (Q:=QL c) (zG1 _ _ g4 (by decide) (by decide)) fun _ t1 h1 _=>?_
   refine condQ (Q:=QL c) (fun _=>?_) (fun _=>fin _ _ _ h1 (by omega))
   exact reqQ (Q:=QL c) (by simp; omega) (fin _ _ _ h1 (by simp; omega))
  obtain⟨a',b',w',e,k1,k2⟩:=key
  exact⟨_,e,⟨by show 0≤c+1; omega,by show c+1≤9; omega,k2,k1⟩,by show 9 - (c+1).toNat<9 - c.toNat; omega⟩
 ·right
  unfold zm1
  dsimp only
  rw [show decide (c<(9:Int))=false by simpa using hc,cond_false]
  exact⟨_,rfl,g4,by show w.length≤9; omega⟩
theorem sorted9_ok (t:zk9) (h:TOK t):Post (make_Tape_Sorted t 9) fun l=>l.length≤9:=by
 unfold make_Tape_Sorted
 obtain⟨⟨a,b,o⟩,e1,h2,h3⟩:=iter_inv (f:=make_Tape_Sorted_l3 9) (fun s:Int×(List Int)×Int×(List Int)=>0≤s.1∧s.1≤9∧(s.2.2.2.length:Int)≤s.1∧TOK ⟨s.2.1,s.2.2.1⟩) (fun s=>9 - s.1.toNat)
  (fun r:(List Int)×Int×(List Int)=>TOK ⟨r.1,r.2.1⟩∧r.2.2.length≤9) (fun s hI=>by
   obtain⟨c,a,b,w⟩:=s
   obtain⟨g1,g2,g3,g4⟩:=hI
   dsimp only at g1 g2 g3 g4
   unfold make_Tape_Sorted_l3
   dsimp only
   by_cases hc:c<9
   ·left
    obtain⟨y,t1,e,h1,_⟩:=zG1 ⟨a,b⟩ 2 g4 (by decide) (by decide)
    rw [show decide (c<(9:Int))=true by simpa using hc,cond_true,e,Option.bind_some]
    dsimp only
    unfold make_Tape_Sorted_j2
    rw [i64_id (by omega) (by omega)]
    rcases bcases (y==(1:Int)) with hb | hb <;> rw [hb]
    ·rw [cond_true,req_pos (by simp; omega)]
     exact⟨_,rfl,⟨by show 0≤c+1; omega,by show c+1≤9; omega,by show ((w++[c]).length:Int)≤c+1; simp; omega,h1⟩,by show 9 - (c+1).toNat<9 - c.toNat; omega⟩
    ·rw [cond_false]
     exact⟨_,rfl,⟨by show 0≤c+1; omega,by show c+1≤9; omega,by show (w.length:Int)≤c+1; omega,h1⟩,by show 9 - (c+1).toNat<9 - c.toNat; omega⟩
   ·right
    rw [show decide (c<(9:Int))=false by simpa using hc,cond_false]
    exact⟨_,rfl,g4,by show w.length≤9; omega⟩) ((0:Int),t.L,t.At,([]:List Int)) ⟨Int.le_refl _,by show (0:Int)≤9; decide,by simp,h⟩
 rw [e1,Option.bind_some]
 exact⟨_,_,rfl,h2,h3⟩
theorem bags_ok (t:zk9) (h:TOK t):Post (make_Tape_BagEvents t 10 8) fun l=>l.length≤20∧∀x∈l,okB x:=by
 unfold make_Tape_BagEvents
 refine bindP (Q:=fun x=>Post x _) (range_post t _ _ h (by decide) (by decide) (by decide)) fun y t1 h1 hy=>?_
 obtain⟨⟨a,b,o⟩,e1,h2,h3,h4⟩:=iter_inv (f:=zC1 8) (fun s:Int×(List Int)×Int×(List zh9)×(List Int)×(List Int)=>0≤s.1∧s.1≤10∧(s.2.2.2.1.length:Int)+2*s.1≤20∧(∀x∈s.2.2.2.1,okB x)∧TOK ⟨s.2.1,s.2.2.1⟩∧HW s.2.2.2.2.1 s.2.2.2.2.2) (fun s=>s.1.toNat)
  (fun r:(List Int)×Int×(List zh9)=>TOK ⟨r.1,r.2.1⟩∧r.2.2.length≤20∧∀x∈r.2.2,okB x) (fun s hI=>by
   obtain⟨i,a,b,out,w,w1⟩:=s
   obtain⟨g1,g2,g3,g4,g5,g6⟩:=hI
   dsimp only at g1 g2 g3 g4 g5 g6
   by_cases hi:0<i
   ·left
    have hi2:1≤i∧i≤10:=⟨by omega,g2⟩
    have hl:out.length≤18:=by omega
    have key:GB i out.length (zC1 8 (i,a,b,out,w,w1)):=by
     unfold zC1
     dsimp only
     rw [show decide ((0:Int)<i)=true by simpa using hi,cond_true]
     refine bindP (zG1 _ _ g5 (by decide) (by decide)) fun y2 t2 h2 hy2=>?_
     refine bindP (zG1 t2 _ h2 (by decide) (by decide)) fun y4 t4 h4 hy4=>?_
     refine bindP (pick_post t4 _ h4 (by decide) (by decide)) fun y6 t6 h6 _=>?_
     have hw:=g6.l
     have hw1:=g6.l1
     refine reqQ (by omega) ?_
     refine bindP (pick_post t6 _ h6 (by decide) (by decide)) fun y8 t8 h8 hy8=>?_
     refine reqQ (by omega) ?_
     have i4:in64 y4:=by unfold in64; omega
     have hm:=g6.r _ (ix_mem w y2 hy2.1 (by omega))
     have h8r : -1≤y8∧y8≤3:=by
      simp only [List.mem_cons,List.not_mem_nil,or_false] at hy8
      omega
     refine condQ (fun _=>?_) (fun _=>?_)
     ·refine bindP (range_post t8 _ _ h8 (by decide) (by decide) (by decide)) fun y32 t32 h32 hy32=>?_
      refine bindP (zG1 t32 _ h32 (by decide) (by decide)) fun y34 t34 h34 hy34=>?_
      obtain⟨⟨a1,b1,w11⟩,e9,k1,k2⟩:=bag_l8 y2 t34.L t34.At h34
      dsimp only
      rw [e9,Option.bind_some]
      dsimp only at k1 k2 ⊢
      unfold make_Tape_BagEvents_j6
      refine reqQ (by omega) (bindVQ ?_)
      exact bag_j5 i hi2 out hl g4 _ _ ((g6.set _ _ (by omega)).set1 _ _) _ _ _ _ _ _ _ _ _ k1 i4 (by omega) (by omega)
     ·refine condQ (fun _=>?_) (fun _=>?_)
      ·exact reqQ (by omega) (bag_j5 i hi2 out hl g4 _ _ (g6.set _ _ h8r) _ _ _ _ _ _ _ _ _ h8 i4 hm (by simp))
      ·refine condQ (fun _=>?_) (fun _=>?_)
       ·refine bindP (zG1 t8 _ h8 (by decide) (by decide)) fun y39 t39 h39 hy39=>?_
        exact reqQ (by omega) (bag_j5 i hi2 out hl g4 _ _ (g6.set1 _ _) _ _ _ _ _ _ _ _ _ h39 i4 hm (by simp))
       ·refine condQ (fun _=>?_) (fun _=>?_)
        ·refine bindP (sorted9_ok t8 h8) fun y41 t41 h41 hy41=>?_
         exact bag_j5 i hi2 out hl g4 _ _ g6 _ _ _ _ _ _ _ _ _ h41 i4 hm (by dsimp only; omega)
        ·exact bag_j5 i hi2 out hl g4 _ _ g6 _ _ _ _ _ _ _ _ _ h8 i4 hm (by simp)
    obtain⟨L,A,out',w',w1',e,k1,k2,k3,k4,k5,k6⟩:=key
    exact⟨_,e,⟨by show 0≤i - 1; omega,by show i - 1≤10; omega,by show (out'.length:Int)+2*(i - 1)≤20; omega,k3,k1,⟨k4,k5,k6⟩⟩,by show (i - 1).toNat<i.toNat; omega⟩
   ·right
    unfold zC1
    dsimp only
    rw [show decide ((0:Int)<i)=false by simpa using hi,cond_false]
    exact⟨_,rfl,g5,by show out.length≤20; omega,g4⟩) (y,t1.L,t1.At,([]:List zh9),[(-1:Int),(-1:Int),(-1:Int)],[(0:Int),(0:Int),(0:Int)]) ⟨hy.1,hy.2,by simp; omega,(fun x hx=>by cases hx),h1,⟨rfl,(fun x hx=>by have hx':x∈[(-1:Int),-1,-1]:=hx; simp at hx'; omega),rfl⟩⟩
 dsimp only
 rw [e1,Option.bind_some]
 exact⟨_,_,rfl,h2,h3,h4⟩
theorem order_all (t:zk9) (h:TOK t) (n:Nat) (hn:n≤20):Post (make_Tape_Order t (n:Int)) fun l=>l.length=n∧∀x,x∈l↔0≤x∧x<(n:Int):=by
 unfold make_Tape_Order
 obtain⟨⟨o,a,b⟩,e1,h2,h3,h4⟩:=iter_inv (f:=make_Tape_Order_l2 (n:Int)) (fun s:(List Int)×Int×(List Int)×Int=>0≤s.2.1∧s.2.1≤n∧(s.1.length:Int)=s.2.1∧(∀x,x∈s.1↔0≤x∧x<s.2.1)∧TOK ⟨s.2.2.1,s.2.2.2⟩) (fun s=>n - s.2.1.toNat)
  (fun r:(List Int)×(List Int)×Int=>TOK ⟨r.2.1,r.2.2⟩∧r.1.length=n∧∀x,x∈r.1↔0≤x∧x<(n:Int)) (fun s hI=>by
   obtain⟨o,i,tl,ta⟩:=s
   obtain⟨g1,g2,g3,g4,g5⟩:=hI
   dsimp only at g1 g2 g3 g4 g5
   unfold make_Tape_Order_l2
   dsimp only
   by_cases hi:i<n
   ·left
    obtain⟨y,t',e1,k1,k2,k3⟩:=zG1 ⟨tl,ta⟩ (i+1) g5 (by omega) (by omega)
    rw [show decide (i<(n:Int))=true by simpa using hi,cond_true,i64_id (n:=i+1) (by omega) (by omega),e1,Option.bind_some]
    dsimp only
    rw [req_pos ⟨⟨k2,by omega⟩,by simp; omega⟩,req_pos (by simp; omega),req_pos ⟨⟨k2,by omega⟩,by simp; omega⟩]
    unfold bindV
    refine⟨_,rfl,⟨?_,?_,?_,?_,k1⟩,?_⟩
    ·show 0≤i+1; omega
    ·show i+1≤n; omega
    ·show (((([]:List Int)++o.take y.toNat)++[i]++o.drop y.toNat).length:Int)=i+1
     simp; omega
    ·intro x
     have hx:=g4 x
     rw [← List.take_append_drop y.toNat o,List.mem_append] at hx
     simp only [List.nil_append,List.mem_append,List.mem_singleton]
     constructor
     ·rintro ((h | h) | h)
      ·have:=hx.1 (.inl h); omega
      ·omega
      ·have:=hx.1 (.inr h); omega
     ·intro h
      by_cases he:x=i
      ·exact .inl (.inr he)
      ·rcases hx.2 ⟨h.1,by omega⟩ with h | h
       ·exact .inl (.inl h)
       ·exact .inr h
    ·show n - (i+1).toNat<n - i.toNat
     omega
   ·right
    rw [show decide (i<(n:Int))=false by simpa using hi,cond_false]
    have:i=n:=by omega
    subst this
    exact⟨_,rfl,g5,by show o.length=n; omega,g4⟩) (([]:List Int),(0:Int),t.L,t.At) ⟨Int.le_refl _,by show (0:Int)≤n; omega,rfl,(fun x=>by simp),h⟩
 rw [e1,Option.bind_some]
 exact⟨_,_,rfl,h2,h3,h4⟩
theorem mixed_ok (t:zk9) (h:TOK t) (n:Nat) (hn:n≤20):Post (make_Tape_Mixed t (n:Int)) fun l=>l.length≤30∧∀x,x∈l↔0≤x∧x<(n:Int):=by
 unfold make_Tape_Mixed
 refine bindP (Q:=fun x=>Post x _) (order_all t h n hn) fun o t1 h1 ho=>?_
 refine bindP (Q:=fun x=>Post x _) (zG1 t1 _ h1 (by decide) (by decide)) fun y2 t2 h2 hy2=>?_
 obtain⟨⟨o',a,b⟩,e1,k2,k3,k4⟩:=iter_inv (f:=make_Tape_Mixed_l2 (n:Int)) (fun s:(List Int)×Int×(List Int)×Int=>0≤s.2.1∧s.2.1≤4∧(s.1.length:Int)+s.2.1≤30∧(∀x,x∈s.1↔0≤x∧x<(n:Int))∧TOK ⟨s.2.2.1,s.2.2.2⟩) (fun s=>s.2.1.toNat)
  (fun r:(List Int)×(List Int)×Int=>TOK ⟨r.2.1,r.2.2⟩∧r.1.length≤30∧∀x,x∈r.1↔0≤x∧x<(n:Int)) (fun s hI=>by
   obtain⟨o,i,tl,ta⟩:=s
   obtain⟨g1,g2,g3,g4,g5⟩:=hI
   dsimp only at g1 g2 g3 g4 g5
   unfold make_Tape_Mixed_l2
   dsimp only
   by_cases hi:0<i∧0<(n:Int)
   ·left
    obtain⟨y,t',e1,k1,k2,k3⟩:=zG1 ⟨tl,ta⟩ ((o.length:Int)+1) g5 (by omega) (by omega)
    obtain⟨z,t'',e2,l1,l2,l3⟩:=zG1 t' (n:Int) k1 (by omega) (by omega)
    rw [show (decide ((0:Int)<i)&&decide ((0:Int)<(n:Int)))=true by simp only [Bool.and_eq_true,decide_eq_true_eq]; exact hi,cond_true,i64_id (n:=(o.length:Int)+1) (by omega) (by omega),e1,Option.bind_some]
    dsimp only
    rw [e2,Option.bind_some]
    dsimp only
    rw [req_pos ⟨⟨k2,by omega⟩,by simp; omega⟩,req_pos (by simp; omega),req_pos ⟨⟨k2,by omega⟩,by simp; omega⟩,i64_id (n:=i - 1) (by omega) (by omega)]
    unfold bindV
    refine⟨_,rfl,⟨?_,?_,?_,?_,l1⟩,?_⟩
    ·show 0≤i - 1; omega
    ·show i - 1≤4; omega
    ·show (((([]:List Int)++o.take y.toNat)++[z]++o.drop y.toNat).length:Int)+(i - 1)≤30
     simp; omega
    ·intro x
     have hx:=g4 x
     rw [← List.take_append_drop y.toNat o,List.mem_append] at hx
     simp only [List.nil_append,List.mem_append,List.mem_singleton]
     constructor
     ·rintro ((h | h) | h)
      ·exact hx.1 (.inl h)
      ·omega
      ·exact hx.1 (.inr h)
     ·intro h
      rcases hx.2 h with h | h
      ·exact .inl (.inl h)
      ·exact .inr h
    ·show (i - 1).toNat<i.toNat
     omega
   ·right
    rw [show (decide ((0:Int)<i)&&decide ((0:Int)<(n:Int)))=false by rw [Bool.and_eq_false_iff]; simp only [decide_eq_false_iff_not]; omega,cond_false]
    exact⟨_,rfl,g5,by show o.length≤30; omega,g4⟩) (o,y2,t2.L,t2.At) ⟨hy2.1,by show y2≤4; omega,by show (o.length:Int)+y2≤30; omega,ho.2,h2⟩
 dsimp only
 rw [e1,Option.bind_some]
 exact⟨_,_,rfl,k2,k3,k4⟩
end Go.LS
namespace Go.LS
open Go.Proofs
set_option linter.all false
set_option linter.unusedSimpArgs false
set_option linter.unusedVariables false
theorem half (x y:Nat) (h:x+y≤4000):IntKind.i64.wrap (bShr .u64 (IntKind.u64.wrap (IntKind.i64.wrap ((x:Int)+(y:Int)))) (1:Int))=(((x+y) / 2:Nat):Int):=by
 rw [i64_id (n:=(x:Int)+y) (by omega) (by omega)]
 have e1:IntKind.u64.wrap ((x:Int)+(y:Int))=((x+y:Nat):Int):=by
  simp only [IntKind.wrap,IntKind.bits,IntKind.signed]; simp; omega
 rw [e1]
 have e2:bShr .u64 ((x+y:Nat):Int) (1:Int)=(((x+y) / 2:Nat):Int):=by
  unfold bShr
  rw [show (2:Int) ^ (min (1:Int).toNat (IntKind.bits .u64))=2 by decide,Int.fdiv_eq_ediv_of_nonneg _ (by decide)]
  omega
 rw [e2,i64_id (by omega) (by omega)]
theorem bsf_loop (n:Nat) (hn:n≤1000) (lt:Nat→Bool) (f:Int×Int→Option ((Int×Int)⊕Int))
  (hf:∀i j:Nat,i<j→j≤n→f ((i:Int),(j:Int))=some (.inl (if lt ((i+j) / 2)=true then ((((i+j) / 2+1:Nat):Int),(j:Int)) else ((i:Int),(((i+j) / 2:Nat):Int)))))
  (hend:∀i:Nat,i≤n→f ((i:Int),(i:Int))=some (.inr (i:Int))) :
  ∃p:Nat,p≤n∧iter f ((0:Int),(n:Int))=some (p:Int)∧((∀a b,a≤b→b<n→lt b=true→lt a=true)→(∀k,k<p→lt k=true)∧∀k,p≤k→k<n→lt k=false):=by
 have key:∀m i j:Nat,j - i=m→i≤j→j≤n→∃p:Nat,p≤n∧iter f ((i:Int),(j:Int))=some (p:Int)∧((∀a b,a≤b→b<n→lt b=true→lt a=true)→(∀k,k<i→lt k=true)→(∀k,j≤k→k<n→lt k=false)→(∀k,k<p→lt k=true)∧∀k,p≤k→k<n→lt k=false):=by
  intro m
  induction m using Nat.strongRecOn with
  | _ m ih=>
   intro i j hm hij hj
   by_cases hlt:i<j
   ·have h1:=hf i j hlt hj
    cases hc:lt ((i+j) / 2) with
    | true=>
     rw [hc,if_pos rfl] at h1
     obtain⟨p,hp,e,hq⟩:=ih (j - ((i+j) / 2+1)) (by omega) ((i+j) / 2+1) j rfl (by omega) hj
     refine⟨p,hp,by rw [iter_inl h1]; exact e,fun mono ha hb=>hq mono (fun k hk=>mono k ((i+j) / 2) (by omega) (by omega) hc) hb⟩
    | false=>
     rw [hc,if_neg (by simp)] at h1
     obtain⟨p,hp,e,hq⟩:=ih ((i+j) / 2 - i) (by omega) i ((i+j) / 2) rfl (by omega) (by omega)
     refine⟨p,hp,by rw [iter_inl h1]; exact e,fun mono ha hb=>hq mono ha fun k hk hkn=>?_⟩
     cases hk2:lt k with
     | false=>rfl
     | true=>have:=mono _ k hk hkn hk2; rw [hc] at this; cases this
   ·have:i=j:=by omega
    subst this
    exact⟨i,hj,by rw [iter_inr (hend i hj)],fun _ ha hb=>⟨ha,hb⟩⟩
 obtain⟨p,hp,e,hq⟩:=key n 0 n (by omega) (by omega) (Nat.le_refl _)
 exact⟨p,hp,e,fun mono=>hq mono (fun k hk=>by omega) (fun k h1 h2=>by omega)⟩
def cmpI (x y:Int):Int:=if x<y then -1 else if y<x then 1 else 0
theorem cmp_eq (x y:Int):cmp_Compare_int x y=some (cmpI x y):=by
 unfold cmp_Compare_int cmp_isNaN_int cmpI
 simp only [Option.bind_some,bne_self_eq_false,cond_false]
 by_cases h:x<y
 ·rw [if_pos h,show decide (x<y)=true by simpa using h,cond_true]
 ·rw [if_neg h,show decide (x<y)=false by simpa using h,cond_false]
  by_cases h2:y<x
  ·rw [if_pos h2,show decide (y<x)=true by simpa using h2,cond_true]
  ·rw [if_neg h2,show decide (y<x)=false by simpa using h2,cond_false]
theorem or_eq (a b:Int):cmp_Or_int [a,b]=some (if a≠0 then a else b):=by
 unfold cmp_Or_int
 have h0:cmp_Or_int_l2 [a,b] (0:Int)=if a≠0 then some (.inr (.inr a)) else some (.inl (1:Int)):=by
  unfold cmp_Or_int_l2
  rw [show decide ((0:Int)<(([a,b]:List Int).length:Int))=true from rfl,cond_true,req_pos (by constructor <;> simp)]
  show (bif (a != 0) then _ else _)=_
  by_cases h:a=0
  ·subst h; rfl
  ·rw [if_pos h,show (a != 0)=true by simpa using h,cond_true]; rfl
 have h1:cmp_Or_int_l2 [a,b] (1:Int)=if b≠0 then some (.inr (.inr b)) else some (.inl (2:Int)):=by
  unfold cmp_Or_int_l2
  rw [show decide ((1:Int)<(([a,b]:List Int).length:Int))=true from rfl,cond_true,req_pos (by constructor <;> simp)]
  show (bif (b != 0) then _ else _)=_
  by_cases h:b=0
  ·subst h; rfl
  ·rw [if_pos h,show (b != 0)=true by simpa using h,cond_true]; rfl
 have h2:cmp_Or_int_l2 [a,b] (2:Int)=some (.inr (.inl ())):=rfl
 by_cases ha:a=0
 ·rw [if_neg (by simpa using ha)] at h0
  rw [iter_inl h0,if_neg (by simpa using ha)]
  by_cases hb:b=0
  ·rw [if_neg (by simpa using hb)] at h1
   rw [iter_inl h1,iter_inr h2,hb]; rfl
  ·rw [if_pos hb] at h1
   rw [iter_inr h1]; rfl
 ·rw [if_pos ha] at h0
  rw [iter_inr h0,if_pos ha]; rfl
def cmpE (x:zf9) (e:zX9):Int:=if cmpI x.Entry.Candidate e.Candidate≠0 then cmpI x.Entry.Candidate e.Candidate else cmpI x.Entry.Paper e.Paper
theorem compare_eq (x:zf9) (e:zX9):zP1 x e=some (cmpE x e):=by
 unfold zP1
 rw [cmp_eq,Option.bind_some,cmp_eq,Option.bind_some,or_eq]; rfl
theorem cmpE_lt (x:zf9) (e:zX9):cmpE x e<0↔x.Entry.Candidate<e.Candidate∨(x.Entry.Candidate=e.Candidate∧x.Entry.Paper<e.Paper):=by
 unfold cmpE cmpI; split <;> (repeat' split) <;> omega
theorem cmpE_zero (x:zf9) (e:zX9):cmpE x e=0↔x.Entry.Candidate=e.Candidate∧x.Entry.Paper=e.Paper:=by
 unfold cmpE cmpI; split <;> (repeat' split) <;> omega
structure BS (n:Nat) (c:Nat→Int) (p:Nat) (th:Bool):Prop where
 le:p≤n
 hit:th=true→p<n∧c p=0
 miss:th=false→p<n→c p≠0
 ord:(∀a b,a≤b→b<n→c b<0→c a<0)→(∀k,k<p→c k<0)∧∀k,p≤k→k<n→0≤c k
theorem bs_of {n:Nat}{c:Nat→Int}{p:Nat}(hp:p≤n) (h:(∀a b,a≤b→b<n→decide (c b<0)=true→decide (c a<0)=true)→(∀k,k<p→decide (c k<0)=true)∧∀k,p≤k→k<n→decide (c k<0)=false):BS n c p (decide (p<n)&&(c p==0)):=by
 refine⟨hp,fun h=>by simpa using h,fun h1 h2 h3=>by rw [h3] at h1; simp [h2] at h1,fun mono=>?_⟩
 obtain⟨h1,h2⟩:=h fun a b hab hb hc=>by simpa using mono a b hab hb (by simpa using hc)
 exact⟨fun k hk=>by simpa using h1 k hk,fun k hk hkn=>by have:=h2 k hk hkn; simpa using this⟩
theorem bsE_ok (L:List zf9) (t:zX9) (hL:L.length≤1000):∃ (p:Nat) (th:Bool),zm9 L t=some ((p:Int),th)∧BS L.length (fun k=>cmpE (L.getD k default) t) p th:=by
 unfold zm9
 obtain⟨p,hp,e,hq⟩:=bsf_loop L.length hL (fun k=>decide (cmpE (L.getD k default) t<0)) (zl9 L t) (fun i j hij hj=>by
  unfold zl9
  dsimp only
  rw [show decide ((i:Int)<(j:Int))=true by simpa using hij,cond_true,half i j (by omega),bindV_def,req_pos (by omega),compare_eq,Option.bind_some]
  show (bif decide (cmpE (L.getD ((i+j) / 2) default) t<0) then _ else _)=_
  rw [i64_add1 ((i+j) / 2) (by omega)]
  cases decide (cmpE (L.getD ((i+j) / 2) default) t<0) <;> rfl) (fun i hi=>by
  unfold zl9
  dsimp only
  rw [show decide ((i:Int)<(i:Int))=false by simp,cond_false])
 refine⟨p,_,?_,bs_of hp hq⟩
 rw [e,Option.bind_some]
 unfold zq9
 refine reqE ⟨fun h=>?_,fun _=>by rw [compare_eq]; rfl⟩ ?_
 ·have:(p:Int)<L.length:=by simpa using h
  omega
 rw [compare_eq]
 simp only [Option.getD_some,Int.ofNat_lt]
 rfl
theorem bsA_ok (L:List zf9) (t:Int) (hL:L.length≤1000):∃ (p:Nat) (th:Bool),zi9 L t=some ((p:Int),th)∧BS L.length (fun k=>cmpI (L.getD k default).Entry.Candidate t) p th:=by
 have hc:∀x:zf9,zb1 x t=some (cmpI x.Entry.Candidate t):=fun x=>by unfold zb1; rw [cmp_eq]; rfl
 unfold zi9
 obtain⟨p,hp,e,hq⟩:=bsf_loop L.length hL (fun k=>decide (cmpI (L.getD k default).Entry.Candidate t<0)) (zp9 L t) (fun i j hij hj=>by
  unfold zp9
  dsimp only
  rw [show decide ((i:Int)<(j:Int))=true by simpa using hij,cond_true,half i j (by omega),bindV_def,req_pos (by omega),hc,Option.bind_some]
  show (bif decide (cmpI (L.getD ((i+j) / 2) default).Entry.Candidate t<0) then _ else _)=_
  rw [i64_add1 ((i+j) / 2) (by omega)]
  cases decide (cmpI (L.getD ((i+j) / 2) default).Entry.Candidate t<0) <;> rfl) (fun i hi=>by
  unfold zp9
  dsimp only
  rw [show decide ((i:Int)<(i:Int))=false by simp,cond_false])
 refine⟨p,_,?_,bs_of hp hq⟩
 rw [e,Option.bind_some]
 unfold zs9
 refine reqE ⟨fun h=>?_,fun _=>by rw [hc]; rfl⟩ ?_
 ·have:(p:Int)<L.length:=by simpa using h
  omega
 rw [hc]
 simp only [Option.getD_some,Int.ofNat_lt]
 rfl
theorem bsB_ok (L:List api_Bag) (t:Int) (hL:L.length≤1000):∃ (p:Nat) (th:Bool),zt9 L t=some ((p:Int),th)∧BS L.length (fun k=>cmpI (L.getD k default).Bag t) p th:=by
 have hc:∀x:api_Bag,zz1 x t=some (cmpI x.Bag t):=fun x=>by unfold zz1; rw [cmp_eq]; rfl
 unfold zt9
 obtain⟨p,hp,e,hq⟩:=bsf_loop L.length hL (fun k=>decide (cmpI (L.getD k default).Bag t<0)) (zr9 L t) (fun i j hij hj=>by
  unfold zr9
  dsimp only
  rw [show decide ((i:Int)<(j:Int))=true by simpa using hij,cond_true,half i j (by omega),bindV_def,req_pos (by omega),hc,Option.bind_some]
  show (bif decide (cmpI (L.getD ((i+j) / 2) default).Bag t<0) then _ else _)=_
  rw [i64_add1 ((i+j) / 2) (by omega)]
  cases decide (cmpI (L.getD ((i+j) / 2) default).Bag t<0) <;> rfl) (fun i hi=>by
  unfold zr9
  dsimp only
  rw [show decide ((i:Int)<(i:Int))=false by simp,cond_false])
 refine⟨p,_,?_,bs_of hp hq⟩
 rw [e,Option.bind_some]
 unfold zw9
 refine reqE ⟨fun h=>?_,fun _=>by rw [hc]; rfl⟩ ?_
 ·have:(p:Int)<L.length:=by simpa using h
  omega
 rw [hc]
 simp only [Option.getD_some,Int.ofNat_lt]
 rfl
def okEnt (e:zX9):Prop:=(0≤e.Candidate∧e.Candidate≤9999)∧(1≤e.Centre∧e.Centre≤99)∧0≤e.Paper∧e.Paper≤31
theorem validEntry_eq (e:zX9):∃b,entry_validEntry e=some b∧(b=true→okEnt e):=by
 unfold entry_validEntry zZ9
 refine reqX (fun _=>rfl) ?_
 refine⟨_,rfl,fun h=>?_⟩
 simp only [Option.getD_some,Bool.and_eq_true,decide_eq_true_eq] at h
 unfold okEnt
 omega
theorem validEvent_eq (e:zg9):∃b,entry_validEvent e=some b∧(b=true→okEnt e.Entry∧(e.Kind=1∨e.Kind=2∨(1≤e.To∧e.To≤99))):=by
 obtain⟨b,e1,h1⟩:=validEntry_eq e.Entry
 have j1:∀v:Bool,(v=true→e.Kind=1∨e.Kind=2)→∃b,zQ1 e v=some b∧(b=true→okEnt e.Entry∧(e.Kind=1∨e.Kind=2∨(1≤e.To∧e.To≤99))):=by
  intro v hv
  unfold zQ1
  rw [e1]
  cases v with
  | true=>
   refine⟨b,rfl,fun hb=>⟨h1 hb,?_⟩⟩
   rcases hv rfl with h | h
   ·exact .inl h
   ·exact .inr (.inl h)
  | false=>
   rw [cond_false]
   cases hk:(e.Kind==(3:Int)) with
   | false=>exact⟨false,rfl,fun h=>by cases h⟩
   | true=>
    rw [cond_true,Option.bind_some]
    unfold zZ9
    refine reqX (fun _=>rfl) ?_
    refine⟨_,rfl,fun h=>?_⟩
    simp only [Option.getD_some,Bool.and_eq_true,decide_eq_true_eq] at h
    exact⟨h1 h.1.1,.inr (.inr h.1.2)⟩
 unfold entry_validEvent
 cases hk:(e.Kind==(1:Int)) with
 | true=>rw [cond_true]; exact j1 _ (fun _=>.inl (by simpa using hk))
 | false=>rw [cond_false]; exact j1 _ (fun h=>.inr (by simpa using h))
def keyA (x:zf9):Int×Int:=(x.Entry.Candidate,x.Entry.Paper)
def ltK (a b:Int×Int):Prop:=a.1<b.1∨(a.1=b.1∧a.2<b.2)
structure InvE (l:List zf9):Prop where
 ord:(l.map keyA).Pairwise ltK
 ok:∀x∈l,okEnt x.Entry
theorem of_to (l:List zf9):(l.map toEnr).map ofEnr=l:=by
 rw [List.map_map]
 have:ofEnr ∘ toEnr=id:=rfl
 rw [this,List.map_id]
theorem pw_at {α:Type}{R:α→α→Prop}{l:List α}(h:l.Pairwise R){a b:Nat}(hab:a<b) (hb:b<l.length):R l[a] l[b]:=List.pairwise_iff_getElem.1 h a b (by omega) hb hab
theorem step_ok (l:List zf9) (d:zY9) (e:zg9) (hl:l.length≤200) (h:InvE l):∃r c,entry_step l d e=some (r,c)∧(c=0→InvE r∧r.length≤l.length+1):=by
 unfold entry_step
 obtain⟨vE,e1,hv⟩:=validEvent_eq e
 obtain⟨p,th,e2,hb⟩:=bsE_ok l e.Entry (by omega)
 rw [e1,Option.bind_some,e2,Option.bind_some]
 dsimp only
 rw [req_pos ⟨by omega,by omega,by have:=hb.le; omega,fun ht=>by have:=(hb.hit ht).1; omega⟩,Int.toNat_natCast]
 refine⟨_,_,rfl,?_⟩
 have hst:stepE vE p th (l.map toEnr) d.Close d.Late (fun i=>(evE e).getD i 0)=(if vE=false then ([],2) else if e.Stamp.Source≠0∧e.Stamp.Source≠e.Entry.Centre then ([],28) else if d.Late<e.Stamp.Time then ([],27)
   else if e.Kind=1 then
    if th=true then (if ((l.map toEnr).getD p (0,0,0,false)).2.1=e.Entry.Centre then ([],5) else ([],9))
    else ((l.map toEnr).take p++[(e.Entry.Candidate,e.Entry.Centre,e.Entry.Paper,decide (d.Close<e.Stamp.Time))]++(l.map toEnr).drop p,0)
   else if th=false∨((l.map toEnr).getD p (0,0,0,false)).2.1≠e.Entry.Centre then ([],4)
   else if e.Kind=2 then ((l.map toEnr).take p++(l.map toEnr).drop (p+1),0)
   else ((l.map toEnr).set p (((l.map toEnr).getD p (0,0,0,false)).1,e.To,((l.map toEnr).getD p (0,0,0,false)).2.2),0)):=rfl
 rw [hst]
 clear hst
 have hmono:∀a b,a≤b→b<l.length→cmpE (l.getD b default) e.Entry<0→cmpE (l.getD a default) e.Entry<0:=fun a b hab hbl hc=>by
  rcases Nat.lt_or_eq_of_le hab with hlt | rfl
  ·have:=pw_at h.ord hlt (by simpa using hbl)
   rw [List.getElem_map,List.getElem_map] at this
   rw [getD_at l default b hbl,cmpE_lt] at hc
   rw [getD_at l default a (by omega),cmpE_lt]
   unfold ltK keyA at this
   dsimp only at this
   omega
  ·exact hc
 obtain⟨hlo,hhi⟩:=hb.ord hmono
 by_cases c1:vE=false
 ·rw [if_pos c1]; intro hc; exact absurd hc (by decide)
 rw [if_neg c1]
 obtain⟨hent,hkind⟩:=hv (by simpa using c1)
 by_cases c2:e.Stamp.Source≠0∧e.Stamp.Source≠e.Entry.Centre
 ·rw [if_pos c2]; intro hc; exact absurd hc (by decide)
 rw [if_neg c2]
 by_cases c3:d.Late<e.Stamp.Time
 ·rw [if_pos c3]; intro hc; exact absurd hc (by decide)
 rw [if_neg c3]
 by_cases c4:e.Kind=1
 ·rw [if_pos c4]
  by_cases c5:th=true
  ·rw [if_pos c5]
   split
   ·intro hc; exact absurd hc (by decide)
   ·intro hc; exact absurd hc (by decide)
  ·rw [if_neg c5]
   intro _
   have hth:th=false:=by simpa using c5
   dsimp only
   have hr:List.map ofEnr (List.take p (List.map toEnr l)++[(e.Entry.Candidate,e.Entry.Centre,e.Entry.Paper,decide (d.Close<e.Stamp.Time))]++List.drop p (List.map toEnr l))=l.take p++[⟨e.Entry,decide (d.Close<e.Stamp.Time)⟩]++l.drop p:=by
    rw [List.map_append,List.map_append,List.map_take,List.map_drop,of_to]; rfl
   rw [hr]
   refine⟨⟨?_,fun x hx=>?_⟩,by simp; have:=hb.le; omega⟩
   ·rw [List.map_append,List.map_append,List.map_take,List.map_drop,List.append_assoc,List.pairwise_append]
    have hpl:=h.ord
    rw [← List.take_append_drop p (l.map keyA),List.pairwise_append] at hpl
    have hdrop:∀y∈(l.map keyA).drop p,ltK (e.Entry.Candidate,e.Entry.Paper) y:=fun y hy=>by
     obtain⟨k,hk,rfl⟩:=List.getElem_of_mem hy
     rw [List.length_drop,List.length_map] at hk
     rw [List.getElem_drop,List.getElem_map]
     have h0:=hhi (p+k) (by omega) (by omega)
     have hne:cmpE (l.getD (p+k) default) e.Entry≠0:=by
      by_cases hk0:k=0
      ·subst hk0; exact hb.miss hth (by omega)
      ·have hp0:=hhi p (Nat.le_refl _) (by omega)
       have hpn:=hb.miss hth (by omega)
       have hlt:=pw_at h.ord (show p<p+k by omega) (by simp; omega)
       rw [List.getElem_map,List.getElem_map] at hlt
       intro hz
       rw [getD_at l default (p+k) (by omega),cmpE_zero] at hz
       have hp1:¬ cmpE (l.getD p default) e.Entry<0:=by omega
       rw [getD_at l default p (by omega),cmpE_lt] at hp1
       rw [Ne,getD_at l default p (by omega),cmpE_zero] at hpn
       unfold ltK keyA at hlt
       dsimp only at hlt
       omega
     have h1:¬ cmpE (l.getD (p+k) default) e.Entry<0:=by omega
     rw [getD_at l default (p+k) (by omega),cmpE_lt] at h1
     rw [Ne,getD_at l default (p+k) (by omega),cmpE_zero] at hne
     unfold ltK keyA
     dsimp only
     omega
    refine⟨hpl.1,?_,fun x hx y hy=>?_⟩
    ·exact List.Pairwise.cons hdrop hpl.2.1
    ·rcases List.mem_append.1 hy with hy | hy
     ·rw [List.mem_singleton.1 hy]
      obtain⟨k,hk,rfl⟩:=List.getElem_of_mem hx
      rw [List.length_take,List.length_map] at hk
      rw [List.getElem_take,List.getElem_map]
      have h0:=hlo k (by omega)
      rw [getD_at l default k (by omega),cmpE_lt] at h0
      unfold ltK keyA
      dsimp only
      omega
     ·exact hpl.2.2 x hx y hy
   ·rcases List.mem_append.1 hx with hx | hx
    ·rcases List.mem_append.1 hx with hx | hx
     ·exact h.ok x (List.mem_of_mem_take hx)
     ·rw [List.mem_singleton.1 hx]; exact hent
    ·exact h.ok x (List.mem_of_mem_drop hx)
 ·rw [if_neg c4]
  by_cases c5:th=false∨((List.map toEnr l).getD p (0,0,0,false)).2.1≠e.Entry.Centre
  ·rw [if_pos c5]; intro hc; exact absurd hc (by decide)
  ·rw [if_neg c5]
   have hth:th=true:=by
    cases th with
    | true=>rfl
    | false=>exact absurd (.inl rfl) c5
   have hp:=(hb.hit hth).1
   by_cases c6:e.Kind=2
   ·rw [if_pos c6]
    intro _
    dsimp only
    have hr:List.map ofEnr (List.take p (List.map toEnr l)++List.drop (p+1) (List.map toEnr l))=l.take p++l.drop (p+1):=by
     rw [List.map_append,List.map_take,List.map_drop,of_to]
    rw [hr]
    have hsub:List.Sublist (l.take p++l.drop (p+1)) l:=by
     conv=>rhs; rw [← List.take_append_drop p l]
     refine List.Sublist.append (List.Sublist.refl _) ?_
     rw [← List.drop_drop]
     exact List.drop_sublist _ _
    exact⟨⟨h.ord.sublist (hsub.map keyA),fun x hx=>h.ok x (hsub.subset hx)⟩,by have:=hsub.length_le; omega⟩
   ·rw [if_neg c6]
    intro _
    dsimp only
    have hg:(List.map toEnr l).getD p (0,0,0,false)=toEnr l[p]:=by rw [getD_at _ _ p (by simpa using hp),List.getElem_map]
    rw [hg,List.map_set,of_to]
    refine⟨⟨?_,fun x hx=>?_⟩,by rw [List.length_set]; omega⟩
    ·have:List.map keyA (l.set p (ofEnr ((toEnr l[p]).1,e.To,(toEnr l[p]).2.2)))=l.map keyA:=by
      rw [List.map_set]
      refine List.ext_getElem (by simp) fun i h1 h2=>?_
      rw [List.getElem_set]
      split
      ·rename_i hi; subst hi; rw [List.getElem_map]; rfl
      ·rfl
     rw [this]; exact h.ord
    ·rcases List.mem_or_eq_of_mem_set hx with hx | hx
     ·exact h.ok x hx
     ·subst hx
      have h1:=h.ok l[p] (List.getElem_mem hp)
      have h2:1≤e.To∧e.To≤99:=by omega
      exact⟨h1.1,h2,h1.2.2⟩
theorem entryFold_ok (l:List zg9) (d:zY9) (hl:l.length≤40) (hs:∀x∈l,okS x.Stamp) (hn:(canonEv evE l).length≤40) (hd:0≤d.Close∧d.Close≤d.Late∧d.Late≤1000) :
  ∃r f,entry_Fold l d 1000000=some (r,f,0)∧InvE r∧r.length≤40:=by
 unfold entry_Fold
 have hv:entry_validDeadlines d=some true:=by
  unfold entry_validDeadlines
  rw [show decide ((0:Int)≤d.Close)=true by simp; omega,show decide (d.Close≤d.Late)=true by simp; omega,show decide (d.Late≤(1000000:Int))=true by simp; omega]; rfl
 rw [hv,Option.bind_some,show (!true)=false from rfl,cond_false,canonE_eq l (by omega) hs,Option.bind_some]
 dsimp only
 rw [show ((0:Int) != 0)=false from rfl,cond_false]
 generalize hY:canonEv evE l=Y at *
 obtain⟨⟨r,f⟩,e1,h2,h3⟩:=iter_inv (f:=entry_Fold_l3 d 1000000 Y) (fun s:(List zf9)×Int×(List zu9)=>0≤s.2.1∧s.2.1≤Y.length∧(s.1.length:Int)≤s.2.1∧(s.2.2.length:Int)≤s.2.1∧InvE s.1) (fun s=>Y.length - s.2.1.toNat)
  (fun r:(List zf9)×(List zu9)=>InvE r.1∧r.1.length≤40) (fun s hI=>by
   obtain⟨en,v,rf⟩:=s
   obtain⟨g1,g2,g3,g4,g5⟩:=hI
   dsimp only at g1 g2 g3 g4 g5
   unfold entry_Fold_l3
   dsimp only
   by_cases hv:v<Y.length
   ·rw [show decide (v<(Y.length:Int))=true by simpa using hv,cond_true,req_pos ⟨g1,hv⟩]
    rcases bcases (decide ((1000000:Int)<((ix Y v).Stamp).Time)) with hc | hc <;> rw [hc]
    ·right
     rw [cond_true]
     exact⟨_,rfl,g5,by show en.length≤40; omega⟩
    ·left
     rw [cond_false]
     obtain⟨r,c,e2,hr⟩:=step_ok en d (zg9.mk ((ix Y v).Stamp) ((ix Y v).Kind) ((ix Y v).Entry) ((ix Y v).To)) (by omega) g5
     rw [e2,Option.bind_some]
     dsimp only
     unfold entry_Fold_j2
     rw [i64_id (n:=v+1) (by omega) (by omega)]
     rcases bcases (c != (0:Int)) with hc2 | hc2 <;> rw [hc2]
     ·rw [cond_true,req_pos (by simp; omega),bindV_def]
      exact⟨_,rfl,⟨by show 0≤v+1; omega,by show v+1≤Y.length; omega,by show (en.length:Int)≤v+1; omega,by simp; omega,g5⟩,by show Y.length - (v+1).toNat<Y.length - v.toNat; omega⟩
     ·rw [cond_false]
      obtain⟨h1,h2⟩:=hr (by simpa using hc2)
      exact⟨_,rfl,⟨by show 0≤v+1; omega,by show v+1≤Y.length; omega,by show (r.length:Int)≤v+1; omega,by show (rf.length:Int)≤v+1; omega,h1⟩,by show Y.length - (v+1).toNat<Y.length - v.toNat; omega⟩
   ·right
    rw [show decide (v<(Y.length:Int))=false by simpa using hv,cond_false]
    exact⟨_,rfl,g5,by show en.length≤40; omega⟩) (([]:List zf9),(0:Int),([]:List zu9)) ⟨Int.le_refl _,by show (0:Int)≤Y.length; omega,by simp,by simp,⟨.nil,fun x hx=>by cases hx⟩⟩
 rw [e1,Option.bind_some]
 exact⟨r,f,rfl,h2,h3⟩
end Go.LS
namespace Go.LS
open Go.Proofs
set_option linter.all false
set_option linter.unusedSimpArgs false
set_option linter.unusedVariables false
theorem fold_filter {α β:Type}(p:α→Bool) (q:α→β):∀ (l:List α) (b:List β),l.foldl (fun b a=>if p a=true then b++[q a] else b) b=b++(l.filter p).map q
 | [],b=>by simp
 | a :: l,b=>by
  rw [List.foldl_cons,fold_filter p q l,List.filter_cons]
  cases p a <;> simp
theorem fold_push {α β:Type}(q:α→β):∀ (l:List α) (b:List β),l.foldl (fun b a=>b++[q a]) b=b++l.map q
 | [],b=>by simp
 | a :: l,b=>by rw [List.foldl_cons,fold_push q l]; simp
theorem paper_eq (l:List zf9) (hl:l.length≤1000):entry_Paper l 1=some (l.filter fun x=>x.Entry.Paper==1):=by
 unfold entry_Paper
 rw [iter_fold l (entry_Paper_l3 l 1) (fun b a=>if (a.Entry.Paper==1)=true then b++[a] else b) id (fun k b=>b.length≤k) (fun k b hk hI=>?_) (fun b hI=>?_) [] (by simp),Option.bind_some]
 ·unfold entry_Paper_j1
  have:=fold_filter (fun a:zf9=>a.Entry.Paper==1) id l []
  simp only [id,List.nil_append,List.map_id_fun'] at this ⊢
  rw [this]; simp
 ·unfold entry_Paper_l3
  dsimp only
  rw [show decide ((k:Int)<(l.length:Int))=true by simpa using hk,cond_true,req_pos (by omega),ix_nat l k hk]
  unfold entry_Paper_j2
  rw [i64_add1 k (by omega)]
  cases hp:(l[k].Entry.Paper==(1:Int)) with
  | true=>
   rw [cond_true,req_pos (by simp; omega)]
   exact⟨rfl,by simp; omega⟩
  | false=>rw [cond_false]; exact⟨rfl,by simp; omega⟩
 ·unfold entry_Paper_l3
  dsimp only
  rw [show decide ((l.length:Int)<(l.length:Int))=false by simp,cond_false]; rfl
structure InvP (l:List zf9):Prop where
 len:l.length≤40
 ord:(l.map fun x=>x.Entry.Candidate).Pairwise (· < ·)
 ok:∀x∈l,okEnt x.Entry
theorem paper_inv (l:List zf9) (h:InvE l) (hl:l.length≤40):InvP (l.filter fun x=>x.Entry.Paper==1):=by
 refine⟨Nat.le_trans (List.length_filter_le _ _) hl,?_,fun x hx=>h.ok x (List.mem_filter.1 hx).1⟩
 have h1:=h.ord
 rw [List.pairwise_map] at h1 ⊢
 refine (h1.sublist (List.filter_sublist (p:=fun x:zf9=>x.Entry.Paper==1))).imp_of_mem fun {a b} ha hb hab=>?_
 have e1:a.Entry.Paper=1:=by simpa using (List.mem_filter.1 ha).2
 have e2:b.Entry.Paper=1:=by simpa using (List.mem_filter.1 hb).2
 unfold ltK keyA at hab
 dsimp only at hab
 omega
theorem check_ok (l:List zf9) (h:InvP l):attendance_Check l=some 0:=by
 have hl:=h.len
 unfold attendance_Check
 rw [show decide ((60:Int)<(l.length:Int))=false by simp; omega,cond_false]
 obtain⟨r,e1,hr⟩:=iter_inv (f:=attendance_Check_l4 l) (fun v:Int=>0≤v∧v≤l.length) (fun v=>l.length - v.toNat) (fun r:Unit⊕Int=>r = .inl ()) (fun v hI=>by
  obtain⟨g1,g2⟩:=hI
  unfold attendance_Check_l4
  by_cases hv:v<l.length
  ·left
   have hm:=h.ok _ (ix_mem l v g1 hv)
   obtain⟨m1,m2,m3⟩:=hm
   rw [show decide (v<(l.length:Int))=true by simpa using hv,cond_true,req_pos ⟨g1,hv⟩,i64_id (by omega) (by omega)]
   rw [show decide (((ix l v).Entry).Candidate<(0:Int))=false by simp; omega,show decide ((9999:Int)<((ix l v).Entry).Candidate)=false by simp; omega,show decide (((ix l v).Entry).Centre<(1:Int))=false by simp; omega,show decide ((99:Int)<((ix l v).Entry).Centre)=false by simp; omega]
   exact⟨_,rfl,⟨by omega,by omega⟩,by omega⟩
  ·right
   rw [show decide (v<(l.length:Int))=false by simpa using hv,cond_false]
   exact⟨_,rfl,rfl⟩) 0 ⟨by omega,by omega⟩
 subst hr
 rw [e1,Option.bind_some]
 show attendance_Check_j3 l=some 0
 unfold attendance_Check_j3
 obtain⟨r,e2,hr⟩:=iter_inv (f:=attendance_Check_l2 l) (fun v:Int=>1≤v∧v≤l.length+1) (fun v=>l.length+1 - v.toNat) (fun r:Unit⊕Int=>r = .inl ()) (fun v hI=>by
  obtain⟨g1,g2⟩:=hI
  unfold attendance_Check_l2
  by_cases hv:v<l.length
  ·left
   rw [show decide (v<(l.length:Int))=true by simpa using hv,cond_true,i64_id (n:=v - 1) (by omega) (by omega),i64_id (n:=v+1) (by omega) (by omega),req_pos (by omega)]
   have hlt:=pw_at h.ord (show (v - 1).toNat<v.toNat by omega) (by simp; omega)
   rw [List.getElem_map,List.getElem_map] at hlt
   have a1:=ix_nat l (v - 1).toNat (by omega)
   have a2:=ix_nat l v.toNat (by omega)
   rw [Int.toNat_of_nonneg (by omega)] at a1 a2
   rw [a1,a2,show decide (l[v.toNat].Entry.Candidate≤l[(v - 1).toNat].Entry.Candidate)=false from decide_eq_false (by omega),cond_false]
   exact⟨_,rfl,⟨by omega,by omega⟩,by omega⟩
  ·right
   rw [show decide (v<(l.length:Int))=false by simpa using hv,cond_false]
   exact⟨_,rfl,rfl⟩) 1 ⟨by omega,by omega⟩
 subst hr
 rw [e2,Option.bind_some]
 rfl
def okAt (a:At):Prop:=(0≤a.2.1∧a.2.1≤2)∧a.2.2.2.2.length≤8
theorem handle_ok (k m:Int) (a:At) (h:okAt a):(handleP k m a).2.1=a.1∧okAt (handleP k m a).2:=by
 obtain⟨a1,a2,a3,a4,a5⟩:=a
 obtain⟨⟨h1,h2⟩,h3⟩:=h
 dsimp only at h1 h2 h3
 unfold handleP okAt
 dsimp only
 split
 ·exact⟨rfl,by dsimp only; omega,h3⟩
 ·split
  ·exact⟨rfl,by dsimp only; omega,h3⟩
  ·split
   ·exact⟨rfl,by dsimp only; omega,h3⟩
   ·split
    ·split
     ·exact⟨rfl,⟨h1,h2⟩,h3⟩
     ·exact⟨rfl,⟨h1,h2⟩,h3⟩
    ·split
     ·exact⟨rfl,⟨h1,h2⟩,h3⟩
     ·exact⟨rfl,⟨h1,h2⟩,by simp; omega⟩
theorem stepR_ok (cen:Nat→Int) (p:Nat) (th:Bool) (x:RegR) (L:List At) (h:∀a∈L,okAt a):(stepR cen p th x L).2.map (·.1)=L.map (·.1)∧∀a∈(stepR cen p th x L).2,okAt a:=by
 unfold stepR
 split
 ·exact⟨rfl,h⟩
 ·split
  ·exact⟨rfl,h⟩
  ·split
   ·exact⟨rfl,h⟩
   ·dsimp only
    by_cases hp:p<L.length
    ·rw [getD_at L _ p hp]
     obtain⟨h1,h2⟩:=handle_ok x.kind x.mins L[p] (h _ (List.getElem_mem hp))
     constructor
     ·rw [List.map_set,h1]
      refine List.ext_getElem (by simp) fun i h3 h4=>?_
      rw [List.getElem_set]
      split
      ·rename_i hi; subst hi; rw [List.getElem_map]
      ·rfl
     ·intro a ha
      rcases List.mem_or_eq_of_mem_set ha with ha | ha
      ·exact h a ha
      ·rw [ha]; exact h2
    ·rw [List.set_eq_of_length_le (by omega)]; exact⟨rfl,h⟩
theorem runR_ok (cen:Nat→Int) (plc:Int→Nat×Bool) (till:Int):∀ (X:List RegR) (s:List At×List (Int×Int×Int)),(∀a∈s.1,okAt a)→(runR cen plc till X s).1.map (·.1)=s.1.map (·.1)∧∀a∈(runR cen plc till X s).1,okAt a
 | [],s,h=>⟨rfl,h⟩
 | x :: X,s,h=>by
  unfold runR
  split
  ·exact⟨rfl,h⟩
  ·obtain⟨h1,h2⟩:=stepR_ok cen (plc x.cand).1 (plc x.cand).2 x s.1 h
   obtain⟨h3,h4⟩:=runR_ok cen plc till X ((stepR cen (plc x.cand).1 (plc x.cand).2 x s.1).2,if (stepR cen (plc x.cand).1 (plc x.cand).2 x s.1).1=0 then s.2 else s.2++[(x.src,x.seq,(stepR cen (plc x.cand).1 (plc x.cand).2 x s.1).1)]) h2
   exact⟨h3.trans h1,h4⟩
structure InvA (E:List zf9) (A:List zD9):Prop where
 cand:A.map (fun a=>a.Candidate)=E.map fun x=>x.Entry.Candidate
 ok:∀a∈A,(0≤a.State∧a.State≤2)∧a.Incidents.length≤8
theorem attFold_ok (E:List zf9) (h:InvP E) (l:List ze9) (hl:l.length≤40) (hs:∀x∈l,okS x.Stamp) (till:Int):∃A f,zq1 E l till=some (A,f,0)∧InvA E A:=by
 unfold zq1
 have hlen:=canonEv_len evR l
 have hE:=h.len
 rw [check_ok E h,Option.bind_some,canonR_eq l (by omega) hs,Option.bind_some]
 dsimp only
 rw [req_pos ⟨rfl,rfl,by omega,by omega,fun c=>by
  obtain⟨p,th,e,hb⟩:=bsA_ok E c (by omega)
  exact⟨_,e,by dsimp only; omega,fun ht=>by have:=(hb.hit ht).1; dsimp only; omega⟩⟩]
 refine⟨_,_,rfl,?_⟩
 unfold foldRL
 obtain⟨h1,h2⟩:=runR_ok (fun i=>((E.map toEnr).getD i nilEnr).2.1) (plcA E) till ((canonEv evR l).map fun y=>regOf (evR y)) ((E.map toEnr).map fun x=>(x.1,0,-1,-1,[]),[]) (fun a ha=>by
  obtain⟨x,_,rfl⟩:=List.mem_map.1 ha
  exact⟨⟨by show (0:Int)≤0; decide,by show (0:Int)≤2; decide⟩,by simp⟩)
 refine⟨?_,fun a ha=>?_⟩
 ·rw [List.map_map]
  refine Eq.trans h1 ?_
  rw [List.map_map,List.map_map]; rfl
 ·obtain⟨y,hy,rfl⟩:=List.mem_map.1 ha
  exact h2 y hy
theorem entryFold_set (l m:List zg9) (d:zY9) (till:Int) (hl:l.length≤40) (hm:m.length≤40) (h1:∀x∈l,okS x.Stamp) (h:∀x,x∈l↔x∈m):entry_Fold m d till=entry_Fold l d till:=by
 unfold entry_Fold
 rw [canonE_eq l (by omega) h1,canonE_eq m (by omega) (fun x hx=>h1 x ((h x).2 hx)),canon_eq evE h]
theorem attFold_set (E:List zf9) (l m:List ze9) (till:Int) (hl:l.length≤40) (hm:m.length≤40) (h1:∀x∈l,okS x.Stamp) (h:∀x,x∈l↔x∈m):zq1 E m till=zq1 E l till:=by
 unfold zq1
 rw [canonR_eq l (by omega) h1,canonR_eq m (by omega) (fun x hx=>h1 x ((h x).2 hx)),canon_eq evR h]
theorem cusFold_set (l m:List zh9) (till:Int) (hl:l.length≤40) (hm:m.length≤40) (h1:∀x∈l,okB x) (h:∀x,x∈l↔x∈m):zT1 m till=zT1 l till:=by
 unfold zT1
 rw [canonB_eq l (by omega) h1,canonB_eq m (by omega) (fun x hx=>h1 x ((h x).2 hx)),canon_eq evB h]
end Go.LS
namespace Go.LS
open Go.Proofs
set_option linter.all false
set_option linter.unusedSimpArgs false
set_option linter.unusedVariables false
def okC (l:List Int):Prop:=l.length≤60∧∀c∈l,0≤c∧c≤9999
theorem sorted_eq (l:List Int):∃b,custody_sorted l=some b∧(b=true→okC l):=by
 unfold custody_sorted
 by_cases hl:60<(l.length:Int)
 ·rw [show decide ((60:Int)<(l.length:Int))=true by simpa using hl,cond_true]
  exact⟨false,rfl,fun h=>by cases h⟩
 rw [show decide ((60:Int)<(l.length:Int))=false by simpa using hl,cond_false]
 obtain⟨r,e1,hr⟩:=iter_inv (f:=zS1 l) (fun v:Int=>(0≤v∧v≤l.length)∧∀k:Nat,(k:Int)<v→∀hk:k<l.length,0≤l[k]∧l[k]≤9999) (fun v=>l.length - v.toNat)
  (fun r:Unit⊕Bool=>r = .inr false∨(r = .inl ()∧okC l)) (fun v hI=>by
  obtain⟨⟨g1,g2⟩,g3⟩:=hI
  unfold zS1
  by_cases hv:v<l.length
  ·rw [show decide (v<(l.length:Int))=true by simpa using hv,cond_true,req_pos ⟨g1,hv⟩,req_pos (fun hx=>by
    simp only [Bool.and_eq_true,decide_eq_true_eq] at hx
    have:=hx.2
    rw [i64_id (by omega) (by omega)]; omega)]
   cases hc:(((decide ((ix l v)<(0:Int)))||(decide ((9999:Int)<(ix l v))))||((decide ((0:Int)<v))&&(decide ((ix l v)≤(ix l (IntKind.i64.wrap (v - (1:Int)))))))) with
   | true=>right; exact⟨_,rfl,.inl rfl⟩
   | false=>
    left
    rw [cond_false,i64_id (n:=v+1) (by omega) (by omega)]
    rw [Bool.or_eq_false_iff,Bool.or_eq_false_iff] at hc
    have c1:¬ ix l v<0:=by simpa using hc.1.1
    have c2:¬ 9999<ix l v:=by simpa using hc.1.2
    refine⟨_,rfl,⟨⟨by omega,by omega⟩,fun k hk hkl=>?_⟩,by omega⟩
    by_cases hkv:(k:Int)<v
    ·exact g3 k hkv hkl
    ·have:(k:Int)=v:=by omega
     rw [← this,ix_nat l k hkl] at c1 c2
     omega
  ·right
   rw [show decide (v<(l.length:Int))=false by simpa using hv,cond_false]
   refine⟨_,rfl,.inr ⟨rfl,by omega,fun c hc=>?_⟩⟩
   obtain⟨k,hk,rfl⟩:=List.getElem_of_mem hc
   exact g3 k (by omega) hk) 0 ⟨⟨by omega,by omega⟩,fun k hk=>by omega⟩
 rw [e1,Option.bind_some]
 rcases hr with rfl | ⟨rfl,h⟩
 ·exact⟨false,rfl,fun h=>by cases h⟩
 ·exact⟨true,rfl,fun _=>h⟩
theorem range_eq (e:zh9):∃b,zN1 e=some b∧(b=false→(e.Kind=1∨e.Kind=3)→okC e.Candidates):=by
 obtain⟨b,e1,hb⟩:=sorted_eq e.Candidates
 have j1:∀v:Bool,((e.Kind=1∨e.Kind=3)→v=true)→∃b,zw1 e v=some b∧(b=false→(e.Kind=1∨e.Kind=3)→okC e.Candidates):=fun v hv=>by
  unfold zw1
  cases v with
  | true=>
   rw [cond_true,e1,Option.bind_some]
   exact⟨!b,rfl,fun h _=>hb (by simpa using h)⟩
  | false=>exact⟨false,rfl,fun _ h=>by cases hv h⟩
 unfold zN1 zK1 zJ1 zo1
 rw [req_pos ⟨fun _=>rfl,fun _=>rfl,fun _=>rfl⟩]
 generalize (((((decide (e.Kind<(1:Int)))||(decide ((4:Int)<e.Kind)))||(!((some ((decide ((0:Int)≤e.Bag))&&(decide (e.Bag≤(9999:Int))))).getD default)))||(!((some ((decide ((0:Int)≤e.Seal))&&(decide (e.Seal≤(1000000:Int))))).getD default)))||(!((some ((decide ((0:Int)≤e.From))&&(decide (e.From≤(99:Int))))).getD default)))=q
 cases q with
 | true=>exact⟨true,rfl,fun h=>by cases h⟩
 | false=>
  rw [cond_false]
  cases h2:(e.Kind==(2:Int)) with
  | true=>
   refine⟨_,rfl,fun _ h=>?_⟩
   have:e.Kind=2:=by simpa using h2
   omega
  | false=>
   rw [cond_false]
   cases h1:(e.Kind==(1:Int)) with
   | true=>rw [cond_true]; exact j1 _ fun _=>rfl
   | false=>
    rw [cond_false]
    refine j1 _ fun h=>?_
    have:¬ e.Kind=1:=by simpa using h1
    have:e.Kind=3:=by omega
    simpa using this
structure okBag (n:Nat) (b:api_Bag):Prop where
 pos:0<b.Seals.length
 seals:b.Seals.length≤n
 packed:okC b.Packed
 found:okC b.Found
theorem okBag.mono {n m:Nat}{b:api_Bag}(h:okBag n b) (hm:n≤m):okBag m b:=⟨h.pos,Nat.le_trans h.seals hm,h.packed,h.found⟩
theorem ofBg_to (l:List api_Bag):(l.map toBg).map ofBg=l:=by
 rw [List.map_map]
 have:ofBg ∘ toBg=id:=rfl
 rw [this,List.map_id]
theorem code_rng (rng there:Bool) (place:Nat) (L:List Bg) (x:Evt) (h:codeL rng there place L x=0):rng=false:=by
 cases rng with
 | false=>rfl
 | true=>
  unfold codeL at h
  split at h
  ·rw [firstP_succ] at h
   exact absurd (show (2:Int)=0 from h) (by decide)
  ·rw [firstP_succ] at h
   exact absurd (show (2:Int)=0 from h) (by decide)
theorem stepC_ok (l:List api_Bag) (e:zh9) (n:Nat) (hl:l.length≤200) (hn:n≤200) (h:∀b∈l,okBag n b) (hc:e.Candidates.length≤100):∃r c,custody_step l e=some (r,c)∧(c=0→(∀b∈r,okBag (n+1) b)∧r.length≤l.length+1):=by
 unfold custody_step
 obtain⟨rng,e1,hr⟩:=range_eq e
 obtain⟨p,th,e2,hb⟩:=bsB_ok l e.Bag (by omega)
 rw [e1,Option.bind_some,e2,Option.bind_some]
 dsimp only
 rw [req_pos ⟨by omega,fun b hbm=>by
  have:=h b hbm
  exact⟨this.pos,by have:=this.seals; omega,by have:=this.packed.1; omega,by have:=this.found.1; omega⟩,by omega,by omega,by have:=hb.le; omega,fun ht=>by have:=(hb.hit ht).1; omega⟩,Int.toNat_natCast]
 refine⟨_,_,rfl,?_⟩
 unfold stepL'
 by_cases hcd:codeL rng th p (l.map toBg) (toEvt e)=0
 ·rw [if_pos hcd]
  intro _
  have hrng:=code_rng _ _ _ _ _ hcd
  dsimp only
  have h':∀b∈l,okBag (n+1) b:=fun b hb=>(h b hb).mono (by omega)
  have put:∀f:Bg→Bg,(∀b∈l,okBag (n+1) (ofBg (f (toBg b))))→(∀b∈(putB (l.map toBg) p f).map ofBg,okBag (n+1) b)∧((putB (l.map toBg) p f).map ofBg).length≤l.length+1:=fun f hf=>by
   unfold putB
   refine⟨fun b hbm=>?_,by simp⟩
   rw [List.map_set,ofBg_to] at hbm
   by_cases hp:p<l.length
   ·rcases List.mem_or_eq_of_mem_set hbm with hbm | rfl
    ·exact h' b hbm
    ·rw [getD_at _ _ p (by simpa using hp),List.getElem_map]
     exact hf _ (List.getElem_mem hp)
   ·rw [List.set_eq_of_length_le (by omega)] at hbm
    exact h' b hbm
  unfold nextL
  by_cases k1:(toEvt e).kind=1
  ·rw [if_pos k1]
   have hcand:=hr hrng (.inl k1)
   have hx:(List.map ofBg (List.take p (List.map toBg l)++[((toEvt e).bag,(toEvt e).frm,false,[(toEvt e).sealQ],(toEvt e).cands,[])]++List.drop p (List.map toBg l)))=l.take p++[⟨e.Bag,e.From,false,[e.Seal],e.Candidates,[]⟩]++l.drop p:=by
    rw [List.map_append,List.map_append,List.map_take,List.map_drop,ofBg_to]; rfl
   rw [hx]
   refine⟨fun b hbm=>?_,by simp; have:=hb.le; omega⟩
   rcases List.mem_append.1 hbm with hbm | hbm
   ·rcases List.mem_append.1 hbm with hbm | hbm
    ·exact h' b (List.mem_of_mem_take hbm)
    ·rw [List.mem_singleton.1 hbm]
     exact⟨by simp,by simp,hcand,by simp,fun c hc=>by cases hc⟩
   ·exact h' b (List.mem_of_mem_drop hbm)
  ·rw [if_neg k1]
   by_cases k2:(toEvt e).kind=2
   ·rw [if_pos k2]
    exact put _ fun b hbm=>by
     have:=h' b hbm
     exact⟨this.pos,this.seals,this.packed,this.found⟩
   ·rw [if_neg k2]
    by_cases k3:(toEvt e).kind=3
    ·rw [if_pos k3]
     have hcand:=hr hrng (.inr k3)
     exact put _ fun b hbm=>by
      have:=h' b hbm
      exact⟨this.pos,this.seals,this.packed,hcand⟩
    ·rw [if_neg k3]
     by_cases k4:(toEvt e).kind=4
     ·rw [if_pos k4]
      exact put _ fun b hbm=>by
       have:=h b hbm
       exact⟨by show 0<(b.Seals++[e.Seal]).length; simp,by show (b.Seals++[e.Seal]).length≤n+1; simp; exact this.seals,this.packed,this.found⟩
     ·rw [if_neg k4,ofBg_to]
      exact⟨h',by omega⟩
 ·rw [if_neg hcd]
  intro hc0
  exact absurd hc0 hcd
theorem cusFold_ok (l:List zh9) (hl:l.length≤40) (hs:∀x∈l,okB x) (till:Int):∃r f,zT1 l till=some (r,f,0)∧(∀b∈r,okBag 100 b)∧r.length≤40:=by
 unfold zT1
 have hlen:=canonEv_len evB l
 have hcd:∀x∈canonEv evB l,x.Candidates.length≤100:=fun x hx=>(hs x (canonEv_sub hx)).2
 rw [canonB_eq l (by omega) hs,Option.bind_some]
 dsimp only
 rw [show ((0:Int) != 0)=false from rfl,cond_false]
 generalize canonEv evB l=Y at *
 obtain⟨⟨r,f⟩,e1,h2,h3⟩:=iter_inv (f:=custody_Fold_l3 till Y) (fun s:(List api_Bag)×Int×(List zu9)=>0≤s.2.1∧s.2.1≤Y.length∧(s.1.length:Int)≤s.2.1∧(s.2.2.length:Int)≤s.2.1∧∀b∈s.1,okBag (s.2.1.toNat+1) b) (fun s=>Y.length - s.2.1.toNat)
  (fun r:(List api_Bag)×(List zu9)=>(∀b∈r.1,okBag 100 b)∧r.1.length≤40) (fun s hI=>by
   obtain⟨en,v,rf⟩:=s
   obtain⟨g1,g2,g3,g4,g5⟩:=hI
   dsimp only at g1 g2 g3 g4 g5
   unfold custody_Fold_l3
   dsimp only
   have g6:∀b∈en,okBag 100 b:=fun b hb=>(g5 b hb).mono (by omega)
   by_cases hv:v<Y.length
   ·rw [show decide (v<(Y.length:Int))=true by simpa using hv,cond_true,req_pos ⟨g1,hv⟩]
    rcases bcases (decide (till<((ix Y v).Stamp).Time)) with hc | hc <;> rw [hc]
    ·right
     rw [cond_true]
     exact⟨_,rfl,g6,by show en.length≤40; omega⟩
    ·left
     rw [cond_false]
     obtain⟨r,c,e2,hr⟩:=stepC_ok en (zh9.mk ((ix Y v).Stamp) ((ix Y v).Kind) ((ix Y v).Bag) ((ix Y v).Seal) ((ix Y v).From) ((ix Y v).To) ((ix Y v).Candidates)) (v.toNat+1) (by omega) (by omega) g5 (hcd _ (ix_mem Y v g1 hv))
     rw [e2,Option.bind_some]
     dsimp only
     unfold custody_Fold_j2
     rw [i64_id (n:=v+1) (by omega) (by omega)]
     have hv1:(v+1).toNat=v.toNat+1:=by omega
     rcases bcases (c != (0:Int)) with hc2 | hc2 <;> rw [hc2]
     ·rw [cond_true,req_pos (by simp; omega)]
      rw [bindV_def]
      exact⟨_,rfl,⟨by show 0≤v+1; omega,by show v+1≤Y.length; omega,by show (en.length:Int)≤v+1; omega,by simp; omega,fun b hb=>(g5 b hb).mono (by show v.toNat+1≤(v+1).toNat+1; omega)⟩,by show Y.length - (v+1).toNat<Y.length - v.toNat; omega⟩
     ·rw [cond_false]
      obtain⟨h1,h2⟩:=hr (by simpa using hc2)
      exact⟨_,rfl,⟨by show 0≤v+1; omega,by show v+1≤Y.length; omega,by show (r.length:Int)≤v+1; omega,by show (rf.length:Int)≤v+1; omega,fun b hb=>(h1 b hb).mono (by show v.toNat+1+1≤(v+1).toNat+1; omega)⟩,by show Y.length - (v+1).toNat<Y.length - v.toNat; omega⟩
   ·right
    rw [show decide (v<(Y.length:Int))=false by simpa using hv,cond_false]
    exact⟨_,rfl,g6,by show en.length≤40; omega⟩) (([]:List api_Bag),(0:Int),([]:List zu9)) ⟨Int.le_refl _,by show (0:Int)≤Y.length; omega,by simp,by simp,fun b hb=>by cases hb⟩
 rw [e1,Option.bind_some]
 exact⟨r,f,rfl,h2,h3⟩
theorem sameBag_self (b:api_Bag) (h:okBag 100 b):ref17_SameBag b b=some true:=by
 unfold ref17_SameBag
 rw [ints_eq _ _ (by have:=h.seals; omega),ints_eq _ _ (by have:=h.packed.1; omega),ints_eq _ _ (by have:=h.found.1; omega)]
 refine reqE ⟨fun _=>rfl,fun _=>rfl,fun _=>rfl⟩ ?_
 simp
theorem sameBags_self (l:List api_Bag) (hl:l.length≤1000) (h:∀b∈l,okBag 100 b):zO1 l l=some true:=by
 unfold zO1
 rw [show ((l.length:Int) != (l.length:Int))=false by simp,cond_false]
 rw [iter_scan l (ref17_SameBags_l2 l l) (fun _=>false) (fun _=>(.inr false:Unit⊕Bool)) (.inl ()) (fun k hk=>?_) ?_,Option.bind_some]
 ·rw [List.find?_eq_none.2 (fun x _=>by simp)]; rfl
 rotate_left
 ·unfold ref17_SameBags_l2
  rw [show decide ((k:Int)<(l.length:Int))=true by simpa using hk,cond_true,req_pos (by constructor <;> omega),ix_nat l k hk,sameBag_self _ (h _ (List.getElem_mem hk)),Option.bind_some,i64_add1 k (by omega)]
  rfl
 ·unfold ref17_SameBags_l2
  rw [show decide ((l.length:Int)<(l.length:Int))=false by simp,cond_false]
theorem sameAt_self (a:zD9) (h:a.Incidents.length≤8):ref16_Same a a=some true:=by
 unfold ref16_Same
 rw [ints_eq _ _ (by omega)]
 refine reqE (fun _=>rfl) ?_
 simp
end Go.LS
namespace Go.LS
open Go.Proofs
set_option linter.all false
set_option linter.unusedSimpArgs false
set_option linter.unusedVariables false
theorem has_eq (l:List Int) (n:Int) (hl:l.length≤1000):ref06_Has l n=some (decide (n∈l)):=by
 unfold ref06_Has
 rw [iter_scan l (ref06_Has_l2 l n) (fun x=>x==n) (fun _=>(.inr true:Unit⊕Bool)) (.inl ()) (fun k hk=>?_) ?_,Option.bind_some]
 ·cases h:l.find? (fun x=>x==n) with
  | none=>
   rw [List.find?_eq_none] at h
   have:¬ n∈l:=fun hm=>by have:=h n hm; simp at this
   simp only [this,decide_false]; rfl
  | some a=>
   have h1:=List.find?_some h
   have h2:=List.mem_of_find?_eq_some h
   have:a=n:=by simpa using h1
   subst this
   simp only [h2,decide_true]
 rotate_left
 ·unfold ref06_Has_l2
  rw [show decide ((k:Int)<(l.length:Int))=true by simpa using hk,cond_true,req_pos (by omega),ix_nat l k hk,i64_add1 k (by omega)]
  cases (l[k]==n) <;> rfl
 ·unfold ref06_Has_l2
  rw [show decide ((l.length:Int)<(l.length:Int))=false by simp,cond_false]
def presL (A:List zD9):List Int:=(A.filter fun a=>a.State==1).map fun a=>a.Candidate
theorem present_eq (A:List zD9) (hl:A.length≤1000):attendance_Present A=some (presL A):=by
 unfold attendance_Present
 rw [iter_fold A (zV1 A) (fun b a=>if (a.State==1)=true then b++[a.Candidate] else b) id (fun k b=>b.length≤k) (fun k b hk hI=>?_) (fun b hI=>?_) [] (by simp),Option.bind_some]
 ·unfold attendance_Present_j1
  rw [fold_filter (fun a:zD9=>a.State==1) (fun a=>a.Candidate) A []]; rfl
 ·unfold zV1
  dsimp only
  rw [show decide ((k:Int)<(A.length:Int))=true by simpa using hk,cond_true,req_pos (by omega),ix_nat A k hk]
  unfold zW1
  rw [i64_add1 k (by omega)]
  cases hp:(A[k].State==(1:Int)) with
  | true=>
   rw [cond_true,req_pos (by simp; omega)]
   exact⟨rfl,by simp; omega⟩
  | false=>rw [cond_false]; exact⟨rfl,by simp; omega⟩
 ·unfold zV1
  dsimp only
  rw [show decide ((A.length:Int)<(A.length:Int))=false by simp,cond_false]; rfl
theorem where_four (P O F:List Int) (c:Int):whereC P O F c=0∨whereC P O F c=1∨whereC P O F c=2∨whereC P O F c=3:=by
 unfold whereC; split
 ·simp
 ·split
  ·simp
  ·split <;> simp
theorem acc_mem (P O F X:List Int) (c:Int) (h:c∈X) (j:Nat):decide (c∈accL P O F X j)=(whereC P O F c==j):=by
 rw [Bool.eq_iff_iff,decide_eq_true_eq]
 unfold accL
 rw [List.mem_filter]
 exact⟨fun h=>h.2,fun h'=>⟨h,h'⟩⟩
theorem acc_len (P O F:List Int):∀X:List Int,(accL P O F X 0).length+(accL P O F X 1).length+(accL P O F X 2).length+(accL P O F X 3).length=X.length
 | []=>rfl
 | c :: X=>by
  have ih:=acc_len P O F X
  unfold accL at *
  simp only [List.filter_cons,List.length_cons]
  rcases where_four P O F c with h | h | h | h <;> rw [h] <;> simp <;> omega
theorem acc_le (P O F X:List Int) (j:Nat):(accL P O F X j).length≤X.length:=List.length_filter_le _ _
theorem wo_eq (A:List zD9) (S:List Int):cmpWo (A.map toAt) S=(presL A).filter fun c => !decide (c∈S):=by
 unfold cmpWo presL
 rw [List.filter_map,List.filter_map,List.map_map,List.filter_filter]
 congr 1
 refine List.filter_congr fun a _=>?_
 show (decide (a.State=1) && !decide (a.Candidate∈S))=(!decide (a.Candidate∈S)&&(a.State==1))
 rw [Bool.and_comm]
 congr 1
theorem split_len {α:Type}(p:α→Bool):∀l:List α,(l.filter fun x => !p x).length+(l.filter p).length=l.length
 | []=>rfl
 | a :: l=>by
  have:=split_len p l
  simp only [List.filter_cons,List.length_cons]
  cases p a <;> simp <;> omega
theorem awake17_ok:top_awake17=some true:=by
 have hE:InvP [(zf9.mk (zX9.mk (1:Int) (2:Int) (0:Int)) false)]:=⟨by simp,by simp,fun x hx=>by
  rw [List.mem_singleton.1 hx]; exact⟨⟨by decide,by decide⟩,⟨by decide,by decide⟩,by decide,by decide⟩⟩
 have one:∀ {α:Type} [DecidableEq α] [Inhabited α] (f:α→List Int) (x:α),vldS (st3 (f x))=true→canonEv f [x]=[x]:=fun f x hv=>
  sorted_uniq (R:=fun a b=>stLt (st3 (f a)) (st3 (f b))) (fun _=>stLt_irrefl _) (fun _ _ _=>stLt_trans) (canon_sorted f [x]) (List.pairwise_singleton _ _) fun y=>by
   rw [canon_mem]
   constructor
   ·exact fun h=>h.1
   ·intro h
    rw [List.mem_singleton.1 h]
    exact⟨by simp,hv,fun z hz _ _=>List.mem_singleton.1 hz⟩
 obtain⟨r0,hr0⟩:∃r,r=ze9.mk (zB9.mk (0:Int) (0:Int) (0:Int)) (1:Int) (1:Int) (0:Int):=⟨_,rfl⟩
 have ok0:okS (zB9.mk (0:Int) (0:Int) (0:Int)):=by unfold okS stOK in64; decide
 have hA:zq1 [(zf9.mk (zX9.mk (1:Int) (2:Int) (0:Int)) false)] [r0] 9=some ([zD9.mk 1 1 (-1) (-1) []],[],0):=by
  unfold zq1
  rw [check_ok _ hE,Option.bind_some,canonR_eq [r0] (by simp) (fun x hx=>by rw [List.mem_singleton.1 hx,hr0]; exact ok0),Option.bind_some,one evR r0 (by rw [hr0]; decide)]
  dsimp only
  rw [req_pos ⟨rfl,rfl,by simp,by simp,fun c=>by
   obtain⟨p,th,e,hb⟩:=bsA_ok [(zf9.mk (zX9.mk (1:Int) (2:Int) (0:Int)) false)] c (by simp)
   exact⟨_,e,by dsimp only; omega,fun ht=>by have:=(hb.hit ht).1; dsimp only; omega⟩⟩]
  have hp:plcA [(zf9.mk (zX9.mk (1:Int) (2:Int) (0:Int)) false)] 1=(0,true):=by
   obtain⟨p,th,e,hb⟩:=bsA_ok [(zf9.mk (zX9.mk (1:Int) (2:Int) (0:Int)) false)] 1 (by simp)
   unfold plcA
   rw [e]
   have h0:cmpI (([(zf9.mk (zX9.mk (1:Int) (2:Int) (0:Int)) false)]:List zf9).getD 0 default).Entry.Candidate 1=0:=by decide
   have hle:=hb.le
   have hord:=(hb.ord fun a b hab hb' hc=>by
    have:a=b:=by simp at hb'; omega
    rw [this]; exact hc).1
   have hp0:p=0:=by
    simp at hle
    by_cases h1:p=1
    ·have:=hord 0 (by omega)
     omega
    ·omega
   subst hp0
   cases th with
   | true=>rfl
   | false=>exact absurd h0 (hb.miss rfl (by simp))
  have hf:foldRL ([(zf9.mk (zX9.mk (1:Int) (2:Int) (0:Int)) false)].map toEnr) (plcA [(zf9.mk (zX9.mk (1:Int) (2:Int) (0:Int)) false)]) 9 ([r0].map fun y=>regOf (evR y))=([(1,1,-1,-1,[])],[]):=by
   unfold foldRL
   simp only [List.map_cons,List.map_nil,runR]
   have hc:(regOf (evR r0)).cand=1:=by rw [hr0]; rfl
   rw [hc,hp,hr0]
   rfl
  rw [hf]
  rfl
 obtain⟨b0,hb0⟩:∃b,b=zh9.mk (zB9.mk (0:Int) (0:Int) (0:Int)) (1:Int) (0:Int) (0:Int) (2:Int) (0:Int) ([(1:Int)]):=⟨_,rfl⟩
 have hC:∃f,zT1 [b0] 9=some ([api_Bag.mk 0 2 false [0] [1] []],f,0):=by
  unfold zT1
  rw [canonB_eq [b0] (by simp) (fun x hx=>by rw [List.mem_singleton.1 hx,hb0]; exact⟨ok0,by simp⟩),Option.bind_some,one evB b0 (by rw [hb0]; decide)]
  dsimp only
  rw [show ((0:Int) != 0)=false from rfl,cond_false]
  have hs:custody_step [] b0=some ([api_Bag.mk 0 2 false [0] [1] []],0):=by
   unfold custody_step
   have hrng:zN1 b0=some false:=by
    obtain⟨b,e1,hb⟩:=sorted_eq b0.Candidates
    have hb1:custody_sorted b0.Candidates=some true:=by
     rw [hb0]
     unfold custody_sorted
     rw [show decide ((60:Int)<(([(1:Int)]:List Int).length:Int))=false from rfl,cond_false]
     have s0:zS1 [(1:Int)] 0=some (.inl 1):=by
      unfold zS1
      rw [show decide ((0:Int)<(([(1:Int)]:List Int).length:Int))=true from rfl,cond_true,req_pos (by constructor <;> decide),req_pos (fun h=>absurd h (by decide))]
      rfl
     have s1:zS1 [(1:Int)] 1=some (.inr (.inl ())):=rfl
     rw [iter_inl s0,iter_inr s1]; rfl
    unfold zN1 zK1 zJ1 zo1 zw1
    rw [req_pos ⟨fun _=>rfl,fun _=>rfl,fun _=>rfl⟩,hb1,hb0]
    rfl
   obtain⟨p,th,e2,hb⟩:=bsB_ok [] b0.Bag (by simp)
   rw [hrng,Option.bind_some,e2,Option.bind_some]
   have hle:=hb.le
   have hp0:p=0:=by simpa using hle
   subst hp0
   have ht:th=false:=by
    cases th with
    | false=>rfl
    | true=>have:=(hb.hit rfl).1; simp at this
   subst ht
   dsimp only
   rw [req_pos ⟨by simp,(fun b hb=>by cases hb),by rw [hb0]; simp,by simp,by simp,fun h=>by cases h⟩,hb0]
   rfl
  have s0:custody_Fold_l3 9 [b0] (([]:List api_Bag),(0:Int),([]:List zu9))=some (.inl ([api_Bag.mk 0 2 false [0] [1] []],1,[])):=by
   unfold custody_Fold_l3
   dsimp only
   rw [show decide ((0:Int)<(([b0]:List zh9).length:Int))=true from rfl,cond_true,req_pos (by constructor <;> simp)]
   have hx:ix [b0] 0=b0:=rfl
   rw [hx,show (zh9.mk b0.Stamp b0.Kind b0.Bag b0.Seal b0.From b0.To b0.Candidates)=b0 from rfl,hs,Option.bind_some]
   dsimp only
   rw [show decide ((9:Int)<b0.Stamp.Time)=false by rw [hb0]; rfl,cond_false]
   rfl
  have s1:custody_Fold_l3 9 [b0] ([api_Bag.mk 0 2 false [0] [1] []],(1:Int),([]:List zu9))=some (.inr ([api_Bag.mk 0 2 false [0] [1] []],[])):=rfl
  rw [iter_inl s0,iter_inr s1]
  exact⟨_,rfl⟩
 obtain⟨f,hC⟩:=hC
 unfold top_awake17
 rw [← hr0,hA,Option.bind_some]
 dsimp only
 rw [← hb0,hC,Option.bind_some]
 dsimp only
 rw [present_eq _ (by simp),Option.bind_some]
 have hpr:presL [zD9.mk 1 1 (-1) (-1) []]=[1]:=rfl
 rw [hpr]
 unfold custody_Account
 rw [req_pos ⟨by simp,fun b hb=>by
  rw [List.mem_singleton.1 hb]
  refine⟨⟨by simp,fun c hc=>?_⟩,by simp,fun c hc=>by cases hc⟩
  rw [List.mem_singleton.1 hc]; unfold in64; decide,by simp,fun c hc=>by rw [List.mem_singleton.1 hc]; unfold in64; decide⟩,Option.bind_some]
 dsimp only
 have a0:accL (packsL ([api_Bag.mk 0 2 false [0] [1] []].map toBg)) (opensL ([api_Bag.mk 0 2 false [0] [1] []].map toBg)) (foundsL ([api_Bag.mk 0 2 false [0] [1] []].map toBg)) [1] 0=[]:=by decide
 have a1:accL (packsL ([api_Bag.mk 0 2 false [0] [1] []].map toBg)) (opensL ([api_Bag.mk 0 2 false [0] [1] []].map toBg)) (foundsL ([api_Bag.mk 0 2 false [0] [1] []].map toBg)) [1] 1=[1]:=by decide
 rw [a0,a1,ints_eq _ _ (by simp)]
 refine reqE (fun _=>rfl) ?_
 rfl
theorem count_four (P O F X:List Int) (hX:X.length≤40) (i:Nat) (hi:i<X.length):iter (zx1 X (accL P O F X 0) (accL P O F X 1) (accL P O F X 2) (accL P O F X 3) (i:Int)) ((0:Int),(0:Int))=some 1:=by
 have hm:=List.getElem_mem hi
 have step:∀ (n:Int) (j:Nat),j<4→0≤n→n≤10→zx1 X (accL P O F X 0) (accL P O F X 1) (accL P O F X 2) (accL P O F X 3) (i:Int) (n,(j:Int))=some (.inl ((if (whereC P O F X[i]==j)=true then n+1 else n),((j+1:Nat):Int))):=fun n j hj h0 h1=>by
  have hx:ix [accL P O F X 0,accL P O F X 1,accL P O F X 2,accL P O F X 3] (j:Int)=accL P O F X j:=by
   match j,hj with
   | 0,_ | 1,_ | 2,_ | 3,_=>rfl
  unfold zx1
  dsimp only
  rw [show decide ((j:Int)<(4:Int))=true by simp; omega,cond_true,req_pos (by omega),hx,ix_nat X i hi,has_eq _ _ (by have:=acc_le P O F X j; omega),Option.bind_some,acc_mem P O F X _ hm j]
  unfold top_TopAccounted_j4
  rw [i64_add1 j (by omega),i64_id (n:=n+1) (by omega) (by omega)]
  cases (whereC P O F X[i]==j) <;> rfl
 have hit:∀ (n:Int) (j:Nat),j<4→0≤n→n≤10→whereC P O F X[i]=j→zx1 X (accL P O F X 0) (accL P O F X 1) (accL P O F X 2) (accL P O F X 3) (i:Int) (n,(j:Int))=some (.inl (n+1,((j+1:Nat):Int))):=fun n j hj h0 h1 h=>by
  rw [step n j hj h0 h1,if_pos (by simpa using h)]
 have miss:∀ (n:Int) (j:Nat),j<4→0≤n→n≤10→whereC P O F X[i]≠j→zx1 X (accL P O F X 0) (accL P O F X 1) (accL P O F X 2) (accL P O F X 3) (i:Int) (n,(j:Int))=some (.inl (n,((j+1:Nat):Int))):=fun n j hj h0 h1 h=>by
  rw [step n j hj h0 h1,if_neg (by simpa using h)]
 have fin:∀n:Int,zx1 X (accL P O F X 0) (accL P O F X 1) (accL P O F X 2) (accL P O F X 3) (i:Int) (n,((0+1+1+1+1:Nat):Int))=some (.inr n):=fun n=>rfl
 show iter _ ((0:Int),((0:Nat):Int))=_
 rcases where_four P O F X[i] with h | h | h | h
 ·rw [iter_inl (hit 0 0 (by decide) (by decide) (by decide) h),iter_inl (miss (0+1) (0+1) (by decide) (by decide) (by decide) (by rw [h]; decide)),iter_inl (miss (0+1) (0+1+1) (by decide) (by decide) (by decide) (by rw [h]; decide)),iter_inl (miss (0+1) (0+1+1+1) (by decide) (by decide) (by decide) (by rw [h]; decide)),iter_inr (fin (0+1))]
  rfl
 ·rw [iter_inl (miss 0 0 (by decide) (by decide) (by decide) (by rw [h]; decide)),iter_inl (hit 0 (0+1) (by decide) (by decide) (by decide) h),iter_inl (miss (0+1) (0+1+1) (by decide) (by decide) (by decide) (by rw [h]; decide)),iter_inl (miss (0+1) (0+1+1+1) (by decide) (by decide) (by decide) (by rw [h]; decide)),iter_inr (fin (0+1))]
  rfl
 ·rw [iter_inl (miss 0 0 (by decide) (by decide) (by decide) (by rw [h]; decide)),iter_inl (miss 0 (0+1) (by decide) (by decide) (by decide) (by rw [h]; decide)),iter_inl (hit 0 (0+1+1) (by decide) (by decide) (by decide) h),iter_inl (miss (0+1) (0+1+1+1) (by decide) (by decide) (by decide) (by rw [h]; decide)),iter_inr (fin (0+1))]
  rfl
 ·rw [iter_inl (miss 0 0 (by decide) (by decide) (by decide) (by rw [h]; decide)),iter_inl (miss 0 (0+1) (by decide) (by decide) (by decide) (by rw [h]; decide)),iter_inl (miss 0 (0+1+1) (by decide) (by decide) (by decide) (by rw [h]; decide)),iter_inl (hit 0 (0+1+1+1) (by decide) (by decide) (by decide) h),iter_inr (fin (0+1))]
  rfl
theorem j7_ok (E:List zf9) (hE:InvP E) (A:List zD9) (hA:InvA E A) (B:List api_Bag) (hB:∀b∈B,okBag 100 b) (hBl:B.length≤40):top_TopAccounted_j7 A B=some true:=by
 have hAl:A.length=E.length:=by have:=congrArg List.length hA.cand; simpa using this
 have hEl:=hE.len
 have hcand:∀a∈A,0≤a.Candidate∧a.Candidate≤9999:=fun a ha=>by
  have:a.Candidate∈A.map (fun a=>a.Candidate):=List.mem_map.2 ⟨a,ha,rfl⟩
  rw [hA.cand] at this
  obtain⟨x,hx,e⟩:=List.mem_map.1 this
  have:=(hE.ok x hx).1
  omega
 have hinj:∀a∈A,∀b∈A,a.Candidate=b.Candidate→a=b:=fun a ha b hb e=>by
  obtain⟨i,hi,rfl⟩:=List.getElem_of_mem ha
  obtain⟨j,hj,rfl⟩:=List.getElem_of_mem hb
  have hpw:=hE.ord
  rw [← hA.cand] at hpw
  rcases Nat.lt_trichotomy i j with h | h | h
  ·have:=pw_at hpw h (by simpa using hj)
   rw [List.getElem_map,List.getElem_map] at this
   omega
  ·subst h; rfl
  ·have:=pw_at hpw h (by simpa using hi)
   rw [List.getElem_map,List.getElem_map] at this
   omega
 obtain⟨X,hX⟩:∃X,X=presL A:=⟨_,rfl⟩
 have hXl:X.length≤40:=by
  rw [hX]; unfold presL; rw [List.length_map]
  have:=List.length_filter_le (fun a:zD9=>a.State==1) A
  omega
 have hXm:∀c∈X,∃a∈A,a.State=1∧a.Candidate=c:=fun c hc=>by
  rw [hX] at hc; unfold presL at hc
  obtain⟨a,ha,rfl⟩:=List.mem_map.1 hc
  exact⟨a,(List.mem_filter.1 ha).1,by simpa using (List.mem_filter.1 ha).2,rfl⟩
 have hX64:∀c∈X,in64 c:=fun c hc=>by
  obtain⟨a,ha,_,rfl⟩:=hXm c hc
  have:=hcand a ha
  unfold in64; omega
 have okC64:∀l,okC l→l.length≤1000∧∀c∈l,in64 c:=fun l h=>⟨by have:=h.1; omega,fun c hc=>by have:=h.2 c hc; unfold in64; omega⟩
 unfold top_TopAccounted_j7
 rw [present_eq A (by omega),Option.bind_some,← hX]
 obtain⟨P,hP⟩:∃P,P=packsL (B.map toBg):=⟨_,rfl⟩
 obtain⟨O,hO⟩:∃O,O=opensL (B.map toBg):=⟨_,rfl⟩
 obtain⟨F,hF⟩:∃F,F=foundsL (B.map toBg):=⟨_,rfl⟩
 have hacc:custody_Account B X=some (accL P O F X 0,accL P O F X 1,accL P O F X 2,accL P O F X 3):=by
  unfold custody_Account
  rw [req_pos ⟨by omega,fun b hb=>⟨okC64 _ (hB b hb).packed,okC64 _ (hB b hb).found⟩,by omega,hX64⟩,hP,hO,hF]
 rw [hacc,Option.bind_some]
 dsimp only
 have l0:=acc_le P O F X 0
 have l1:=acc_le P O F X 1
 have l2:=acc_le P O F X 2
 have l3:=acc_le P O F X 3
 have lsum:=acc_len P O F X
 have hfound:∀c∈accL P O F X 2,c∈X:=fun c hc=>by unfold accL at hc; exact (List.mem_filter.1 hc).1
 have hcmp:attendance_Compare A (accL P O F X 2)=some (X.filter (fun c => !decide (c∈accL P O F X 2)),[]):=by
  unfold attendance_Compare
  rw [req_pos ⟨by omega,fun a ha=>by have:=hcand a ha; unfold in64; omega,by omega,fun c hc=>hX64 c (hfound c hc)⟩,wo_eq,← hX]
  have:cmpDe (A.map toAt) (accL P O F X 2)=[]:=by
   unfold cmpDe
   rw [List.map_eq_nil_iff,List.filter_eq_nil_iff]
   intro y hy hq
   obtain⟨a,ha,rfl⟩:=List.mem_map.1 hy
   simp only [Bool.and_eq_true,Bool.not_eq_true',decide_eq_false_iff_not,decide_eq_true_eq] at hq
   obtain⟨b,hb,h1,h2⟩:=hXm _ (hfound _ hq.2)
   have:=hinj b hb a ha h2
   subst this
   exact hq.1 h1
  rw [this]
 rw [hcmp,Option.bind_some]
 dsimp only
 have hwo:(X.filter fun c => !decide (c∈accL P O F X 2))=X.filter fun c => !(whereC P O F c==2):=List.filter_congr fun c hc=>by rw [acc_mem P O F X c hc 2]
 have hwl:(X.filter fun c => !decide (c∈accL P O F X 2)).length+(accL P O F X 2).length=X.length:=by
  rw [hwo]; exact split_len (fun c=>whereC P O F c==2) X
 obtain⟨W,hW⟩:∃W,W=X.filter fun c => !decide (c∈accL P O F X 2):=⟨_,rfl⟩
 rw [← hW] at hwl ⊢
 rw [i64_id (n:=((accL P O F X 0).length:Int)+((accL P O F X 1).length:Int)) (by omega) (by omega),i64_id (n:=((accL P O F X 0).length:Int)+((accL P O F X 1).length:Int)+((accL P O F X 2).length:Int)) (by omega) (by omega),i64_id (n:=((accL P O F X 0).length:Int)+((accL P O F X 1).length:Int)+((accL P O F X 2).length:Int)+((accL P O F X 3).length:Int)) (by omega) (by omega),i64_id (n:=(W.length:Int)+((accL P O F X 2).length:Int)) (by omega) (by omega)]
 rw [show ((((accL P O F X 0).length:Int)+((accL P O F X 1).length:Int)+((accL P O F X 2).length:Int)+((accL P O F X 3).length:Int)) != (X.length:Int))=false by rw [bne_eq_false_iff_eq]; omega,show (((W.length:Int)+((accL P O F X 2).length:Int)) != (X.length:Int))=false by rw [bne_eq_false_iff_eq]; omega,show (((([]:List Int).length:Nat):Int) != (0:Int))=false from rfl]
 rw [show ((false||false)||false)=false from rfl,cond_false]
 rw [iter_scan X (top_TopAccounted_l6 X (accL P O F X 0) (accL P O F X 1) (accL P O F X 2) (accL P O F X 3) W) (fun _=>false) (fun _=>(.inr false:Unit⊕Bool)) (.inl ()) (fun i hi=>?_) ?_,Option.bind_some]
 ·rw [List.find?_eq_none.2 (fun x _=>by simp)]
  show top_TopAccounted_j1=some true
  unfold top_TopAccounted_j1
  rw [awake17_ok]; rfl
 rotate_left
 ·unfold top_TopAccounted_l6
  rw [show decide ((i:Int)<(X.length:Int))=true by simpa using hi,cond_true,count_four P O F X hXl i hi,Option.bind_some]
  unfold top_TopAccounted_j3
  have hm:=List.getElem_mem hi
  rw [ix_nat X i hi,has_eq W _ (by omega),has_eq (accL P O F X 2) _ (by omega),req_pos ⟨fun _=>by omega,fun _=>rfl,fun _=>rfl⟩]
  have hne:(decide (X[i]∈W)==decide (X[i]∈accL P O F X 2))=false:=by
   have:decide (X[i]∈W) = !decide (X[i]∈accL P O F X 2):=by
    rw [hW,Bool.eq_iff_iff,decide_eq_true_eq,List.mem_filter]
    exact⟨fun h=>h.2,fun h=>⟨hm,h⟩⟩
   rw [this]
   cases decide (X[i]∈accL P O F X 2) <;> rfl
  simp only [Option.getD_some]
  rw [hne,show (((1:Int) != (1:Int))||false)=false from rfl,cond_false]
  unfold top_TopAccounted_j2
  rw [i64_add1 i (by omega)]
  rfl
 ·unfold top_TopAccounted_l6
  rw [show decide ((X.length:Int)<(X.length:Int))=false by simp,cond_false]
theorem mixed_set {α:Type} [Inhabited α] (l:List α) (p:List Int) (hp:∀x,x∈p↔0≤x∧x<(l.length:Int)) (x:α):x∈l↔x∈p.map (ix l):=by
 rw [List.mem_map]
 constructor
 ·intro h
  obtain⟨k,hk,rfl⟩:=List.getElem_of_mem h
  exact⟨(k:Int),(hp _).2 (by omega),ix_nat l k hk⟩
 ·rintro⟨i,hi,rfl⟩
  obtain⟨h1,h2⟩:=(hp i).1 hi
  exact ix_mem l i h1 h2
theorem pure_TopAccounted (t:List Int):top_TopAccounted t=some true:=by
 unfold top_TopAccounted
 obtain⟨t0,e0,h0⟩:=new_ok t
 rw [e0,Option.bind_some]
 obtain⟨d,t1,e1,h1,hd⟩:=deadlines_ok t0 h0
 rw [e1,Option.bind_some]
 dsimp only
 obtain⟨en,t2,e2,h2,hen,hes⟩:=entries_ok t1 h1
 rw [e2,Option.bind_some]
 dsimp only
 obtain⟨rg,t3,e3,h3,hrg,hrs⟩:=registers_ok t2 h2
 rw [e3,Option.bind_some]
 dsimp only
 obtain⟨bg,t4,e4,h4,hbg,hbs⟩:=bags_ok t3 h3
 rw [e4,Option.bind_some]
 dsimp only
 obtain⟨p,t5,e5,h5,hpl,hp⟩:=mixed_ok t4 h4 en.length hen
 rw [e5,Option.bind_some]
 dsimp only
 obtain⟨q,t6,e6,h6,hql,hq⟩:=mixed_ok t5 h5 rg.length hrg
 rw [e6,Option.bind_some]
 dsimp only
 obtain⟨r,t7,e7,h7,hrl,hr⟩:=mixed_ok t6 h6 bg.length hbg
 rw [e7,Option.bind_some]
 dsimp only
 rw [iter_fold p (top_TopAccounted_l14 en p) (fun b a=>b++[ix en a]) id (fun k b=>b.length≤k) (fun k b hk hI=>?_) (fun b hI=>?_) [] (by simp),Option.bind_some]
 rotate_left
 ·have hm:=(hp p[k]).1 (List.getElem_mem hk)
  unfold top_TopAccounted_l14
  dsimp only
  rw [show decide ((k:Int)<(p.length:Int))=true by simpa using hk,cond_true,ix_nat p k hk,req_pos ⟨by omega,hm,by simp; omega⟩]
  rw [bindV_def,i64_add1 k (by omega)]
  exact⟨rfl,by simp; omega⟩
 ·unfold top_TopAccounted_l14
  dsimp only
  rw [show decide ((p.length:Int)<(p.length:Int))=false by simp,cond_false]; rfl
 rw [fold_push (ix en) p [],List.nil_append]
 unfold top_TopAccounted_j13
 rw [iter_fold q (top_TopAccounted_l12 rg q) (fun b a=>b++[ix rg a]) id (fun k b=>b.length≤k) (fun k b hk hI=>?_) (fun b hI=>?_) [] (by simp),Option.bind_some]
 rotate_left
 ·have hm:=(hq q[k]).1 (List.getElem_mem hk)
  unfold top_TopAccounted_l12
  dsimp only
  rw [show decide ((k:Int)<(q.length:Int))=true by simpa using hk,cond_true,ix_nat q k hk,req_pos ⟨by omega,hm,by simp; omega⟩]
  rw [bindV_def,i64_add1 k (by omega)]
  exact⟨rfl,by simp; omega⟩
 ·unfold top_TopAccounted_l12
  dsimp only
  rw [show decide ((q.length:Int)<(q.length:Int))=false by simp,cond_false]; rfl
 rw [fold_push (ix rg) q [],List.nil_append]
 unfold top_TopAccounted_j11
 rw [iter_fold r (top_TopAccounted_l10 bg r) (fun b a=>b++[ix bg a]) id (fun k b=>b.length≤k) (fun k b hk hI=>?_) (fun b hI=>?_) [] (by simp),Option.bind_some]
 rotate_left
 ·have hm:=(hr r[k]).1 (List.getElem_mem hk)
  unfold top_TopAccounted_l10
  dsimp only
  rw [show decide ((k:Int)<(r.length:Int))=true by simpa using hk,cond_true,ix_nat r k hk,req_pos ⟨by omega,hm,by simp; omega⟩]
  rw [bindV_def,i64_add1 k (by omega)]
  exact⟨rfl,by simp; omega⟩
 ·unfold top_TopAccounted_l10
  dsimp only
  rw [show decide ((r.length:Int)<(r.length:Int))=false by simp,cond_false]; rfl
 rw [fold_push (ix bg) r [],List.nil_append]
 simp only [id]
 have sE:=mixed_set en p hp
 have sR:=mixed_set rg q hq
 have sB:=mixed_set bg r hr
 unfold top_TopAccounted_j9
 obtain⟨a,fa,ea,ha,hal⟩:=entryFold_ok en d (by omega) hes (by have:=canonEv_len evE en; omega) hd
 rw [entryFold_set en (p.map (ix en)) d _ (by omega) (by rw [List.length_map]; omega) hes sE,ea,Option.bind_some]
 dsimp only
 rw [Option.bind_some]
 dsimp only
 have hP:=paper_inv a ha hal
 rw [paper_eq a (by omega),Option.bind_some]
 obtain⟨x,fx,ex,hx⟩:=attFold_ok _ hP rg (by omega) hrs 1000000
 rw [ex,Option.bind_some]
 dsimp only
 rw [Option.bind_some,attFold_set _ rg (q.map (ix rg)) _ (by omega) (by rw [List.length_map]; omega) hrs sR,ex,Option.bind_some]
 dsimp only
 obtain⟨k,fk,ek,hk,hkl⟩:=cusFold_ok bg (by omega) hbs 1000000
 rw [cusFold_set bg (r.map (ix bg)) _ (by omega) (by rw [List.length_map]; omega) hbs sB,ek,Option.bind_some]
 dsimp only
 rw [Option.bind_some]
 dsimp only
 have hxl:x.length=(a.filter fun x=>x.Entry.Paper==1).length:=by have:=congrArg List.length hx.cand; simpa using this
 rw [sameBags_self k (by omega) hk,req_pos ⟨fun _=>rfl,fun _=>rfl⟩]
 simp only [Option.getD_some]
 rw [show ((x.length:Int) != (x.length:Int))=false by simp,show ((x.length:Int) != ((a.filter fun x=>x.Entry.Paper==1).length:Int))=false by rw [bne_eq_false_iff_eq,hxl]]
 rw [show (((((((((((0:Int) != (0:Int))||((0:Int) != (0:Int)))||((0:Int) != (0:Int)))||((0:Int) != (0:Int)))||((0:Int) != (0:Int)))||((0:Int) != (0:Int)))||false)||false)||(!true)))=false from rfl,cond_false]
 have hlen:x.length≤40:=by have:=hP.len; omega
 rw [iter_scan x (top_TopAccounted_l8 x x) (fun _=>false) (fun _=>(.inr false:Unit⊕Bool)) (.inl ()) (fun i hi=>?_) ?_,Option.bind_some]
 ·rw [List.find?_eq_none.2 (fun x _=>by simp)]
  exact j7_ok _ hP x hx k hk hkl
 rotate_left
 ·have hm:=hx.ok _ (List.getElem_mem hi)
  unfold top_TopAccounted_l8
  rw [show decide ((i:Int)<(x.length:Int))=true by simpa using hi,cond_true,req_pos (by omega),ix_nat x i hi,sameAt_self _ hm.2,Option.bind_some,req_pos ⟨fun _=>by omega,fun _=>by omega⟩]
  rw [show decide (x[i].State<(0:Int))=false by simp; omega,show decide ((2:Int)<x[i].State)=false by simp; omega,i64_add1 i (by omega)]
  rfl
 ·unfold top_TopAccounted_l8
  rw [show decide ((x.length:Int)<(x.length:Int))=false by simp,cond_false]
end Go.LS
