/-
  The framework LS, part 26: '==' on structs of integers and bools, and of structs of these.
  No condition: lemmas.
-/
import Derived.Test.YtmgjidfafnajnaaGreatLs25
namespace Go.LS
set_option linter.all false
set_option linter.unusedSimpArgs false
set_option linter.unusedVariables false
def okField (P:Program) (u:TypeId×Value):Bool:=
 match u.2,P.underlying u.1 with
 | .int k _,some (.int k')=>(k==k')&&P.plainKey u.1
 | .bool _,some .bool=>P.plainKey u.1
 | _,_=>false
theorem eqFieldsN {P:Program}{w:World}{d:Nat}{A B:Array Value}:∀ (us:List (TypeId×Value)) (fs:List Field) (o:Nat) (l r:List Value),us.all (okField P)=true →
  (fs.map fun f => (decide (f.name = "_"), f.type, f.offset)) = (us.zipIdx o).map (fun u => (false, u.1.1, u.2)) → (∀ i, i < l.length → A[o + i]? = l[i]?) → (∀ i, i < r.length → B[o + i]? = r[i]?) →
  kindsOK l (us.map (·.2))=true→kindsOK r (us.map (·.2))=true→(Op.eqFields (d+1) A B fs).run P w = .ok (cellEq l r) w
 | [],fs,o,l,r,_,hf,_,_,hl,hr=>by
  cases fs with
  | cons f fs=>simp at hf
  | nil=>
   cases l with
   | cons x l=>cases x <;> simp [kindsOK] at hl
   | nil=>simp [Op.eqFields,cellEq]
 | u :: us,fs,o,l,r,hu,hf,hA,hB,hl,hr=>by
  cases fs with
  | nil=>simp at hf
  | cons f fs=>
   simp only [List.map_cons,List.zipIdx_cons,List.cons.injEq,Prod.mk.injEq,decide_eq_false_iff_not] at hf
   obtain⟨⟨h1,h2,h3⟩,h4⟩:=hf
   simp only [List.all_cons,Bool.and_eq_true] at hu
   obtain⟨hu1,hu2⟩:=hu
   obtain⟨ut,uz⟩:=u
   simp only [okField] at hu1
   cases l with
   | nil=>cases uz <;> simp [kindsOK] at hl
   | cons x l=>
   cases r with
   | nil=>cases uz <;> simp [kindsOK] at hr
   | cons y r=>
   have ax:A[o]?=some x:=by have:=hA 0 (by simp); simpa using this
   have by':B[o]?=some y:=by have:=hB 0 (by simp); simpa using this
   have ih:kindsOK l (us.map (·.2))=true→kindsOK r (us.map (·.2))=true→(Op.eqFields (d+1) A B fs).run P w = .ok (cellEq l r) w:=fun g1 g2=>
    eqFieldsN us fs (o+1) l r hu2 h4 (fun i hi=>by have:=hA (i+1) (by simp; omega); simpa [Nat.add_assoc,Nat.add_comm 1 i] using this) (fun i hi=>by have:=hB (i+1) (by simp; omega); simpa [Nat.add_assoc,Nat.add_comm 1 i] using this) g1 g2
   cases uz with
   | int k z=>
    cases x with
    | int kx a=>
     cases y with
     | int ky b=>
      simp only [List.map_cons,kindsOK,Bool.and_eq_true,beq_iff_eq] at hl hr
      obtain⟨rfl,hl⟩:=hl
      obtain⟨rfl,hr⟩:=hr
      split at hu1
      ·rename_i k1 z1 k2 he1 he2
       cases he1
       simp only [Bool.and_eq_true,beq_iff_eq] at hu1
       obtain⟨rfl,hp⟩:=hu1
       have e1:(part f.type A f.offset).run P w = .ok (.int ky a) w:=by rw [h2,h3]; exact run_part_plain w hp ax
       have e2:(part f.type B f.offset).run P w = .ok (.int ky b) w:=by rw [h2,h3]; exact run_part_plain w hp by'
       have e3:(Op.equalIn (d+1) f.type (.int ky a) (.int ky b)).run P w = .ok (a==b) w:=run_equalIn_int w d f.type ky ky a b (by rw [h2]; exact he2)
       simp only [Op.eqFields,ne_eq,h1,not_false_eq_true,if_true,Sem.run_bind,e1,e2,e3,Result.andThen_ok,cellEq]
       cases hk:a==b <;> simp [ih hl hr]
      ·rename_i he1 he2; cases he1
      ·cases hu1
     | _=>simp [kindsOK] at hr
    | _=>simp [kindsOK] at hl
   | bool z=>
    cases x with
    | bool a=>
     cases y with
     | bool b=>
      simp only [List.map_cons,kindsOK] at hl hr
      split at hu1
      ·rename_i he1 he2; cases he1
      ·rename_i he1 he2
       have e1:(part f.type A f.offset).run P w = .ok (.bool a) w:=by rw [h2,h3]; exact run_part_plain w hu1 ax
       have e2:(part f.type B f.offset).run P w = .ok (.bool b) w:=by rw [h2,h3]; exact run_part_plain w hu1 by'
       have e3:(Op.equalIn (d+1) f.type (.bool a) (.bool b)).run P w = .ok (a==b) w:=run_equalIn_bool' w d f.type a b (by rw [h2]; exact he2)
       simp only [Op.eqFields,ne_eq,h1,not_false_eq_true,if_true,Sem.run_bind,e1,e2,e3,Result.andThen_ok,cellEq]
       cases hk:a==b <;> simp [ih hl hr]
      ·cases hu1
     | _=>simp [kindsOK] at hr
    | _=>simp [kindsOK] at hl
   | _=>simp at hu1
theorem eqOKi {P:Program}{t:TypeId}(us:List (TypeId×Value)) (h1:P.underlying t=some (.struct (P.fieldsOf t))) (h3:P.stoodInHeld t=false) (h4:P.eqGuardType P.depth t=false) (h5:us.all (okField P)=true)
  (h6 : ((P.fieldsOf t).toList.map fun f => (decide (f.name = "_"), f.type, f.offset)) = (us.zipIdx 0).map (fun u => (false, u.1.1, u.2))) : EqOK P t (us.map (·.2)) := by
 intro w xs ys hx hy op x y hop
 have key:=eqFieldsN (P:=P) (w:=w) (d:=9998) (A:=xs.toArray) (B:=ys.toArray) us _ 0 xs ys h5 h6 (fun i hi=>by simp) (fun i hi=>by simp) hx hy
 rcases hop with rfl | rfl
 ·simp only [Sem.run_bind,run_eqGuard_agg w _ t x y _ _ h4,Result.andThen_ok,run_eql_struct,run_equalIn_agg w 9999 t _ _ h1 h3,key]
  simp
 ·simp only [Sem.run_bind,run_eqGuard_agg w _ t x y _ _ h4,Result.andThen_ok,run_neq_struct,run_equalIn_agg w 9999 t _ _ h1 h3,key]
  simp
inductive FT where
 | plain (t:TypeId) (z:Value)
 | agg (t:TypeId) (us:List (TypeId×Value))
def FT.ty:FT→TypeId
 | .plain t _=>t
 | .agg t _=>t
def FT.cells:FT→List Value
 | .plain _ z=>[z]
 | .agg _ us=>us.map (·.2)
def FT.ok (P:Program):FT→Prop
 | .plain t z=>okField P (t,z)=true
 | .agg t us=>P.underlying t=some (.struct (P.fieldsOf t))∧P.stoodInHeld t=false∧P.cellsOf t=us.length∧us.all (okField P)=true ∧
   ((P.fieldsOf t).toList.map fun f => (decide (f.name = "_"), f.type, f.offset)) = (us.zipIdx 0).map (fun u => (false, u.1.1, u.2))
def ftOK (P:Program):List FT→Prop
 | []=>True
 | f :: r=>f.ok P∧ftOK P r
def ftOffs:Nat→List FT→List (Bool×TypeId×Nat)
 | _,[]=>[]
 | o,f :: r=>(false,f.ty,o) :: ftOffs (o+f.cells.length) r
def ftCells:List FT→List Value
 | []=>[]
 | f :: r=>f.cells++ftCells r
theorem kindsOK_append:∀ (a b l:List Value),kindsOK l (a++b)=true→kindsOK (l.take a.length) a=true∧kindsOK (l.drop a.length) b=true∧a.length≤l.length
 | [],b,l,h=>by simpa [kindsOK] using h
 | x :: a,b,[],h=>by cases x <;> simp [kindsOK] at h
 | x :: a,b,y :: l,h=>by
  have key:kindsOK l (a++b)=true∧∀l',kindsOK l' a=true→kindsOK (y :: l') (x :: a)=true:=by
   cases x <;> cases y <;> simp [kindsOK] at h ⊢ <;> simp_all
  obtain⟨h1,h2,h3⟩:=kindsOK_append a b l key.1
  exact⟨by simpa using key.2 _ h1,by simpa using h2,by simpa using h3⟩
theorem cellEq_append:∀ (z l r l' r':List Value),kindsOK l z=true→kindsOK r z=true→cellEq (l++l') (r++r')=(cellEq l r&&cellEq l' r')
 | [],l,r,l',r',h1,h2=>by
  cases l with
  | nil=>cases r with
   | nil=>simp [cellEq]
   | cons y r=>cases y <;> simp [kindsOK] at h2
  | cons x l=>cases x <;> simp [kindsOK] at h1
 | z :: zs,[],r,l',r',h1,h2=>by cases z <;> simp [kindsOK] at h1
 | z :: zs,x :: l,[],l',r',h1,h2=>by cases z <;> simp [kindsOK] at h2
 | z :: zs,x :: l,y :: r,l',r',h1,h2=>by
  cases z <;> cases x <;> simp [kindsOK] at h1 <;> cases y <;> simp [kindsOK] at h2
  all_goals
   simp only [List.cons_append,cellEq]
   rw [cellEq_append zs l r l' r' (by simp_all) (by simp_all),Bool.and_assoc]
theorem run_part_agg {P:Program}{t:TypeId}(w:World){fs:Array Field}(h:P.underlying t=some (.struct fs)) (A:Array Value) (o:Nat):(part t A o).run P w = .ok (.agg (A.extract o (o+P.cellsOf t))) w:=by
 have hi:∃i,P.info? t=some i:=by
  unfold Program.underlying at h
  cases hi:P.info? t with
  | none=>simp [hi] at h
  | some i=>exact⟨i,rfl⟩
 obtain⟨i,hi⟩:=hi
 have hs:(sizeOf t).run P w = .ok (P.cellsOf t) w:=by simp [sizeOf,typeInfo,Program.cellsOf,hi]
 simp [part,isAgg,run_underlying h,hs]
theorem eqFieldsF {P:Program}{w:World}{d:Nat}{A B:Array Value}:∀ (us:List FT) (fs:List Field) (o:Nat) (l r:List Value),ftOK P us →
  (fs.map fun f => (decide (f.name = "_"), f.type, f.offset)) = ftOffs o us → (∀ i, i < l.length → A[o + i]? = l[i]?) → (∀ i, i < r.length → B[o + i]? = r[i]?) →
  kindsOK l (ftCells us)=true→kindsOK r (ftCells us)=true→(Op.eqFields (d+2) A B fs).run P w = .ok (cellEq l r) w
 | [],fs,o,l,r,_,hf,_,_,hl,hr=>by
  cases fs with
  | cons f fs=>simp [ftOffs] at hf
  | nil=>
   cases l with
   | cons x l=>cases x <;> simp [kindsOK,ftCells] at hl
   | nil=>simp [Op.eqFields,cellEq]
 | u :: us,fs,o,l,r,hu,hf,hA,hB,hl,hr=>by
  cases fs with
  | nil=>simp [ftOffs] at hf
  | cons f fs=>
   simp only [List.map_cons,ftOffs,List.cons.injEq,Prod.mk.injEq,decide_eq_false_iff_not] at hf
   obtain⟨⟨h1,h2,h3⟩,h4⟩:=hf
   obtain⟨hu1,hu2⟩:=hu
   simp only [ftCells] at hl hr
   obtain⟨l1,l2,l3⟩:=kindsOK_append _ _ _ hl
   obtain⟨r1,r2,r3⟩:=kindsOK_append _ _ _ hr
   have ih:=eqFieldsF (d:=d) (A:=A) (B:=B) (w:=w) us fs (o+u.cells.length) (l.drop u.cells.length) (r.drop u.cells.length) hu2 h4
    (fun i hi=>by rw [List.getElem?_drop,Nat.add_assoc]; exact hA _ (by simp at hi; omega)) (fun i hi=>by rw [List.getElem?_drop,Nat.add_assoc]; exact hB _ (by simp at hi; omega)) l2 r2
   have hc:cellEq l r=(cellEq (l.take u.cells.length) (r.take u.cells.length)&&cellEq (l.drop u.cells.length) (r.drop u.cells.length)):=by
    conv=>lhs; rw [← List.take_append_drop u.cells.length l,← List.take_append_drop u.cells.length r]
    exact cellEq_append _ _ _ _ _ l1 r1
   have hA':∀i,i<(l.take u.cells.length).length→A[o+i]?=(l.take u.cells.length)[i]?:=fun i hi=>by
    simp only [List.length_take] at hi
    rw [List.getElem?_take_of_lt (by omega)]
    exact hA i (by omega)
   have hB':∀i,i<(r.take u.cells.length).length→B[o+i]?=(r.take u.cells.length)[i]?:=fun i hi=>by
    simp only [List.length_take] at hi
    rw [List.getElem?_take_of_lt (by omega)]
    exact hB i (by omega)
   have head:∃x y,(part f.type A f.offset).run P w = .ok x w∧(part f.type B f.offset).run P w = .ok y w∧(Op.equalIn (d+2) f.type x y).run P w = .ok (cellEq (l.take u.cells.length) (r.take u.cells.length)) w:=by
    rw [h2,h3]
    cases u with
    | plain t z=>
     simp only [FT.cells,List.length_cons,List.length_nil,Nat.zero_add,FT.ty] at *
     simp only [FT.ok,okField] at hu1
     cases l with
     | nil=>simp at l3
     | cons x l=>
     cases r with
     | nil=>simp at r3
     | cons y r=>
     simp only [List.take_succ_cons,List.take_zero] at l1 r1 ⊢
     have ax:A[o]?=some x:=by have:=hA 0 (by simp); simpa using this
     have by':B[o]?=some y:=by have:=hB 0 (by simp); simpa using this
     split at hu1
     ·rename_i k' he2
      simp only [Bool.and_eq_true,beq_iff_eq] at hu1
      obtain⟨rfl,hp⟩:=hu1
      cases x <;> simp [kindsOK] at l1
      cases y <;> simp [kindsOK] at r1
      subst l1 r1
      refine⟨_,_,run_part_plain w hp ax,run_part_plain w hp by',?_⟩
      rw [run_equalIn_int w (d+1) t _ _ _ _ he2]
      simp [cellEq]
     ·rename_i he2
      cases x <;> simp [kindsOK] at l1
      cases y <;> simp [kindsOK] at r1
      refine⟨_,_,run_part_plain w hu1 ax,run_part_plain w hu1 by',?_⟩
      rw [run_equalIn_bool' w (d+1) t _ _ he2]
      simp [cellEq]
     ·cases hu1
    | agg t vs=>
     obtain⟨g1,g2,g3,g4,g5⟩:=hu1
     simp only [FT.cells,List.length_map,FT.ty] at *
     refine⟨_,_,run_part_agg w g1 A o,run_part_agg w g1 B o,?_⟩
     rw [run_equalIn_agg w (d+1) t _ _ g1 g2,g3]
     refine eqFieldsN vs _ 0 _ _ g4 g5 (fun i hi=>?_) (fun i hi=>?_) l1 r1
     ·have:=hA' i hi
      simp only [List.length_take] at hi
      rw [Nat.zero_add,← this,Array.getElem?_extract]
      split
      ·rfl
      ·rename_i hn
       have:¬ o+i<A.size:=by omega
       rw [Array.getElem?_eq_none (by omega)]
     ·have:=hB' i hi
      simp only [List.length_take] at hi
      rw [Nat.zero_add,← this,Array.getElem?_extract]
      split
      ·rfl
      ·rename_i hn
       rw [Array.getElem?_eq_none (by omega)]
   obtain⟨x,y,e1,e2,e3⟩:=head
   simp only [Op.eqFields,ne_eq,h1,not_false_eq_true,if_true,Sem.run_bind,e1,e2,e3,Result.andThen_ok]
   rw [hc]
   cases hk:cellEq (l.take u.cells.length) (r.take u.cells.length) <;> simp [ih]
theorem eqOKf {P:Program}{t:TypeId}(us:List FT){z:List Value}(h1:P.underlying t=some (.struct (P.fieldsOf t))) (h3:P.stoodInHeld t=false) (h4:P.eqGuardType P.depth t=false) (hz:ftCells us=z)
  (h6 : ((P.fieldsOf t).toList.map fun f => (decide (f.name = "_"), f.type, f.offset)) = ftOffs 0 us) (h5 : ftOK P us) : EqOK P t z := by
 intro w xs ys hx hy op x y hop
 subst hz
 have key:=eqFieldsF (P:=P) (w:=w) (d:=9997) (A:=xs.toArray) (B:=ys.toArray) us _ 0 xs ys h5 h6 (fun i hi=>by simp) (fun i hi=>by simp) hx hy
 rcases hop with rfl | rfl
 ·simp only [Sem.run_bind,run_eqGuard_agg w _ t x y _ _ h4,Result.andThen_ok,run_eql_struct,run_equalIn_agg w 9999 t _ _ h1 h3,key]
  simp
 ·simp only [Sem.run_bind,run_eqGuard_agg w _ t x y _ _ h4,Result.andThen_ok,run_neq_struct,run_equalIn_agg w 9999 t _ _ h1 h3,key]
  simp
end Go.LS
