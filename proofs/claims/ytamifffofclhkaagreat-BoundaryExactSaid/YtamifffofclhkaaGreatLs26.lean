/-
  The framework LS, part 26: '==' on structs of integers and bools, and of structs of these.
  No condition: lemmas.
-/
import Derived.Test.YtamifffofclhkaaGreatLs25
namespace Go.LS
set_option linter.all false
set_option linter.unusedSimpArgs false
set_option linter.unusedVariables false
def okField (P:Program) (u:TypeId × Value):Bool :=
  match u.2,P.underlying u.1 with
  | .int k _,some (.int k') => (k==k')&&P.plainKey u.1
  | .bool _,some .bool => P.plainKey u.1
  | _,_ => false
theorem eqFieldsN {P:Program} {w:World} {d:Nat} {A B:Array Value}:∀ (us:List (TypeId × Value)) (fs:List Field) (o:Nat) (l r:List Value),us.all (okField P)=true →
    (fs.map fun f => (decide (f.name="_"),f.type,f.offset))=(us.zipIdx o).map (fun u => (false,u.1.1,u.2))→(∀ i,i<l.length→A[o+i]?=l[i]?)→(∀ i,i<r.length→B[o+i]?=r[i]?) →
    kindsOK l (us.map (·.2))=true→kindsOK r (us.map (·.2))=true→(Op.eqFields (d+1) A B fs).run P w=.ok (cellEq l r) w
  | [],fs,o,l,r,_,hf,_,_,hl,hr => by
    cases fs with
    | cons f fs => simp at hf
    | nil =>
      cases l with
      | cons x l => cases x <;> simp [kindsOK] at hl
      | nil => simp [Op.eqFields,cellEq]
  | u :: us,fs,o,l,r,hu,hf,hA,hB,hl,hr => by
    cases fs with
    | nil => simp at hf
    | cons f fs =>
      simp only [List.map_cons,List.zipIdx_cons,List.cons.injEq,Prod.mk.injEq,decide_eq_false_iff_not] at hf
      obtain ⟨⟨h1,h2,h3⟩,h4⟩:=hf
      simp only [List.all_cons,Bool.and_eq_true] at hu
      obtain ⟨hu1,hu2⟩:=hu
      obtain ⟨ut,uz⟩:=u
      simp only [okField] at hu1
      cases l with
      | nil => cases uz <;> simp [kindsOK] at hl
      | cons x l =>
      cases r with
      | nil => cases uz <;> simp [kindsOK] at hr
      | cons y r =>
      have ax:A[o]?=some x:=by have:=hA 0 (by simp); simpa using this
      have by':B[o]?=some y:=by have:=hB 0 (by simp); simpa using this
      have ih:kindsOK l (us.map (·.2))=true→kindsOK r (us.map (·.2))=true→(Op.eqFields (d+1) A B fs).run P w=.ok (cellEq l r) w:=fun g1 g2 =>
        eqFieldsN us fs (o+1) l r hu2 h4 (fun i hi => by have:=hA (i+1) (by simp; omega); simpa [Nat.add_assoc,Nat.add_comm 1 i] using this) (fun i hi => by have:=hB (i+1) (by simp; omega); simpa [Nat.add_assoc,Nat.add_comm 1 i] using this) g1 g2
      cases uz with
      | int k z =>
        cases x with
        | int kx a =>
          cases y with
          | int ky b =>
            simp only [List.map_cons,kindsOK,Bool.and_eq_true,beq_iff_eq] at hl hr
            obtain ⟨rfl,hl⟩:=hl
            obtain ⟨rfl,hr⟩:=hr
            split at hu1
            · rename_i k1 z1 k2 he1 he2
              cases he1
              simp only [Bool.and_eq_true,beq_iff_eq] at hu1
              obtain ⟨rfl,hp⟩:=hu1
              have e1:(part f.type A f.offset).run P w=.ok (.int ky a) w:=by rw [h2,h3]; exact run_part_plain w hp ax
              have e2:(part f.type B f.offset).run P w=.ok (.int ky b) w:=by rw [h2,h3]; exact run_part_plain w hp by'
              have e3:(Op.equalIn (d+1) f.type (.int ky a) (.int ky b)).run P w=.ok (a==b) w:=run_equalIn_int w d f.type ky ky a b (by rw [h2]; exact he2)
              simp only [Op.eqFields,ne_eq,h1,not_false_eq_true,if_true,Sem.run_bind,e1,e2,e3,Result.andThen_ok,cellEq]
              cases hk:a==b <;> simp [ih hl hr]
            · rename_i he1 he2; cases he1
            · cases hu1
          | _ => simp [kindsOK] at hr
        | _ => simp [kindsOK] at hl
      | bool z =>
        cases x with
        | bool a =>
          cases y with
          | bool b =>
            simp only [List.map_cons,kindsOK] at hl hr
            split at hu1
            · rename_i he1 he2; cases he1
            · rename_i he1 he2
              have e1:(part f.type A f.offset).run P w=.ok (.bool a) w:=by rw [h2,h3]; exact run_part_plain w hu1 ax
              have e2:(part f.type B f.offset).run P w=.ok (.bool b) w:=by rw [h2,h3]; exact run_part_plain w hu1 by'
              have e3:(Op.equalIn (d+1) f.type (.bool a) (.bool b)).run P w=.ok (a==b) w:=run_equalIn_bool' w d f.type a b (by rw [h2]; exact he2)
              simp only [Op.eqFields,ne_eq,h1,not_false_eq_true,if_true,Sem.run_bind,e1,e2,e3,Result.andThen_ok,cellEq]
              cases hk:a==b <;> simp [ih hl hr]
            · cases hu1
          | _ => simp [kindsOK] at hr
        | _ => simp [kindsOK] at hl
      | _ => simp at hu1

theorem eqOKi {P:Program} {t:TypeId} (us:List (TypeId × Value)) (h1:P.underlying t=some (.struct (P.fieldsOf t))) (h3:P.stoodInHeld t=false) (h4:P.eqGuardType P.depth t=false) (h5:us.all (okField P)=true)
    (h6:((P.fieldsOf t).toList.map fun f => (decide (f.name="_"),f.type,f.offset))=(us.zipIdx 0).map (fun u => (false,u.1.1,u.2))):EqOK P t (us.map (·.2)):=by
  intro w xs ys hx hy op x y hop
  have key:=eqFieldsN (P:=P) (w:=w) (d:=9998) (A:=xs.toArray) (B:=ys.toArray) us _ 0 xs ys h5 h6 (fun i hi => by simp) (fun i hi => by simp) hx hy
  rcases hop with rfl | rfl
  · simp only [Sem.run_bind,run_eqGuard_agg w _ t x y _ _ h4,Result.andThen_ok,run_eql_struct,run_equalIn_agg w 9999 t _ _ h1 h3,key]
    simp
  · simp only [Sem.run_bind,run_eqGuard_agg w _ t x y _ _ h4,Result.andThen_ok,run_neq_struct,run_equalIn_agg w 9999 t _ _ h1 h3,key]
    simp
end Go.LS
