/-
  Plain functions that the program's functions compute. No condition: definitions, printed by dec.py.
-/
import Derived.Test.YtmgjidfafnajnaaGreatD0
namespace Go.LS
set_option linter.all false
set_option linter.unusedSimpArgs false
set_option linter.unusedVariables false
set_option maxRecDepth 20000
noncomputable def entry_validDeadlines (d:zY9):Option Bool:=
 some (((decide ((0:Int)≤d.Close))&&(decide (d.Close≤d.Late)))&&(decide (d.Late≤(1000000:Int))))
noncomputable def entry_Canonical_f1 (e:zg9):Option zB9:=
 some e.Stamp
noncomputable def entry_Same (a:zg9) (b:zg9):Option Bool:=
 some ((a.Stamp.Time==b.Stamp.Time)&&((a.Stamp.Source==b.Stamp.Source)&&((a.Stamp.Seq==b.Stamp.Seq)&&((a.Kind==b.Kind)&&((a.Entry.Candidate==b.Entry.Candidate)&&((a.Entry.Centre==b.Entry.Centre)&&((a.Entry.Paper==b.Entry.Paper)&&(a.To==b.To))))))))
noncomputable def stamp_Valid (s:zB9):Option Bool:=
 some ((((((decide ((0:Int)≤s.Time))&&(decide (s.Time≤(1000000:Int))))&&(decide ((0:Int)≤s.Source)))&&(decide (s.Source≤(99:Int))))&&(decide ((0:Int)≤s.Seq)))&&(decide (s.Seq≤(9999:Int))))
def evE (x:zg9):List Int:=[x.Stamp.Time,x.Stamp.Source,x.Stamp.Seq,x.Kind,x.Entry.Candidate,x.Entry.Centre,x.Entry.Paper,x.To]
def vldS (s:StI):Bool:=((((((decide ((0:Int)≤s.1))&&(decide (s.1≤(1000000:Int))))&&(decide ((0:Int)≤s.2.1)))&&(decide (s.2.1≤(99:Int))))&&(decide ((0:Int)≤s.2.2)))&&(decide (s.2.2≤(9999:Int))))
noncomputable def zA9 (l:List zg9):Option (List Int×Int):=
 req (l.length≤300∧∀x∈l,Go.Proofs.stOK (x.Stamp.Time,x.Stamp.Source,x.Stamp.Seq)) <| some ((canonIdx l.length (fun i=>st3 (evE (l.getD i default))) (fun i j=>decide (l.getD i default=l.getD j default)) vldS).map (fun i:Nat=>(i:Int)),0)
noncomputable def entry_Canonical_j1 (w1:List zg9):Option ((List zg9)×Int):=
 some (w1,(0:Int))
noncomputable def entry_Canonical_l2 (l:List zg9) (y:List Int):(Int×(List zg9))→Option ((Int×(List zg9))⊕(List zg9)):=
 fun (v,w2)=>
  bif (decide (v<(y.length:Int))) then
   req ((0≤v∧v<(y.length:Int))) <|
   req ((0≤(ix y v)∧(ix y v)<(l.length:Int))∧(0≤v∧v<(w2.length:Int))) <|
   bindV (setI w2 v (zg9.mk ((ix l (ix y v)).Stamp) ((ix l (ix y v)).Kind) ((ix l (ix y v)).Entry) ((ix l (ix y v)).To))) fun w4=>
   some (.inl ((IntKind.i64.wrap (v+(1:Int))),w4))
  else
   some (.inr w2)
noncomputable def entry_Canonical (l:List zg9):Option ((List zg9)×Int):=
 (zA9 l).bind fun (y,y1)=>
 bif (y1 != (0:Int)) then
  some (([]:List zg9),y1)
 else
  req ((0≤(y.length:Int)∧(y.length:Int)*64≤140737488355328)) <|
  bindV (rep (y.length:Int) (zg9.mk (zB9.mk (0:Int) (0:Int) (0:Int)) (0:Int) (zX9.mk (0:Int) (0:Int) (0:Int)) (0:Int))) fun w=>
  (iter (entry_Canonical_l2 l y) ((0:Int),w)).bind fun w3=>
  entry_Canonical_j1 w3
noncomputable def zZ9 (n:Int):Option Bool:=
 some ((decide ((1:Int)≤n))&&(decide (n≤(99:Int))))
noncomputable def entry_validEntry (e:zX9):Option Bool:=
 req ((((decide ((0:Int)≤e.Candidate))&&(decide (e.Candidate≤(9999:Int))))=true→(zZ9 e.Centre).isSome=true)) <|
 some (((((decide ((0:Int)≤e.Candidate))&&(decide (e.Candidate≤(9999:Int))))&&((zZ9 e.Centre).getD default))&&(decide ((0:Int)≤e.Paper)))&&(decide (e.Paper≤(31:Int))))
noncomputable def zQ1 (e:zg9) (v:Bool):Option Bool:=
 bif v then
  (entry_validEntry e.Entry).bind fun y=>
  some y
 else
  bif (e.Kind==(3:Int)) then
   (entry_validEntry e.Entry).bind fun y1=>
   req ((y1=true→(zZ9 e.To).isSome=true)) <|
   some ((y1&&((zZ9 e.To).getD default))&&(e.To != e.Entry.Centre))
  else
   some false
noncomputable def entry_validEvent (e:zg9):Option Bool:=
 bif (e.Kind==(1:Int)) then
  zQ1 e (e.Kind==(1:Int))
 else
  zQ1 e (e.Kind==(2:Int))
noncomputable def cmp_isNaN_int (x:Int):Option Bool:=
 some (x != x)
noncomputable def cmp_Compare_int (x:Int) (y:Int):Option Int:=
 (cmp_isNaN_int x).bind fun y1=>
 (cmp_isNaN_int y).bind fun y2=>
 bif y1 then
  bif y2 then
   some (0:Int)
  else
   some (-1:Int)
 else
  bif y2 then
   some (1:Int)
  else
   bif (decide (x<y)) then
    some (-1:Int)
   else
    bif (decide (y<x)) then
     some (1:Int)
    else
     some (0:Int)
noncomputable def cmp_Or_int_j1  : Option Int:=
 some (0:Int)
noncomputable def cmp_Or_int_l2 (vals:List Int):Int→Option (Int⊕(Unit⊕Int)):=
 fun v=>
  bif (decide (v<(vals.length:Int))) then
   req ((0≤v∧v<(vals.length:Int))) <|
   bif ((ix vals v) != (0:Int)) then
    some (.inr (.inr (ix vals v)))
   else
    some (.inl (IntKind.i64.wrap (v+(1:Int))))
  else
   some (.inr (.inl ()))
noncomputable def cmp_Or_int (vals:List Int):Option Int:=
 (iter (cmp_Or_int_l2 vals) (0:Int)).bind fun x_=>
 match x_ with
 | .inl ()=>cmp_Or_int_j1
 | .inr t_=>some t_
noncomputable def zP1 (x:zf9) (e:zX9):Option Int:=
 (cmp_Compare_int x.Entry.Candidate e.Candidate).bind fun y=>
 (cmp_Compare_int x.Entry.Paper e.Paper).bind fun y1=>
 (cmp_Or_int ([y,y1])).bind fun y2=>
 some y2
noncomputable def zq9 (x:List zf9) (target:zX9) (i:Int):Option (Int×Bool):=
 req (((decide (i<(x.length:Int)))=true→0≤i∧i<(x.length:Int))∧((decide (i<(x.length:Int)))=true→(zP1 (zf9.mk ((ix x i).Entry) ((ix x i).Late)) target).isSome=true)) <|
 some (i,((decide (i<(x.length:Int)))&&(((zP1 (zf9.mk ((ix x i).Entry) ((ix x i).Late)) target).getD default)==(0:Int))))
noncomputable def zl9 (x:List zf9) (target:zX9):(Int×Int)→Option ((Int×Int)⊕Int):=
 fun (i1,j)=>
  bif (decide (i1<j)) then
   bindV (IntKind.i64.wrap (bShr .u64 (IntKind.u64.wrap (IntKind.i64.wrap (i1+j))) (1:Int))) fun h=>
   req ((0≤h∧h<(x.length:Int))) <|
   (zP1 (zf9.mk ((ix x h).Entry) ((ix x h).Late)) target).bind fun y=>
   bif (decide (y<(0:Int))) then
    some (.inl ((IntKind.i64.wrap (h+(1:Int))),j))
   else
    some (.inl (i1,h))
  else
   some (.inr i1)
noncomputable def zm9 (x:List zf9) (target:zX9):Option (Int×Bool):=
 (iter (zl9 x target) ((0:Int),(x.length:Int))).bind fun i2=>
 zq9 x target i2
def toEnr (x:zf9):Go.Proofs.Enr:=(x.Entry.Candidate,x.Entry.Centre,x.Entry.Paper,x.Late)
def ofEnr (x:Go.Proofs.Enr):zf9:=⟨⟨x.1,x.2.1,x.2.2.1⟩,x.2.2.2⟩
noncomputable def entry_step (l:List zf9) (d:zY9) (e:zg9):Option (List zf9×Int):=
 (entry_validEvent e).bind fun vE=>(zm9 l e.Entry).bind fun p=>
 req (l.length≤250∧0≤p.1∧p.1≤(l.length:Int)∧(p.2=true→p.1<(l.length:Int))) <|
 some ((Go.Proofs.stepE vE p.1.toNat p.2 (l.map toEnr) d.Close d.Late fun i=>(evE e).getD i 0).1.map ofEnr,(Go.Proofs.stepE vE p.1.toNat p.2 (l.map toEnr) d.Close d.Late fun i=>(evE e).getD i 0).2)
noncomputable def entry_Fold_j1 (enrolments:List zf9) (refused:List zu9):Option ((List zf9)×(List zu9)×Int):=
 some (enrolments,refused,(0:Int))
noncomputable def entry_Fold_j2 (v:Int) (enrolments3:List zf9) (refused3:List zu9):Option (((List zf9)×Int×(List zu9))⊕((List zf9)×(List zu9))):=
 some (.inl (enrolments3,(IntKind.i64.wrap (v+(1:Int))),refused3))
noncomputable def entry_Fold_l3 (d:zY9) (until_:Int) (y1:List zg9):((List zf9)×Int×(List zu9))→Option (((List zf9)×Int×(List zu9))⊕((List zf9)×(List zu9))):=
 fun (enrolments1,v,refused1)=>
  bif (decide (v<(y1.length:Int))) then
   req ((0≤v∧v<(y1.length:Int))) <|
   bif (decide (until_<((ix y1 v).Stamp).Time)) then
    some (.inr (enrolments1,refused1))
   else
    (entry_step enrolments1 d (zg9.mk ((ix y1 v).Stamp) ((ix y1 v).Kind) ((ix y1 v).Entry) ((ix y1 v).To))).bind fun (y3,y4)=>
    bif (y4 != (0:Int)) then
     req ((refused1.length+([(zu9.mk (api_Identity.mk (((ix y1 v).Stamp).Source) (((ix y1 v).Stamp).Seq)) y4)]).length)*24≤140737488355328) <|
     bindV (refused1++[(zu9.mk (api_Identity.mk (((ix y1 v).Stamp).Source) (((ix y1 v).Stamp).Seq)) y4)]) fun refused4=>
     entry_Fold_j2 v enrolments1 refused4
    else
     entry_Fold_j2 v y3 refused1
  else
   some (.inr (enrolments1,refused1))
noncomputable def entry_Fold (l:List zg9) (d:zY9) (until_:Int):Option ((List zf9)×(List zu9)×Int):=
 (entry_validDeadlines d).bind fun y=>
 bif (!y) then
  some (([]:List zf9),([]:List zu9),(1:Int))
 else
  (entry_Canonical l).bind fun (y1,y2)=>
  bif (y2 != (0:Int)) then
   some (([]:List zf9),([]:List zu9),y2)
  else
   (iter (entry_Fold_l3 d until_ y1) (([]:List zf9),(0:Int),([]:List zu9))).bind fun (enrolments2,refused2)=>
   entry_Fold_j1 enrolments2 refused2
noncomputable def attendance_Check_j1  : Option Int:=
 some (0:Int)
noncomputable def attendance_Check_l2 (l:List zf9):Int→Option (Int⊕(Unit⊕Int)):=
 fun i=>
  bif (decide (i<(l.length:Int))) then
   req ((0≤(IntKind.i64.wrap (i - (1:Int)))∧(IntKind.i64.wrap (i - (1:Int)))<(l.length:Int))∧(0≤i∧i<(l.length:Int))) <|
   bif (decide (((ix l i).Entry).Candidate≤((ix l (IntKind.i64.wrap (i - (1:Int)))).Entry).Candidate)) then
    some (.inr (.inr (5:Int)))
   else
    some (.inl (IntKind.i64.wrap (i+(1:Int))))
  else
   some (.inr (.inl ()))
noncomputable def attendance_Check_j3 (l:List zf9):Option Int:=
 (iter (attendance_Check_l2 l) (1:Int)).bind fun x_=>
 match x_ with
 | .inl ()=>attendance_Check_j1
 | .inr t_=>some t_
noncomputable def attendance_Check_l4 (l:List zf9):Int→Option (Int⊕(Unit⊕Int)):=
 fun v=>
  bif (decide (v<(l.length:Int))) then
   req ((0≤v∧v<(l.length:Int))) <|
   bif ((((decide (((ix l v).Entry).Candidate<(0:Int)))||(decide ((9999:Int)<((ix l v).Entry).Candidate)))||(decide (((ix l v).Entry).Centre<(1:Int))))||(decide ((99:Int)<((ix l v).Entry).Centre))) then
    some (.inr (.inr (2:Int)))
   else
    some (.inl (IntKind.i64.wrap (v+(1:Int))))
  else
   some (.inr (.inl ()))
noncomputable def attendance_Check (l:List zf9):Option Int:=
 bif (decide ((60:Int)<(l.length:Int))) then
  some (3:Int)
 else
  (iter (attendance_Check_l4 l) (0:Int)).bind fun x_=>
  match x_ with
  | .inl ()=>attendance_Check_j3 l
  | .inr t_=>some t_
noncomputable def attendance_Canonical_f1 (e:ze9):Option zB9:=
 some e.Stamp
noncomputable def attendance_Same (a:ze9) (b:ze9):Option Bool:=
 some ((a.Stamp.Time==b.Stamp.Time)&&((a.Stamp.Source==b.Stamp.Source)&&((a.Stamp.Seq==b.Stamp.Seq)&&((a.Kind==b.Kind)&&((a.Candidate==b.Candidate)&&(a.Minutes==b.Minutes))))))
def evR (x:ze9):List Int:=[x.Stamp.Time,x.Stamp.Source,x.Stamp.Seq,x.Kind,x.Candidate,x.Minutes]
noncomputable def zv9 (l:List ze9):Option (List Int×Int):=
 req (l.length≤300∧∀x∈l,Go.Proofs.stOK (x.Stamp.Time,x.Stamp.Source,x.Stamp.Seq)) <| some ((canonIdx l.length (fun i=>st3 (evR (l.getD i default))) (fun i j=>decide (l.getD i default=l.getD j default)) vldS).map (fun i:Nat=>(i:Int)),0)
noncomputable def attendance_Canonical_j1 (w:List ze9):Option ((List ze9)×Int):=
 some (w,(0:Int))
noncomputable def attendance_Canonical_l2 (l:List ze9) (y:List Int):(Int×(List ze9))→Option ((Int×(List ze9))⊕(List ze9)):=
 fun (v,w1)=>
  bif (decide (v<(y.length:Int))) then
   req ((0≤v∧v<(y.length:Int))) <|
   req ((0≤(ix y v)∧(ix y v)<(l.length:Int))∧(0≤v∧v<(w1.length:Int))) <|
   bindV (setI w1 v (ze9.mk ((ix l (ix y v)).Stamp) ((ix l (ix y v)).Kind) ((ix l (ix y v)).Candidate) ((ix l (ix y v)).Minutes))) fun w3=>
   some (.inl ((IntKind.i64.wrap (v+(1:Int))),w3))
  else
   some (.inr w1)
noncomputable def attendance_Canonical (l:List ze9):Option ((List ze9)×Int):=
 (zv9 l).bind fun (y,y1)=>
 bif (y1 != (0:Int)) then
  some (([]:List ze9),y1)
 else
  req ((0≤(y.length:Int)∧(y.length:Int)*48≤140737488355328)) <|
  (iter (attendance_Canonical_l2 l y) ((0:Int),(rep (y.length:Int) (ze9.mk (zB9.mk (0:Int) (0:Int) (0:Int)) (0:Int) (0:Int) (0:Int))))).bind fun w2=>
  attendance_Canonical_j1 w2
noncomputable def zb1 (x:zf9) (candidate:Int):Option Int:=
 (cmp_Compare_int x.Entry.Candidate candidate).bind fun y=>
 some y
noncomputable def zs9 (x:List zf9) (target:Int) (i:Int):Option (Int×Bool):=
 req (((decide (i<(x.length:Int)))=true→0≤i∧i<(x.length:Int))∧((decide (i<(x.length:Int)))=true→(zb1 (zf9.mk ((ix x i).Entry) ((ix x i).Late)) target).isSome=true)) <|
 some (i,((decide (i<(x.length:Int)))&&(((zb1 (zf9.mk ((ix x i).Entry) ((ix x i).Late)) target).getD default)==(0:Int))))
noncomputable def zp9 (x:List zf9) (target:Int):(Int×Int)→Option ((Int×Int)⊕Int):=
 fun (i1,j)=>
  bif (decide (i1<j)) then
   bindV (IntKind.i64.wrap (bShr .u64 (IntKind.u64.wrap (IntKind.i64.wrap (i1+j))) (1:Int))) fun h=>
   req ((0≤h∧h<(x.length:Int))) <|
   (zb1 (zf9.mk ((ix x h).Entry) ((ix x h).Late)) target).bind fun y=>
   bif (decide (y<(0:Int))) then
    some (.inl ((IntKind.i64.wrap (h+(1:Int))),j))
   else
    some (.inl (i1,h))
  else
   some (.inr i1)
noncomputable def zi9 (x:List zf9) (target:Int):Option (Int×Bool):=
 (iter (zp9 x target) ((0:Int),(x.length:Int))).bind fun i2=>
 zs9 x target i2
def ofAt (a:Go.Proofs.At):zD9:=⟨a.1,a.2.1,a.2.2.1,a.2.2.2.1,a.2.2.2.2⟩
def toAt (a:zD9):Go.Proofs.At:=(a.Candidate,a.State,a.Late,a.Left,a.Incidents)
def ofRef (r:Int×Int×Int):zu9:=⟨⟨r.1,r.2.1⟩,r.2.2⟩
noncomputable def plcA (enrolled:List zf9) (c:Int):Nat×Bool:=(((zi9 enrolled c).getD default).1.toNat,((zi9 enrolled c).getD default).2)
noncomputable def zq1 (enrolled:List zf9) (l:List ze9) (until_:Int):Option (List zD9×List zu9×Int):=
 (attendance_Check enrolled).bind fun ck=>(attendance_Canonical l).bind fun p=>
 req (ck=0∧p.2=0∧enrolled.length≤250∧p.1.length≤1000∧∀c:Int,∃q,zi9 enrolled c=some q∧0≤q.1∧(q.2=true→q.1<(enrolled.length:Int))) <|
 some ((foldRL (enrolled.map toEnr) (plcA enrolled) until_ (p.1.map fun y=>regOf (evR y))).1.map ofAt,(foldRL (enrolled.map toEnr) (plcA enrolled) until_ (p.1.map fun y=>regOf (evR y))).2.map ofRef,0)
noncomputable def entry_Paper_j1 (found:List zf9):Option (List zf9):=
 some found
noncomputable def entry_Paper_j2 (v:Int) (found3:List zf9):Option ((Int×(List zf9))⊕(List zf9)):=
 some (.inl ((IntKind.i64.wrap (v+(1:Int))),found3))
noncomputable def entry_Paper_l3 (l:List zf9) (paper:Int):(Int×(List zf9))→Option ((Int×(List zf9))⊕(List zf9)):=
 fun (v,found1)=>
  bif (decide (v<(l.length:Int))) then
   req ((0≤v∧v<(l.length:Int))) <|
   bif (((ix l v).Entry).Paper==paper) then
    req ((found1.length+([(zf9.mk ((ix l v).Entry) ((ix l v).Late))]).length)*32≤140737488355328) <|
    entry_Paper_j2 v (found1++[(zf9.mk ((ix l v).Entry) ((ix l v).Late))])
   else
    entry_Paper_j2 v found1
  else
   some (.inr found1)
noncomputable def entry_Paper (l:List zf9) (paper:Int):Option (List zf9):=
 (iter (entry_Paper_l3 l paper) ((0:Int),([]:List zf9))).bind fun found2=>
 entry_Paper_j1 found2
noncomputable def custody_Canonical_f1 (e:zh9):Option zB9:=
 some e.Stamp
noncomputable def slices_Equal_intint_j1  : Option Bool:=
 some true
noncomputable def slices_Equal_intint_l2 (s1:List Int) (s2:List Int):Int→Option (Int⊕(Unit⊕Bool)):=
 fun v=>
  bif (decide (v<(s1.length:Int))) then
   req ((0≤v∧v<(s1.length:Int))∧(0≤v∧v<(s2.length:Int))) <|
   bif ((ix s1 v) != (ix s2 v)) then
    some (.inr (.inr false))
   else
    some (.inl (IntKind.i64.wrap (v+(1:Int))))
  else
   some (.inr (.inl ()))
noncomputable def zc1 (s1:List Int) (s2:List Int):Option Bool:=
 bif ((s1.length:Int) != (s2.length:Int)) then
  some false
 else
  (iter (slices_Equal_intint_l2 s1 s2) (0:Int)).bind fun x_=>
  match x_ with
  | .inl ()=>slices_Equal_intint_j1
  | .inr t_=>some t_
noncomputable def custody_Same (a:zh9) (b:zh9):Option Bool:=
 req (((((((((a.Stamp.Time==b.Stamp.Time)&&((a.Stamp.Source==b.Stamp.Source)&&(a.Stamp.Seq==b.Stamp.Seq)))&&(a.Kind==b.Kind))&&(a.Bag==b.Bag))&&(a.Seal==b.Seal))&&(a.From==b.From))&&(a.To==b.To))=true→(zc1 a.Candidates b.Candidates).isSome=true)) <|
 some ((((((((a.Stamp.Time==b.Stamp.Time)&&((a.Stamp.Source==b.Stamp.Source)&&(a.Stamp.Seq==b.Stamp.Seq)))&&(a.Kind==b.Kind))&&(a.Bag==b.Bag))&&(a.Seal==b.Seal))&&(a.From==b.From))&&(a.To==b.To))&&((zc1 a.Candidates b.Candidates).getD default))
def evB (x:zh9):List Int:=[x.Stamp.Time,x.Stamp.Source,x.Stamp.Seq,x.Kind,x.Bag,x.Seal,x.From,x.To]
noncomputable def zy9 (l:List zh9):Option (List Int×Int):=
 req (l.length≤300∧(∀x∈l,Go.Proofs.stOK (x.Stamp.Time,x.Stamp.Source,x.Stamp.Seq))∧∀x∈l,∀y∈l,custody_Same x y=some (decide (x=y))) <| some ((canonIdx l.length (fun i=>st3 (evB (l.getD i default))) (fun i j=>decide (l.getD i default=l.getD j default)) vldS).map (fun i:Nat=>(i:Int)),0)
def clone60_:Nat:=0
end Go.LS
