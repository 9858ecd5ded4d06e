/-
  Plain functions that the program's functions compute. No condition: definitions, printed by dec.py.
-/
import Derived.Test.YtmgjidfafnajnaaGreatD1
namespace Go.LS
set_option linter.all false
set_option linter.unusedSimpArgs false
set_option linter.unusedVariables false
set_option maxRecDepth 20000
noncomputable def custody_Canonical_j1 (w1:List zh9):Option ((List zh9)×Int):=
 some (w1,(0:Int))
noncomputable def custody_Canonical_l2 (l:List zh9) (y:List Int):(Int×(List zh9))→Option ((Int×(List zh9))⊕(List zh9)):=
 fun (v,w2)=>
  bif (decide (v<(y.length:Int))) then
   req ((0≤v∧v<(y.length:Int))) <|
   req ((0≤(ix y v)∧(ix y v)<(l.length:Int))∧(0≤v∧v<(w2.length:Int))) <|
   bindV (setI w2 v (zh9.mk ((ix l (ix y v)).Stamp) ((ix l (ix y v)).Kind) ((ix l (ix y v)).Bag) ((ix l (ix y v)).Seal) ((ix l (ix y v)).From) ((ix l (ix y v)).To) ((ix l (ix y v)).Candidates))) fun w4=>
   req ((0≤(ix y v)∧(ix y v)<(l.length:Int))) <|
   (slices_Clone_intint ((ix l (ix y v)).Candidates)).bind fun y2=>
   req ((0≤v∧v<(w4.length:Int))) <|
   bindV (setI w4 v (zh9.mk ((ix w4 v).Stamp) ((ix w4 v).Kind) ((ix w4 v).Bag) ((ix w4 v).Seal) ((ix w4 v).From) ((ix w4 v).To) y2)) fun w5=>
   some (.inl ((IntKind.i64.wrap (v+(1:Int))),w5))
  else
   some (.inr w2)
noncomputable def custody_Canonical (l:List zh9):Option ((List zh9)×Int):=
 (zy9 l).bind fun (y,y1)=>
 bif (y1 != (0:Int)) then
  some (([]:List zh9),y1)
 else
  req ((0≤(y.length:Int)∧(y.length:Int)*88≤140737488355328)) <|
  bindV (rep (y.length:Int) (zh9.mk (zB9.mk (0:Int) (0:Int) (0:Int)) (0:Int) (0:Int) (0:Int) (0:Int) (0:Int) ([]:List Int))) fun w=>
  (iter (custody_Canonical_l2 l y) ((0:Int),w)).bind fun w3=>
  custody_Canonical_j1 w3
noncomputable def zK1 (n:Int):Option Bool:=
 some ((decide ((0:Int)≤n))&&(decide (n≤(9999:Int))))
noncomputable def zJ1 (n:Int):Option Bool:=
 some ((decide ((0:Int)≤n))&&(decide (n≤(1000000:Int))))
noncomputable def zo1 (n:Int):Option Bool:=
 some ((decide ((0:Int)≤n))&&(decide (n≤(99:Int))))
noncomputable def custody_sorted_j1  : Option Bool:=
 some true
noncomputable def zS1 (l:List Int):Int→Option (Int⊕(Unit⊕Bool)):=
 fun v=>
  bif (decide (v<(l.length:Int))) then
   req ((0≤v∧v<(l.length:Int))) <|
   req ((((!((decide ((ix l v)<(0:Int)))||(decide ((9999:Int)<(ix l v)))))&&(decide ((0:Int)<v)))=true→0≤(IntKind.i64.wrap (v - (1:Int)))∧(IntKind.i64.wrap (v - (1:Int)))<(l.length:Int))) <|
   bif (((decide ((ix l v)<(0:Int)))||(decide ((9999:Int)<(ix l v))))||((decide ((0:Int)<v))&&(decide ((ix l v)≤(ix l (IntKind.i64.wrap (v - (1:Int)))))))) then
    some (.inr (.inr false))
   else
    some (.inl (IntKind.i64.wrap (v+(1:Int))))
  else
   some (.inr (.inl ()))
noncomputable def custody_sorted (l:List Int):Option Bool:=
 bif (decide ((60:Int)<(l.length:Int))) then
  some false
 else
  (iter (zS1 l) (0:Int)).bind fun x_=>
  match x_ with
  | .inl ()=>custody_sorted_j1
  | .inr t_=>some t_
noncomputable def zw1 (e:zh9) (v:Bool):Option Bool:=
 bif v then
  (custody_sorted e.Candidates).bind fun y1=>
  some (!y1)
 else
  some false
noncomputable def zN1 (e:zh9):Option Bool:=
 req (((!((decide (e.Kind<(1:Int)))||(decide ((4:Int)<e.Kind))))=true→(zK1 e.Bag).isSome=true)∧((!(((decide (e.Kind<(1:Int)))||(decide ((4:Int)<e.Kind)))||(!((zK1 e.Bag).getD default))))=true→(zJ1 e.Seal).isSome=true)∧((!((((decide (e.Kind<(1:Int)))||(decide ((4:Int)<e.Kind)))||(!((zK1 e.Bag).getD default)))||(!((zJ1 e.Seal).getD default))))=true→(zo1 e.From).isSome=true)) <|
 bif (((((decide (e.Kind<(1:Int)))||(decide ((4:Int)<e.Kind)))||(!((zK1 e.Bag).getD default)))||(!((zJ1 e.Seal).getD default)))||(!((zo1 e.From).getD default))) then
  some true
 else
  bif (e.Kind==(2:Int)) then
   (zo1 e.To).bind fun y=>
   some (!y)
  else
   bif (e.Kind==(1:Int)) then
    zw1 e (e.Kind==(1:Int))
   else
    zw1 e (e.Kind==(3:Int))
noncomputable def zz1 (b:api_Bag) (n:Int):Option Int:=
 (cmp_Compare_int b.Bag n).bind fun y=>
 some y
noncomputable def zw9 (x:List api_Bag) (target:Int) (i:Int):Option (Int×Bool):=
 req (((decide (i<(x.length:Int)))=true→0≤i∧i<(x.length:Int))∧((decide (i<(x.length:Int)))=true→(zz1 (ix x i) target).isSome=true)) <|
 some (i,((decide (i<(x.length:Int)))&&(((zz1 (ix x i) target).getD default)==(0:Int))))
noncomputable def zr9 (x:List api_Bag) (target:Int):(Int×Int)→Option ((Int×Int)⊕Int):=
 fun (i1,j)=>
  bif (decide (i1<j)) then
   bindV (IntKind.i64.wrap (bShr .u64 (IntKind.u64.wrap (IntKind.i64.wrap (i1+j))) (1:Int))) fun h=>
   req ((0≤h∧h<(x.length:Int))) <|
   (zz1 (ix x h) target).bind fun y=>
   bif (decide (y<(0:Int))) then
    some (.inl ((IntKind.i64.wrap (h+(1:Int))),j))
   else
    some (.inl (i1,h))
  else
   some (.inr i1)
noncomputable def zt9 (x:List api_Bag) (target:Int):Option (Int×Bool):=
 (iter (zr9 x target) ((0:Int),(x.length:Int))).bind fun i2=>
 zw9 x target i2
def toBg (b:api_Bag):Go.Proofs.Bg:=(b.Bag,b.Holder,b.Open,b.Seals,b.Packed,b.Found)
def ofBg (y:Go.Proofs.Bg):api_Bag:=⟨y.1,y.2.1,y.2.2.1,y.2.2.2.1,y.2.2.2.2.1,y.2.2.2.2.2⟩
def toEvt (e:zh9):Evt:=⟨e.Stamp.Time,e.Stamp.Source,e.Stamp.Seq,e.Kind,e.Bag,e.Seal,e.From,e.To,e.Candidates⟩
noncomputable def custody_step (l:List api_Bag) (e:zh9):Option (List api_Bag×Int):=
 (zN1 e).bind fun rng=>(zt9 l e.Bag).bind fun p=>
 req (l.length≤250∧(∀b∈l,0<b.Seals.length∧b.Seals.length≤1000∧b.Packed.length≤1000∧b.Found.length≤1000)∧e.Candidates.length≤1000∧0≤p.1∧p.1≤(l.length:Int)∧(p.2=true→p.1<(l.length:Int))) <|
 some ((stepL' rng p.2 p.1.toNat (l.map toBg) (toEvt e)).1.map ofBg,(stepL' rng p.2 p.1.toNat (l.map toBg) (toEvt e)).2)
noncomputable def custody_Fold_j1 (bags:List api_Bag) (refused:List zu9):Option ((List api_Bag)×(List zu9)×Int):=
 some (bags,refused,(0:Int))
noncomputable def custody_Fold_j2 (v:Int) (bags3:List api_Bag) (refused3:List zu9):Option (((List api_Bag)×Int×(List zu9))⊕((List api_Bag)×(List zu9))):=
 some (.inl (bags3,(IntKind.i64.wrap (v+(1:Int))),refused3))
noncomputable def custody_Fold_l3 (until_:Int) (y:List zh9):((List api_Bag)×Int×(List zu9))→Option (((List api_Bag)×Int×(List zu9))⊕((List api_Bag)×(List zu9))):=
 fun (bags1,v,refused1)=>
  bif (decide (v<(y.length:Int))) then
   req ((0≤v∧v<(y.length:Int))) <|
   bif (decide (until_<((ix y v).Stamp).Time)) then
    some (.inr (bags1,refused1))
   else
    (custody_step bags1 (zh9.mk ((ix y v).Stamp) ((ix y v).Kind) ((ix y v).Bag) ((ix y v).Seal) ((ix y v).From) ((ix y v).To) ((ix y v).Candidates))).bind fun (y2,y3)=>
    bif (y3 != (0:Int)) then
     req ((refused1.length+([(zu9.mk (api_Identity.mk (((ix y v).Stamp).Source) (((ix y v).Stamp).Seq)) y3)]).length)*24≤140737488355328) <|
     bindV (refused1++[(zu9.mk (api_Identity.mk (((ix y v).Stamp).Source) (((ix y v).Stamp).Seq)) y3)]) fun refused4=>
     custody_Fold_j2 v bags1 refused4
    else
     custody_Fold_j2 v y2 refused1
  else
   some (.inr (bags1,refused1))
noncomputable def zT1 (l:List zh9) (until_:Int):Option ((List api_Bag)×(List zu9)×Int):=
 (custody_Canonical l).bind fun (y,y1)=>
 bif (y1 != (0:Int)) then
  some (([]:List api_Bag),([]:List zu9),y1)
 else
  (iter (custody_Fold_l3 until_ y) (([]:List api_Bag),(0:Int),([]:List zu9))).bind fun (bags2,refused2)=>
  custody_Fold_j1 bags2 refused2
noncomputable def ref06_Ints_j1  : Option Bool:=
 some true
noncomputable def ref06_Ints_l2 (a:List Int) (b:List Int):Int→Option (Int⊕(Unit⊕Bool)):=
 fun i=>
  bif (decide (i<(a.length:Int))) then
   req ((0≤i∧i<(a.length:Int))∧(0≤i∧i<(b.length:Int))) <|
   bif ((ix a i) != (ix b i)) then
    some (.inr (.inr false))
   else
    some (.inl (IntKind.i64.wrap (i+(1:Int))))
  else
   some (.inr (.inl ()))
noncomputable def zL9 (a:List Int) (b:List Int):Option Bool:=
 bif ((a.length:Int) != (b.length:Int)) then
  some false
 else
  (iter (ref06_Ints_l2 a b) (0:Int)).bind fun x_=>
  match x_ with
  | .inl ()=>ref06_Ints_j1
  | .inr t_=>some t_
noncomputable def ref17_SameBag (a:api_Bag) (b:api_Bag):Option Bool:=
 req (((((a.Bag==b.Bag)&&(a.Holder==b.Holder))&&(a.Open==b.Open))=true→(zL9 a.Seals b.Seals).isSome=true)∧(((((a.Bag==b.Bag)&&(a.Holder==b.Holder))&&(a.Open==b.Open))&&((zL9 a.Seals b.Seals).getD default))=true→(zL9 a.Packed b.Packed).isSome=true)∧((((((a.Bag==b.Bag)&&(a.Holder==b.Holder))&&(a.Open==b.Open))&&((zL9 a.Seals b.Seals).getD default))&&((zL9 a.Packed b.Packed).getD default))=true→(zL9 a.Found b.Found).isSome=true)) <|
 some ((((((a.Bag==b.Bag)&&(a.Holder==b.Holder))&&(a.Open==b.Open))&&((zL9 a.Seals b.Seals).getD default))&&((zL9 a.Packed b.Packed).getD default))&&((zL9 a.Found b.Found).getD default))
noncomputable def ref17_SameBags_j1  : Option Bool:=
 some true
noncomputable def ref17_SameBags_l2 (a:List api_Bag) (b:List api_Bag):Int→Option (Int⊕(Unit⊕Bool)):=
 fun i=>
  bif (decide (i<(a.length:Int))) then
   req ((0≤i∧i<(a.length:Int))∧(0≤i∧i<(b.length:Int))) <|
   (ref17_SameBag (ix a i) (ix b i)).bind fun y=>
   bif (!y) then
    some (.inr (.inr false))
   else
    some (.inl (IntKind.i64.wrap (i+(1:Int))))
  else
   some (.inr (.inl ()))
noncomputable def zO1 (a:List api_Bag) (b:List api_Bag):Option Bool:=
 bif ((a.length:Int) != (b.length:Int)) then
  some false
 else
  (iter (ref17_SameBags_l2 a b) (0:Int)).bind fun x_=>
  match x_ with
  | .inl ()=>ref17_SameBags_j1
  | .inr t_=>some t_
noncomputable def ref16_Same (a:zD9) (b:zD9):Option Bool:=
 req ((((((a.Candidate==b.Candidate)&&(a.State==b.State))&&(a.Late==b.Late))&&(a.Left==b.Left))=true→(zL9 a.Incidents b.Incidents).isSome=true)) <|
 some (((((a.Candidate==b.Candidate)&&(a.State==b.State))&&(a.Late==b.Late))&&(a.Left==b.Left))&&((zL9 a.Incidents b.Incidents).getD default))
noncomputable def attendance_Present_j1 (found:List Int):Option (List Int):=
 some found
noncomputable def zW1 (v:Int) (found3:List Int):Option ((Int×(List Int))⊕(List Int)):=
 some (.inl ((IntKind.i64.wrap (v+(1:Int))),found3))
noncomputable def zV1 (l:List zD9):(Int×(List Int))→Option ((Int×(List Int))⊕(List Int)):=
 fun (v,found1)=>
  bif (decide (v<(l.length:Int))) then
   req ((0≤v∧v<(l.length:Int))) <|
   bif ((ix l v).State==(1:Int)) then
    req ((found1.length+([(ix l v).Candidate]).length)*8≤140737488355328) <|
    zW1 v (found1++[(ix l v).Candidate])
   else
    zW1 v found1
  else
   some (.inr found1)
noncomputable def attendance_Present (l:List zD9):Option (List Int):=
 (iter (zV1 l) ((0:Int),([]:List Int))).bind fun found2=>
 attendance_Present_j1 found2
noncomputable def custody_Account (l:List api_Bag) (expected:List Int):Option (List Int×List Int×List Int×List Int):=
 req (l.length≤1000∧(∀b∈l,(b.Packed.length≤1000∧∀c∈b.Packed,Go.Proofs.in64 c)∧(b.Found.length≤1000∧∀c∈b.Found,Go.Proofs.in64 c))∧expected.length≤1000∧∀c∈expected,Go.Proofs.in64 c) <|
 some (Go.Proofs.accL (packsL (l.map toBg)) (opensL (l.map toBg)) (foundsL (l.map toBg)) expected 0,Go.Proofs.accL (packsL (l.map toBg)) (opensL (l.map toBg)) (foundsL (l.map toBg)) expected 1,Go.Proofs.accL (packsL (l.map toBg)) (opensL (l.map toBg)) (foundsL (l.map toBg)) expected 2,Go.Proofs.accL (packsL (l.map toBg)) (opensL (l.map toBg)) (foundsL (l.map toBg)) expected 3)
noncomputable def attendance_Compare (l:List zD9) (scripts:List Int):Option (List Int×List Int):=
 req (l.length≤1000∧(∀a∈l,Go.Proofs.in64 a.Candidate)∧scripts.length≤1000∧∀x∈scripts,Go.Proofs.in64 x) <|
 some (cmpWo (l.map toAt) scripts,cmpDe (l.map toAt) scripts)
noncomputable def ref06_Has_j1  : Option Bool:=
 some false
noncomputable def ref06_Has_l2 (l:List Int) (n:Int):Int→Option (Int⊕(Unit⊕Bool)):=
 fun i=>
  bif (decide (i<(l.length:Int))) then
   req ((0≤i∧i<(l.length:Int))) <|
   bif ((ix l i)==n) then
    some (.inr (.inr true))
   else
    some (.inl (IntKind.i64.wrap (i+(1:Int))))
  else
   some (.inr (.inl ()))
noncomputable def ref06_Has (l:List Int) (n:Int):Option Bool:=
 (iter (ref06_Has_l2 l n) (0:Int)).bind fun x_=>
 match x_ with
 | .inl ()=>ref06_Has_j1
 | .inr t_=>some t_
noncomputable def top_awake17  : Option Bool:=
 (zq1 ([(zf9.mk (zX9.mk (1:Int) (2:Int) (0:Int)) false)]) ([(ze9.mk (zB9.mk (0:Int) (0:Int) (0:Int)) (1:Int) (1:Int) (0:Int))]) (9:Int)).bind fun (y,y1,y2)=>
 (zT1 ([(zh9.mk (zB9.mk (0:Int) (0:Int) (0:Int)) (1:Int) (0:Int) (0:Int) (2:Int) (0:Int) ([(1:Int)]))]) (9:Int)).bind fun (y3,y4,y5)=>
 (attendance_Present y).bind fun y6=>
 (custody_Account y3 y6).bind fun (y7,y8,y9,y10)=>
 req (((((y2==(0:Int))&&(y5==(0:Int)))&&((y7.length:Int)==(0:Int)))=true→(zL9 y8 ([(1:Int)])).isSome=true)) <|
 some ((((y2==(0:Int))&&(y5==(0:Int)))&&((y7.length:Int)==(0:Int)))&&((zL9 y8 ([(1:Int)])).getD default))
noncomputable def make_New_j1 (l1:List Int):Option zk9:=
 some (zk9.mk l1 (0:Int))
noncomputable def make_New (l:List Int):Option zk9:=
 bif (decide ((600:Int)<(l.length:Int))) then
  req ((0≤(600:Int)∧(600:Int)≤(l.length:Int))) <|
  make_New_j1 (List.take (600:Int).toNat l)
 else
  make_New_j1 l
noncomputable def make_Cut_j1 (x1:Int):Option Int:=
 some x1
noncomputable def make_Cut (x:Int) (n:Int):Option Int:=
 bif (decide (n<(1:Int))) then
  some (0:Int)
 else
  req (n≠0) <|
  bif (decide ((Int.tmod x n)<(0:Int))) then
   make_Cut_j1 (IntKind.i64.wrap ((Int.tmod x n)+n))
  else
   make_Cut_j1 (Int.tmod x n)
noncomputable def make_Tape_Raw (t:zk9):Option (Int×zk9):=
 bif (decide ((t.L.length:Int)≤t.At)) then
  some ((0:Int),t)
 else
  req ((0≤(IntKind.i64.wrap ((IntKind.i64.wrap (t.At+(1:Int))) - (1:Int)))∧(IntKind.i64.wrap ((IntKind.i64.wrap (t.At+(1:Int))) - (1:Int)))<(t.L.length:Int))) <|
  bindV (ix t.L (IntKind.i64.wrap ((IntKind.i64.wrap (t.At+(1:Int))) - (1:Int)))) fun v=>
  some (v,(zk9.mk t.L (IntKind.i64.wrap (t.At+(1:Int)))))
noncomputable def zC9 (t:zk9) (n:Int):Option (Int×zk9):=
 (make_Tape_Raw t).bind fun (y,y1)=>
 (make_Cut y n).bind fun y2=>
 some (y2,y1)
noncomputable def zK9 (t:zk9) (low:Int) (high:Int):Option (Int×zk9):=
 (zC9 t (IntKind.i64.wrap ((IntKind.i64.wrap (high - low))+(1:Int)))).bind fun (y,y1)=>
 some ((IntKind.i64.wrap (low+y)),y1)
noncomputable def zy1 (t:zk9) (n:Int):Option (Bool×zk9):=
 (zC9 t n).bind fun (y,y1)=>
 some ((y==(IntKind.i64.wrap (n - (1:Int)))),y1)
noncomputable def zR9 (t:zk9) (l:List Int):Option (Int×zk9):=
 (zC9 t (l.length:Int)).bind fun (y,y1)=>
 req ((0≤y∧y<(l.length:Int))) <|
 some ((ix l y),y1)
noncomputable def zH1 (t:zk9):Option (Int×zk9):=
 (zR9 t ([(-1:Int),(0:Int),(1:Int),(2:Int),(31:Int),(32:Int),(99:Int),(100:Int),(200:Int),(201:Int),(9999:Int),(10000:Int),(1000000:Int),(1000001:Int),(1152921504606846976:Int),(1152921504606846977:Int),(-1152921504606846976:Int),(9223372036854775807:Int),(-9223372036854775808:Int)])).bind fun (y,y1)=>
 some (y,y1)
noncomputable def zB1 (t1:List Int) (t2:Int) (d:Int) (d1:Int):Option (zY9×zk9):=
 some ((zY9.mk d d1),(zk9.mk t1 t2))
noncomputable def make_Tape_Deadlines (t:zk9) (n:Int):Option (zY9×zk9):=
 (zK9 t (4:Int) (14:Int)).bind fun (y,y1)=>
 (zC9 y1 (10:Int)).bind fun (y2,y3)=>
 bif (decide ((0:Int)<n)) then
  (zy1 y3 n).bind fun (y4,y5)=>
  bif y4 then
   (zH1 y5).bind fun (y6,y7)=>
   (zH1 y7).bind fun (y8,y9)=>
   zB1 y9.L y9.At y6 y8
  else
   zB1 y5.L y5.At y (IntKind.i64.wrap (y+y2))
 else
  zB1 y3.L y3.At y (IntKind.i64.wrap (y+y2))
noncomputable def zA1 (t1:List Int) (t2:Int) (s:Int) (s1:Int) (s2:Int):Option (zB9×zk9):=
 some ((zB9.mk s s1 s2),(zk9.mk t1 t2))
noncomputable def make_Tape_Stamp (t:zk9) (n:Int):Option (zB9×zk9):=
 (zK9 t (0:Int) (24:Int)).bind fun (y,y1)=>
 (zK9 y1 (0:Int) (3:Int)).bind fun (y2,y3)=>
 (zK9 y3 (0:Int) (9:Int)).bind fun (y4,y5)=>
 bif (decide ((0:Int)<n)) then
  (zy1 y5 n).bind fun (y6,y7)=>
  bif y6 then
   (zC9 y7 (3:Int)).bind fun (y8,y9)=>
   bif (y8==(0:Int)) then
    (zH1 y9).bind fun (y10,y11)=>
    zA1 y11.L y11.At y10 y2 y4
   else
    bif (y8==(1:Int)) then
     (zH1 y9).bind fun (y12,y13)=>
     zA1 y13.L y13.At y y12 y4
    else
     (zH1 y9).bind fun (y14,y15)=>
     zA1 y15.L y15.At y y2 y14
  else
   zA1 y7.L y7.At y y2 y4
 else
  zA1 y5.L y5.At y y2 y4
noncomputable def make_Tape_EntryEvents_j1 (t1:List Int) (t2:Int) (out:List zg9):Option ((List zg9)×zk9):=
 some (out,(zk9.mk t1 t2))
noncomputable def zv1 (i:Int) (t7:List Int) (t8:Int) (out3:List zg9):Option ((Int×(List Int)×Int×(List zg9))⊕((List Int)×Int×(List zg9))):=
 some (.inl ((IntKind.i64.wrap (i - (1:Int))),t7,t8,out3))
noncomputable def zF9 (i:Int) (out1:List zg9) (t13:List Int) (t14:Int) (e2:Int) (e3:Int) (e4:Int) (e5:Int) (e6:Int) (e7:Int) (e8:Int) (e9:Int):Option ((Int×(List Int)×Int×(List zg9))⊕((List Int)×Int×(List zg9))):=
 req ((out1.length+([(zg9.mk (zB9.mk e2 e3 e4) e5 (zX9.mk e6 e7 e8) e9)]).length)*64≤140737488355328) <|
 bindV (out1++[(zg9.mk (zB9.mk e2 e3 e4) e5 (zX9.mk e6 e7 e8) e9)]) fun out4=>
 (zy1 (zk9.mk t13 t14) (8:Int)).bind fun (y12,y13)=>
 bif y12 then
  (zC9 y13 (out4.length:Int)).bind fun (y14,y15)=>
  req ((0≤y14∧y14<(out4.length:Int))∧(out4.length+([(zg9.mk ((ix out4 y14).Stamp) ((ix out4 y14).Kind) ((ix out4 y14).Entry) ((ix out4 y14).To))]).length)*64≤140737488355328) <|
  bindV (out4++[(zg9.mk ((ix out4 y14).Stamp) ((ix out4 y14).Kind) ((ix out4 y14).Entry) ((ix out4 y14).To))]) fun out5=>
  zv1 i y15.L y15.At out5
 else
  zv1 i y13.L y13.At out4
noncomputable def zu1 (n:Int) (i:Int) (out1:List zg9) (y2:Int) (y4:Int) (y6:Int) (y8:Int) (y10:Int) (e:Int) (t11:List Int) (t12:Int) (e1:Int):Option ((Int×(List Int)×Int×(List zg9))⊕((List Int)×Int×(List zg9))):=
 bif (decide ((0:Int)<n)) then
  (zy1 (zk9.mk t11 t12) n).bind fun (y16,y17)=>
  bif y16 then
   (zC9 y17 (6:Int)).bind fun (y18,y19)=>
   bif (y18==(0:Int)) then
    (zK9 y19 (-1:Int) (4:Int)).bind fun (y20,y21)=>
    zF9 i out1 y21.L y21.At y4 e (out1.length:Int) y20 y8 y2 y10 e1
   else
    bif (y18==(1:Int)) then
     (zH1 y19).bind fun (y22,y23)=>
     zF9 i out1 y23.L y23.At y4 e (out1.length:Int) y6 y22 y2 y10 e1
    else
     bif (y18==(2:Int)) then
      (zR9 y19 ([(0:Int),(1:Int),(99:Int),(100:Int)])).bind fun (y24,y25)=>
      zF9 i out1 y25.L y25.At y4 e (out1.length:Int) y6 y8 y24 y10 e1
     else
      bif (y18==(3:Int)) then
       (zR9 y19 ([(-1:Int),(31:Int),(32:Int)])).bind fun (y26,y27)=>
       zF9 i out1 y27.L y27.At y4 e (out1.length:Int) y6 y8 y2 y26 e1
      else
       bif (y18==(4:Int)) then
        (make_Tape_Stamp y19 (4:Int)).bind fun (y28,y29)=>
        zF9 i out1 y29.L y29.At y28.Time y28.Source y28.Seq y6 y8 y2 y10 e1
       else
        (zR9 y19 ([(0:Int),(99:Int),(100:Int),y2])).bind fun (y30,y31)=>
        zF9 i out1 y31.L y31.At y4 e (out1.length:Int) y6 y8 y2 y10 y30
  else
   zF9 i out1 y17.L y17.At y4 e (out1.length:Int) y6 y8 y2 y10 e1
 else
  zF9 i out1 t11 t12 y4 e (out1.length:Int) y6 y8 y2 y10 e1
noncomputable def zt1 (n:Int) (i:Int) (out1:List zg9) (y2:Int) (y4:Int) (y6:Int) (y8:Int) (y10:Int) (t9:List Int) (t10:Int) (e:Int):Option ((Int×(List Int)×Int×(List zg9))⊕((List Int)×Int×(List zg9))):=
 bif (y6==(3:Int)) then
  (zC9 (zk9.mk t9 t10) (2:Int)).bind fun (y32,y33)=>
  (make_Cut (IntKind.i64.wrap (y2+y32)) (3:Int)).bind fun y34=>
  zu1 n i out1 y2 y4 y6 y8 y10 e y33.L y33.At (IntKind.i64.wrap ((1:Int)+y34))
 else
  zu1 n i out1 y2 y4 y6 y8 y10 e t9 t10 (0:Int)
noncomputable def zs1 (n:Int):(Int×(List Int)×Int×(List zg9))→Option ((Int×(List Int)×Int×(List zg9))⊕((List Int)×Int×(List zg9))):=
 fun (i,t3,t4,out1)=>
  bif (decide ((0:Int)<i)) then
   (zK9 (zk9.mk t3 t4) (1:Int) (3:Int)).bind fun (y2,y3)=>
   (zK9 y3 (0:Int) (24:Int)).bind fun (y4,y5)=>
   (zR9 y5 ([(1:Int),(1:Int),(1:Int),(2:Int),(3:Int)])).bind fun (y6,y7)=>
   (zC9 y7 (4:Int)).bind fun (y8,y9)=>
   (zC9 y9 (2:Int)).bind fun (y10,y11)=>
   (zy1 y11 (6:Int)).bind fun (y35,y36)=>
   bif y35 then
    zt1 n i out1 y2 y4 y6 y8 y10 y36.L y36.At (0:Int)
   else
    zt1 n i out1 y2 y4 y6 y8 y10 y36.L y36.At y2
  else
   some (.inr (t3,t4,out1))
noncomputable def zU1 (t:zk9) (most:Int) (n:Int):Option ((List zg9)×zk9):=
 (zK9 t (0:Int) most).bind fun (y,y1)=>
 (iter (zs1 n) (y,y1.L,y1.At,([]:List zg9))).bind fun (t5,t6,out2)=>
 make_Tape_EntryEvents_j1 t5 t6 out2
end Go.LS
