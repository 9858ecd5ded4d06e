/-
  Plain functions that the program's functions compute. No condition: definitions, printed by dec.py.
-/
import Derived.Test.YtmgjidfafnajnaaGreatD2
namespace Go.LS
set_option linter.all false
set_option linter.unusedSimpArgs false
set_option linter.unusedVariables false
set_option maxRecDepth 20000
noncomputable def make_Tape_RegisterEvents_j1 (t1:List Int) (t2:Int) (out:List ze9):Option ((List ze9)×zk9):=
 some (out,(zk9.mk t1 t2))
noncomputable def ze1 (i:Int) (t7:List Int) (t8:Int) (out3:List ze9):Option ((Int×(List Int)×Int×(List ze9))⊕((List Int)×Int×(List ze9))):=
 some (.inl ((IntKind.i64.wrap (i - (1:Int))),t7,t8,out3))
noncomputable def zG9 (i:Int) (out1:List ze9) (t9:List Int) (t10:Int) (e:Int) (e1:Int) (e2:Int) (e3:Int) (e4:Int) (e5:Int):Option ((Int×(List Int)×Int×(List ze9))⊕((List Int)×Int×(List ze9))):=
 req ((out1.length+([(ze9.mk (zB9.mk e e1 e2) e3 e4 e5)]).length)*48≤140737488355328) <|
 (zy1 (zk9.mk t9 t10) (8:Int)).bind fun (y12,y13)=>
 bif y12 then
  (zC9 y13 ((out1++[(ze9.mk (zB9.mk e e1 e2) e3 e4 e5)]).length:Int)).bind fun (y14,y15)=>
  req ((0≤y14∧y14<((out1++[(ze9.mk (zB9.mk e e1 e2) e3 e4 e5)]).length:Int))∧((out1++[(ze9.mk (zB9.mk e e1 e2) e3 e4 e5)]).length+([(ze9.mk ((ix (out1++[(ze9.mk (zB9.mk e e1 e2) e3 e4 e5)]) y14).Stamp) ((ix (out1++[(ze9.mk (zB9.mk e e1 e2) e3 e4 e5)]) y14).Kind) ((ix (out1++[(ze9.mk (zB9.mk e e1 e2) e3 e4 e5)]) y14).Candidate) ((ix (out1++[(ze9.mk (zB9.mk e e1 e2) e3 e4 e5)]) y14).Minutes))]).length)*48≤140737488355328) <|
  bindV ((out1++[(ze9.mk (zB9.mk e e1 e2) e3 e4 e5)])++[(ze9.mk ((ix (out1++[(ze9.mk (zB9.mk e e1 e2) e3 e4 e5)]) y14).Stamp) ((ix (out1++[(ze9.mk (zB9.mk e e1 e2) e3 e4 e5)]) y14).Kind) ((ix (out1++[(ze9.mk (zB9.mk e e1 e2) e3 e4 e5)]) y14).Candidate) ((ix (out1++[(ze9.mk (zB9.mk e e1 e2) e3 e4 e5)]) y14).Minutes))]) fun out4=>
  ze1 i y15.L y15.At out4
 else
  ze1 i y13.L y13.At (out1++[(ze9.mk (zB9.mk e e1 e2) e3 e4 e5)])
noncomputable def zd1 (n:Int):(Int×(List Int)×Int×(List ze9))→Option ((Int×(List Int)×Int×(List ze9))⊕((List Int)×Int×(List ze9))):=
 fun (i,t3,t4,out1)=>
  bif (decide ((0:Int)<i)) then
   (zK9 (zk9.mk t3 t4) (0:Int) (24:Int)).bind fun (y2,y3)=>
   (zR9 y3 ([(0:Int),(0:Int),(1:Int),(2:Int),(3:Int)])).bind fun (y4,y5)=>
   (zK9 y5 (1:Int) (5:Int)).bind fun (y6,y7)=>
   (zC9 y7 (5:Int)).bind fun (y8,y9)=>
   (zC9 y9 (60:Int)).bind fun (y10,y11)=>
   bif (decide ((0:Int)<n)) then
    (zy1 y11 n).bind fun (y16,y17)=>
    bif y16 then
     (zC9 y17 (4:Int)).bind fun (y18,y19)=>
     bif (y18==(0:Int)) then
      (zK9 y19 (-1:Int) (7:Int)).bind fun (y20,y21)=>
      zG9 i out1 y21.L y21.At y2 y4 (out1.length:Int) y20 y8 y10
     else
      bif (y18==(1:Int)) then
       (zH1 y19).bind fun (y22,y23)=>
       zG9 i out1 y23.L y23.At y2 y4 (out1.length:Int) y6 y22 y10
      else
       bif (y18==(2:Int)) then
        (zR9 y19 ([(-1:Int),(600:Int),(601:Int)])).bind fun (y24,y25)=>
        zG9 i out1 y25.L y25.At y2 y4 (out1.length:Int) y6 y8 y24
       else
        (make_Tape_Stamp y19 (4:Int)).bind fun (y26,y27)=>
        zG9 i out1 y27.L y27.At y26.Time y26.Source y26.Seq y6 y8 y10
    else
     zG9 i out1 y17.L y17.At y2 y4 (out1.length:Int) y6 y8 y10
   else
    zG9 i out1 y11.L y11.At y2 y4 (out1.length:Int) y6 y8 y10
  else
   some (.inr (t3,t4,out1))
noncomputable def zI1 (t:zk9) (most:Int) (n:Int):Option ((List ze9)×zk9):=
 (zK9 t (0:Int) most).bind fun (y,y1)=>
 (iter (zd1 n) (y,y1.L,y1.At,([]:List ze9))).bind fun (t5,t6,out2)=>
 make_Tape_RegisterEvents_j1 t5 t6 out2
noncomputable def make_Tape_Sorted_j1 (t1:List Int) (t2:Int) (out:List Int):Option ((List Int)×zk9):=
 some (out,(zk9.mk t1 t2))
noncomputable def make_Tape_Sorted_j2 (i:Int) (t7:List Int) (t8:Int) (out3:List Int):Option ((Int×(List Int)×Int×(List Int))⊕((List Int)×Int×(List Int))):=
 some (.inl ((IntKind.i64.wrap (i+(1:Int))),t7,t8,out3))
noncomputable def make_Tape_Sorted_l3 (n:Int):(Int×(List Int)×Int×(List Int))→Option ((Int×(List Int)×Int×(List Int))⊕((List Int)×Int×(List Int))):=
 fun (i,t3,t4,out1)=>
  bif (decide (i<n)) then
   (zC9 (zk9.mk t3 t4) (2:Int)).bind fun (y,y1)=>
   bif (y==(1:Int)) then
    req ((out1.length+([i]).length)*8≤140737488355328) <|
    make_Tape_Sorted_j2 i y1.L y1.At (out1++[i])
   else
    make_Tape_Sorted_j2 i y1.L y1.At out1
  else
   some (.inr (t3,t4,out1))
noncomputable def make_Tape_Sorted (t:zk9) (n:Int):Option ((List Int)×zk9):=
 (iter (make_Tape_Sorted_l3 n) ((0:Int),t.L,t.At,([]:List Int))).bind fun (t5,t6,out2)=>
 make_Tape_Sorted_j1 t5 t6 out2
noncomputable def make_Tape_BagEvents_j1 (t1:List Int) (t2:Int) (out:List zh9):Option ((List zh9)×zk9):=
 some (out,(zk9.mk t1 t2))
noncomputable def zE1 (i:Int) (t7:List Int) (t8:Int) (out3:List zh9) (w2:List Int) (w3:List Int):Option ((Int×(List Int)×Int×(List zh9)×(List Int)×(List Int))⊕((List Int)×Int×(List zh9))):=
 some (.inl ((IntKind.i64.wrap (i - (1:Int))),t7,t8,out3,w2,w3))
noncomputable def zH9 (i:Int) (out1:List zh9) (w4:List Int) (w5:List Int) (t11:List Int) (t12:Int) (e5:Int) (e6:Int) (e7:Int) (e8:Int) (e9:Int) (e10:Int) (e11:Int) (e12:Int) (w7:List Int):Option ((Int×(List Int)×Int×(List zh9)×(List Int)×(List Int))⊕((List Int)×Int×(List zh9))):=
 req ((out1.length+([(zh9.mk (zB9.mk e5 e6 e7) e8 e9 e10 e11 e12 w7)]).length)*88≤140737488355328) <|
 bindV (out1++[(zh9.mk (zB9.mk e5 e6 e7) e8 e9 e10 e11 e12 w7)]) fun out4=>
 (zy1 (zk9.mk t11 t12) (8:Int)).bind fun (y10,y11)=>
 bif y10 then
  (zC9 y11 (out4.length:Int)).bind fun (y12,y13)=>
  req ((0≤y12∧y12<(out4.length:Int))∧(out4.length+([(zh9.mk ((ix out4 y12).Stamp) ((ix out4 y12).Kind) ((ix out4 y12).Bag) ((ix out4 y12).Seal) ((ix out4 y12).From) ((ix out4 y12).To) ((ix out4 y12).Candidates))]).length)*88≤140737488355328) <|
  bindV (out4++[(zh9.mk ((ix out4 y12).Stamp) ((ix out4 y12).Kind) ((ix out4 y12).Bag) ((ix out4 y12).Seal) ((ix out4 y12).From) ((ix out4 y12).To) ((ix out4 y12).Candidates))]) fun out5=>
  zE1 i y13.L y13.At out5 w4 w5
 else
  zE1 i y11.L y11.At out4 w4 w5
noncomputable def zD1 (n:Int) (i:Int) (out1:List zh9) (y2:Int) (t9:List Int) (t10:Int) (e:Int) (e1:Int) (e2:Int) (e3:Int) (w4:List Int) (w5:List Int) (w6:List Int) (e4:Int):Option ((Int×(List Int)×Int×(List zh9)×(List Int)×(List Int))⊕((List Int)×Int×(List zh9))):=
 bif (decide ((0:Int)<n)) then
  (zy1 (zk9.mk t9 t10) n).bind fun (y14,y15)=>
  bif y14 then
   (zC9 y15 (7:Int)).bind fun (y16,y17)=>
   bif (y16==(0:Int)) then
    (zK9 y17 (-1:Int) (6:Int)).bind fun (y18,y19)=>
    zH9 i out1 w4 w5 y19.L y19.At (out1.length:Int) e4 (out1.length:Int) y18 y2 e1 e2 e3 w6
   else
    bif (y16==(1:Int)) then
     (zR9 y17 ([(-1:Int),(0:Int),(3:Int),(9999:Int),(10000:Int)])).bind fun (y20,y21)=>
     zH9 i out1 w4 w5 y21.L y21.At (out1.length:Int) e4 (out1.length:Int) e y20 e1 e2 e3 w6
    else
     bif (y16==(2:Int)) then
      (zR9 y17 ([(-1:Int),(0:Int),(10:Int),(1000000:Int),(1000001:Int)])).bind fun (y22,y23)=>
      zH9 i out1 w4 w5 y23.L y23.At (out1.length:Int) e4 (out1.length:Int) e y2 y22 e2 e3 w6
     else
      bif (y16==(3:Int)) then
       (zR9 y17 ([(-1:Int),(0:Int),(1:Int),(99:Int),(100:Int)])).bind fun (y24,y25)=>
       zH9 i out1 w4 w5 y25.L y25.At (out1.length:Int) e4 (out1.length:Int) e y2 e1 y24 e3 w6
      else
       bif (y16==(4:Int)) then
        (zR9 y17 ([(-1:Int),(0:Int),(1:Int),(99:Int),(100:Int)])).bind fun (y26,y27)=>
        zH9 i out1 w4 w5 y27.L y27.At (out1.length:Int) e4 (out1.length:Int) e y2 e1 e2 y26 w6
       else
        bif (y16==(5:Int)) then
         (zR9 y17 ([(0:Int),(9999:Int),(10000:Int),(-1:Int)])).bind fun (y28,y29)=>
         req ((w6.length+([y28]).length)*8≤140737488355328) <|
         zH9 i out1 w4 w5 y29.L y29.At (out1.length:Int) e4 (out1.length:Int) e y2 e1 e2 e3 (w6++[y28])
        else
         (make_Tape_Stamp y17 (4:Int)).bind fun (y30,y31)=>
         zH9 i out1 w4 w5 y31.L y31.At y30.Time y30.Source y30.Seq e y2 e1 e2 e3 w6
  else
   zH9 i out1 w4 w5 y15.L y15.At (out1.length:Int) e4 (out1.length:Int) e y2 e1 e2 e3 w6
 else
  zH9 i out1 w4 w5 t9 t10 (out1.length:Int) e4 (out1.length:Int) e y2 e1 e2 e3 w6
noncomputable def zW9 (n:Int) (i:Int) (out1:List zh9) (y2:Int) (y4:Int) (t9:List Int) (t10:Int) (e:Int) (e1:Int) (e2:Int) (e3:Int) (w4:List Int) (w5:List Int) (w6:List Int):Option ((Int×(List Int)×Int×(List zh9)×(List Int)×(List Int))⊕((List Int)×Int×(List zh9))):=
 bif (y4 != (0:Int)) then
  zD1 n i out1 y2 t9 t10 e e1 e2 e3 w4 w5 w6 (imax e2 (0:Int))
 else
  zD1 n i out1 y2 t9 t10 e e1 e2 e3 w4 w5 w6 y4
noncomputable def make_Tape_BagEvents_j6 (n:Int) (i:Int) (out1:List zh9) (w:List Int) (w1:List Int) (y2:Int) (y4:Int) (y32:Int) (y34:Int) (t13:List Int) (t14:Int) (w8:List Int):Option ((Int×(List Int)×Int×(List zh9)×(List Int)×(List Int))⊕((List Int)×Int×(List zh9))):=
 req ((0≤y2∧y2<(w.length:Int))∧(0≤y2∧y2<(w1.length:Int))) <|
 bindV (setI w1 y2 (IntKind.i64.wrap ((IntKind.i64.wrap ((10:Int)*y2))+y34))) fun w9=>
 zW9 n i out1 y2 y4 t13 t14 (1:Int) (IntKind.i64.wrap ((IntKind.i64.wrap ((10:Int)*y2))+y34)) y32 (0:Int) (setI w y2 y32) w9 w8
noncomputable def zn1 (c:Int) (t19:List Int) (t20:Int) (w12:List Int):Option ((Int×(List Int)×Int×(List Int))⊕((List Int)×Int×(List Int))):=
 some (.inl ((IntKind.i64.wrap (c+(1:Int))),t19,t20,w12))
noncomputable def zm1 (y2:Int):(Int×(List Int)×Int×(List Int))→Option ((Int×(List Int)×Int×(List Int))⊕((List Int)×Int×(List Int))):=
 fun (c,t15,t16,w10)=>
  bif (decide (c<(9:Int))) then
   (make_Cut c (3:Int)).bind fun y36=>
   bif (y36==y2) then
    (zC9 (zk9.mk t15 t16) (3:Int)).bind fun (y37,y38)=>
    bif (decide ((0:Int)<y37)) then
     req ((w10.length+([c]).length)*8≤140737488355328) <|
     zn1 c y38.L y38.At (w10++[c])
    else
     zn1 c y38.L y38.At w10
   else
    zn1 c t15 t16 w10
  else
   some (.inr (t15,t16,w10))
noncomputable def zC1 (n:Int):(Int×(List Int)×Int×(List zh9)×(List Int)×(List Int))→Option ((Int×(List Int)×Int×(List zh9)×(List Int)×(List Int))⊕((List Int)×Int×(List zh9))):=
 fun (i,t3,t4,out1,w,w1)=>
  bif (decide ((0:Int)<i)) then
   (zC9 (zk9.mk t3 t4) (3:Int)).bind fun (y2,y3)=>
   (zC9 y3 (2:Int)).bind fun (y4,y5)=>
   (zR9 y5 ([(2:Int),(2:Int),(3:Int),(4:Int)])).bind fun (y6,y7)=>
   req ((0≤y2∧y2<(w1.length:Int))∧(0≤y2∧y2<(w.length:Int))) <|
   (zR9 y7 ([(0:Int),(0:Int),(1:Int),(2:Int)])).bind fun (y8,y9)=>
   req ((0≤y2∧y2<(w.length:Int))) <|
   bif (decide ((ix w y2)<(0:Int))) then
    (zK9 y9 (1:Int) (3:Int)).bind fun (y32,y33)=>
    (zC9 y33 (4:Int)).bind fun (y34,y35)=>
    (iter (zm1 y2) ((0:Int),y35.L,y35.At,([]:List Int))).bind fun (t17,t18,w11)=>
    make_Tape_BagEvents_j6 n i out1 w w1 y2 y4 y32 y34 t17 t18 w11
   else
    bif (y6==(2:Int)) then
     req ((0≤y2∧y2<(w.length:Int))) <|
     zW9 n i out1 y2 y4 y9.L y9.At y6 (ix w1 y2) (ix w y2) y8 (setI w y2 y8) w1 ([]:List Int)
    else
     bif (y6==(4:Int)) then
      (zC9 y9 (40:Int)).bind fun (y39,y40)=>
      req ((0≤y2∧y2<(w1.length:Int))) <|
      zW9 n i out1 y2 y4 y40.L y40.At y6 (IntKind.i64.wrap ((100:Int)+y39)) (ix w y2) y8 w (setI w1 y2 (IntKind.i64.wrap ((100:Int)+y39))) ([]:List Int)
     else
      bif (y6==(3:Int)) then
       (make_Tape_Sorted y9 (9:Int)).bind fun (y41,y42)=>
       zW9 n i out1 y2 y4 y42.L y42.At y6 (ix w1 y2) (ix w y2) y8 w w1 y41
      else
       zW9 n i out1 y2 y4 y9.L y9.At y6 (ix w1 y2) (ix w y2) y8 w w1 ([]:List Int)
  else
   some (.inr (t3,t4,out1))
noncomputable def make_Tape_BagEvents (t:zk9) (most:Int) (n:Int):Option ((List zh9)×zk9):=
 (zK9 t (0:Int) most).bind fun (y,y1)=>
 (iter (zC1 n) (y,y1.L,y1.At,([]:List zh9),[(-1:Int),(-1:Int),(-1:Int)],[(0:Int),(0:Int),(0:Int)])).bind fun (t5,t6,out2)=>
 make_Tape_BagEvents_j1 t5 t6 out2
noncomputable def make_Tape_Order_j1 (out:List Int) (t1:List Int) (t2:Int):Option ((List Int)×zk9):=
 some (out,(zk9.mk t1 t2))
noncomputable def make_Tape_Order_l2 (n:Int):((List Int)×Int×(List Int)×Int)→Option (((List Int)×Int×(List Int)×Int)⊕((List Int)×(List Int)×Int)):=
 fun (out1,i,t3,t4)=>
  bif (decide (i<n)) then
   (zC9 (zk9.mk t3 t4) (IntKind.i64.wrap (i+(1:Int)))).bind fun (y,y1)=>
   req ((0≤y∧y≤(out1.length:Int))∧(([]:List Int).length+(List.take y.toNat out1).length)*8≤140737488355328) <|
   req (((([]:List Int)++(List.take y.toNat out1)).length+([i]).length)*8≤140737488355328) <|
   req ((0≤y∧y≤(out1.length:Int))∧(((([]:List Int)++(List.take y.toNat out1))++[i]).length+(List.drop y.toNat out1).length)*8≤140737488355328) <|
   bindV (((([]:List Int)++(List.take y.toNat out1))++[i])++(List.drop y.toNat out1)) fun next=>
   some (.inl (next,(IntKind.i64.wrap (i+(1:Int))),y1.L,y1.At))
  else
   some (.inr (out1,t3,t4))
noncomputable def make_Tape_Order (t:zk9) (n:Int):Option ((List Int)×zk9):=
 (iter (make_Tape_Order_l2 n) (([]:List Int),(0:Int),t.L,t.At)).bind fun (out2,t5,t6)=>
 make_Tape_Order_j1 out2 t5 t6
noncomputable def make_Tape_Mixed_j1 (out:List Int) (t1:List Int) (t2:Int):Option ((List Int)×zk9):=
 some (out,(zk9.mk t1 t2))
noncomputable def make_Tape_Mixed_l2 (n:Int):((List Int)×Int×(List Int)×Int)→Option (((List Int)×Int×(List Int)×Int)⊕((List Int)×(List Int)×Int)):=
 fun (out1,i,t3,t4)=>
  bif ((decide ((0:Int)<i))&&(decide ((0:Int)<n))) then
   (zC9 (zk9.mk t3 t4) (IntKind.i64.wrap ((out1.length:Int)+(1:Int)))).bind fun (y4,y5)=>
   (zC9 y5 n).bind fun (y6,y7)=>
   req ((0≤y4∧y4≤(out1.length:Int))∧(([]:List Int).length+(List.take y4.toNat out1).length)*8≤140737488355328) <|
   req (((([]:List Int)++(List.take y4.toNat out1)).length+([y6]).length)*8≤140737488355328) <|
   req ((0≤y4∧y4≤(out1.length:Int))∧(((([]:List Int)++(List.take y4.toNat out1))++[y6]).length+(List.drop y4.toNat out1).length)*8≤140737488355328) <|
   bindV (((([]:List Int)++(List.take y4.toNat out1))++[y6])++(List.drop y4.toNat out1)) fun next=>
   some (.inl (next,(IntKind.i64.wrap (i - (1:Int))),y7.L,y7.At))
  else
   some (.inr (out1,t3,t4))
noncomputable def make_Tape_Mixed (t:zk9) (n:Int):Option ((List Int)×zk9):=
 (make_Tape_Order t n).bind fun (y,y1)=>
 (zC9 y1 (4:Int)).bind fun (y2,y3)=>
 (iter (make_Tape_Mixed_l2 n) (y,y2,y3.L,y3.At)).bind fun (out2,t5,t6)=>
 make_Tape_Mixed_j1 out2 t5 t6
noncomputable def top_TopAccounted_j1  : Option Bool:=
 (top_awake17).bind fun y42=>
 some y42
noncomputable def top_TopAccounted_j2 (i:Int):Option (Int⊕(Unit⊕Bool)):=
 some (.inl (IntKind.i64.wrap (i+(1:Int))))
noncomputable def top_TopAccounted_j3 (y35:List Int) (y38:List Int) (y40:List Int) (i:Int) (n:Int):Option (Int⊕(Unit⊕Bool)):=
 req (((!(n != (1:Int)))=true→0≤i∧i<(y35.length:Int))∧((!(n != (1:Int)))=true→(ref06_Has y40 (ix y35 i)).isSome=true)∧((!(n != (1:Int)))=true→(ref06_Has y38 (ix y35 i)).isSome=true)) <|
 bif ((n != (1:Int))||(((ref06_Has y40 (ix y35 i)).getD default)==((ref06_Has y38 (ix y35 i)).getD default))) then
  some (.inr (.inr false))
 else
  top_TopAccounted_j2 i
noncomputable def top_TopAccounted_j4 (j:Int) (n3:Int):Option ((Int×Int)⊕Int):=
 some (.inl (n3,(IntKind.i64.wrap (j+(1:Int)))))
noncomputable def zx1 (y35:List Int) (y36:List Int) (y37:List Int) (y38:List Int) (y39:List Int) (i:Int):(Int×Int)→Option ((Int×Int)⊕Int):=
 fun (n1,j)=>
  bif (decide (j<(4:Int))) then
   req ((0≤j∧j<4)∧(0≤i∧i<(y35.length:Int))) <|
   (ref06_Has (ix [y36,y37,y38,y39] j) (ix y35 i)).bind fun y43=>
   bif y43 then
    top_TopAccounted_j4 j (IntKind.i64.wrap (n1+(1:Int)))
   else
    top_TopAccounted_j4 j n1
  else
   some (.inr n1)
noncomputable def top_TopAccounted_l6 (y35:List Int) (y36:List Int) (y37:List Int) (y38:List Int) (y39:List Int) (y40:List Int):Int→Option (Int⊕(Unit⊕Bool)):=
 fun i=>
  bif (decide (i<(y35.length:Int))) then
   (iter (zx1 y35 y36 y37 y38 y39 i) ((0:Int),(0:Int))).bind fun n2=>
   top_TopAccounted_j3 y35 y38 y40 i n2
  else
   some (.inr (.inl ()))
noncomputable def top_TopAccounted_j7 (y22:List zD9) (y29:List api_Bag):Option Bool:=
 (attendance_Present y22).bind fun y35=>
 (custody_Account y29 y35).bind fun (y36,y37,y38,y39)=>
 (attendance_Compare y22 y38).bind fun (y40,y41)=>
 bif ((((IntKind.i64.wrap ((IntKind.i64.wrap ((IntKind.i64.wrap ((y36.length:Int)+(y37.length:Int)))+(y38.length:Int)))+(y39.length:Int))) != (y35.length:Int))||((IntKind.i64.wrap ((y40.length:Int)+(y38.length:Int))) != (y35.length:Int)))||((y41.length:Int) != (0:Int))) then
  some false
 else
  (iter (top_TopAccounted_l6 y35 y36 y37 y38 y39 y40) (0:Int)).bind fun x_=>
  match x_ with
  | .inl ()=>top_TopAccounted_j1
  | .inr t_=>some t_
noncomputable def top_TopAccounted_l8 (y22:List zD9) (y26:List zD9):Int→Option (Int⊕(Unit⊕Bool)):=
 fun i1=>
  bif (decide (i1<(y22.length:Int))) then
   req ((0≤i1∧i1<(y22.length:Int))∧(0≤i1∧i1<(y26.length:Int))) <|
   (ref16_Same (ix y22 i1) (ix y26 i1)).bind fun y44=>
   req (((!(!y44))=true→0≤i1∧i1<(y22.length:Int))∧((!((!y44)||(decide ((ix y22 i1).State<(0:Int)))))=true→0≤i1∧i1<(y22.length:Int))) <|
   bif (((!y44)||(decide ((ix y22 i1).State<(0:Int))))||(decide ((2:Int)<(ix y22 i1).State))) then
    some (.inr (.inr false))
   else
    some (.inl (IntKind.i64.wrap (i1+(1:Int))))
  else
   some (.inr (.inl ()))
noncomputable def top_TopAccounted_j9 (y1:zY9) (y3:List zg9) (y5:List ze9) (y7:List zh9) (entries2:List zg9) (registers2:List ze9) (bags2:List zh9):Option Bool:=
 (entry_Fold y3 y1 (1000000:Int)).bind fun (y15,y16,y17)=>
 (entry_Fold entries2 y1 (1000000:Int)).bind fun (y18,y19,y20)=>
 (entry_Paper y15 (1:Int)).bind fun y21=>
 (zq1 y21 y5 (1000000:Int)).bind fun (y22,y23,y24)=>
 (entry_Paper y18 (1:Int)).bind fun y25=>
 (zq1 y25 registers2 (1000000:Int)).bind fun (y26,y27,y28)=>
 (zT1 y7 (1000000:Int)).bind fun (y29,y30,y31)=>
 (zT1 bags2 (1000000:Int)).bind fun (y32,y33,y34)=>
 req (((!(((((((y17 != (0:Int))||(y20 != (0:Int)))||(y24 != (0:Int)))||(y28 != (0:Int)))||(y31 != (0:Int)))||(y34 != (0:Int)))||((y22.length:Int) != (y26.length:Int))))=true→(entry_Paper y15 (1:Int)).isSome=true)∧((!((((((((y17 != (0:Int))||(y20 != (0:Int)))||(y24 != (0:Int)))||(y28 != (0:Int)))||(y31 != (0:Int)))||(y34 != (0:Int)))||((y22.length:Int) != (y26.length:Int)))||((y22.length:Int) != (((entry_Paper y15 (1:Int)).getD default).length:Int))))=true→(zO1 y29 y32).isSome=true)) <|
 bif (((((((((y17 != (0:Int))||(y20 != (0:Int)))||(y24 != (0:Int)))||(y28 != (0:Int)))||(y31 != (0:Int)))||(y34 != (0:Int)))||((y22.length:Int) != (y26.length:Int)))||((y22.length:Int) != (((entry_Paper y15 (1:Int)).getD default).length:Int)))||(!((zO1 y29 y32).getD default))) then
  some false
 else
  (iter (top_TopAccounted_l8 y22 y26) (0:Int)).bind fun x_=>
  match x_ with
  | .inl ()=>top_TopAccounted_j7 y22 y29
  | .inr t_=>some t_
noncomputable def top_TopAccounted_l10 (y7:List zh9) (y13:List Int):(Int×(List zh9))→Option ((Int×(List zh9))⊕(List zh9)):=
 fun (i2,bags21)=>
  bif (decide (i2<(y13.length:Int))) then
   req ((0≤i2∧i2<(y13.length:Int))∧(0≤(ix y13 i2)∧(ix y13 i2)<(y7.length:Int))∧(bags21.length+([(zh9.mk ((ix y7 (ix y13 i2)).Stamp) ((ix y7 (ix y13 i2)).Kind) ((ix y7 (ix y13 i2)).Bag) ((ix y7 (ix y13 i2)).Seal) ((ix y7 (ix y13 i2)).From) ((ix y7 (ix y13 i2)).To) ((ix y7 (ix y13 i2)).Candidates))]).length)*88≤140737488355328) <|
   bindV (bags21++[(zh9.mk ((ix y7 (ix y13 i2)).Stamp) ((ix y7 (ix y13 i2)).Kind) ((ix y7 (ix y13 i2)).Bag) ((ix y7 (ix y13 i2)).Seal) ((ix y7 (ix y13 i2)).From) ((ix y7 (ix y13 i2)).To) ((ix y7 (ix y13 i2)).Candidates))]) fun bags23=>
   some (.inl ((IntKind.i64.wrap (i2+(1:Int))),bags23))
  else
   some (.inr bags21)
noncomputable def top_TopAccounted_j11 (y1:zY9) (y3:List zg9) (y5:List ze9) (y7:List zh9) (y13:List Int) (entries2:List zg9) (registers2:List ze9):Option Bool:=
 (iter (top_TopAccounted_l10 y7 y13) ((0:Int),([]:List zh9))).bind fun bags22=>
 top_TopAccounted_j9 y1 y3 y5 y7 entries2 registers2 bags22
noncomputable def top_TopAccounted_l12 (y5:List ze9) (y11:List Int):(Int×(List ze9))→Option ((Int×(List ze9))⊕(List ze9)):=
 fun (i3,registers21)=>
  bif (decide (i3<(y11.length:Int))) then
   req ((0≤i3∧i3<(y11.length:Int))∧(0≤(ix y11 i3)∧(ix y11 i3)<(y5.length:Int))∧(registers21.length+([(ze9.mk ((ix y5 (ix y11 i3)).Stamp) ((ix y5 (ix y11 i3)).Kind) ((ix y5 (ix y11 i3)).Candidate) ((ix y5 (ix y11 i3)).Minutes))]).length)*48≤140737488355328) <|
   bindV (registers21++[(ze9.mk ((ix y5 (ix y11 i3)).Stamp) ((ix y5 (ix y11 i3)).Kind) ((ix y5 (ix y11 i3)).Candidate) ((ix y5 (ix y11 i3)).Minutes))]) fun registers23=>
   some (.inl ((IntKind.i64.wrap (i3+(1:Int))),registers23))
  else
   some (.inr registers21)
noncomputable def top_TopAccounted_j13 (y1:zY9) (y3:List zg9) (y5:List ze9) (y7:List zh9) (y11:List Int) (y13:List Int) (entries2:List zg9):Option Bool:=
 (iter (top_TopAccounted_l12 y5 y11) ((0:Int),([]:List ze9))).bind fun registers22=>
 top_TopAccounted_j11 y1 y3 y5 y7 y13 entries2 registers22
noncomputable def top_TopAccounted_l14 (y3:List zg9) (y9:List Int):(Int×(List zg9))→Option ((Int×(List zg9))⊕(List zg9)):=
 fun (i4,entries21)=>
  bif (decide (i4<(y9.length:Int))) then
   req ((0≤i4∧i4<(y9.length:Int))∧(0≤(ix y9 i4)∧(ix y9 i4)<(y3.length:Int))∧(entries21.length+([(zg9.mk ((ix y3 (ix y9 i4)).Stamp) ((ix y3 (ix y9 i4)).Kind) ((ix y3 (ix y9 i4)).Entry) ((ix y3 (ix y9 i4)).To))]).length)*64≤140737488355328) <|
   bindV (entries21++[(zg9.mk ((ix y3 (ix y9 i4)).Stamp) ((ix y3 (ix y9 i4)).Kind) ((ix y3 (ix y9 i4)).Entry) ((ix y3 (ix y9 i4)).To))]) fun entries23=>
   some (.inl ((IntKind.i64.wrap (i4+(1:Int))),entries23))
  else
   some (.inr entries21)
noncomputable def top_TopAccounted (t:List Int):Option Bool:=
 (make_New t).bind fun y=>
 (make_Tape_Deadlines y (0:Int)).bind fun (y1,y2)=>
 (zU1 y2 (10:Int) (8:Int)).bind fun (y3,y4)=>
 (zI1 y4 (10:Int) (8:Int)).bind fun (y5,y6)=>
 (make_Tape_BagEvents y6 (10:Int) (8:Int)).bind fun (y7,y8)=>
 (make_Tape_Mixed y8 (y3.length:Int)).bind fun (y9,y10)=>
 (make_Tape_Mixed y10 (y5.length:Int)).bind fun (y11,y12)=>
 (make_Tape_Mixed y12 (y7.length:Int)).bind fun (y13,y14)=>
 (iter (top_TopAccounted_l14 y3 y9) ((0:Int),([]:List zg9))).bind fun entries22=>
 top_TopAccounted_j13 y1 y3 y5 y7 y11 y13 entries22
end Go.LS
