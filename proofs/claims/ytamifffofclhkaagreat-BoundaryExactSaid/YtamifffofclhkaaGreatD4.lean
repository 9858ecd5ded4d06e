/-
  Plain functions that the program's functions compute. No condition: definitions, printed by dec.py.
-/
import Derived.Test.YtamifffofclhkaaGreatD3
namespace Go.LS
set_option linter.all false
set_option linter.unusedSimpArgs false
set_option linter.unusedVariables false
set_option maxRecDepth 20000

/-- awardingbody awardingbodyref01.Sub -/
noncomputable def ref01_Sub (a:api_Ratio) (b:api_Ratio):Option (api_Ratio × Int) :=
  (ref01_Valid a).bind fun y =>
  req (((!(!y))=true→(ref01_Valid b).isSome=true)) <|
  bif ((!y)||(!((ref01_Valid b).getD default))) then
    some ((api_Ratio.mk (0:Int) (0:Int)),(1:Int))
  else
    (ref01_Add a (api_Ratio.mk (IntKind.i64.wrap (0-b.Num)) b.Den)).bind fun (y1,y2) =>
    some (y1,y2)
/-- awardingbody awardingbodyref33.slope -/
noncomputable def ref33_slope (l:List api_Point) (i:Int):Option (api_Ratio × Bool) :=
  req ((0≤(IntKind.i64.wrap (i+(1:Int)))∧(IntKind.i64.wrap (i+(1:Int)))<(l.length:Int))∧(0≤i∧i<(l.length:Int))) <|
  (ref01_Sub ((ix l (IntKind.i64.wrap (i+(1:Int)))).Y) ((ix l i).Y)).bind fun (y,y1) =>
  req ((0≤(IntKind.i64.wrap (i+(1:Int)))∧(IntKind.i64.wrap (i+(1:Int)))<(l.length:Int))∧(0≤i∧i<(l.length:Int))) <|
  (ref01_Sub ((ix l (IntKind.i64.wrap (i+(1:Int)))).X) ((ix l i).X)).bind fun (y2,y3) =>
  bif ((y1 != (0:Int))||(y3 != (0:Int))) then
    some ((api_Ratio.mk (0:Int) (0:Int)),false)
  else
    (ref01_Div y y2).bind fun (y4,y5) =>
    some (y4,(y5==(0:Int)))
/-- awardingbody awardingbodyref01.Mul -/
noncomputable def ref01_Mul (a:api_Ratio) (b:api_Ratio):Option (api_Ratio × Int) :=
  (ref01_Valid a).bind fun y =>
  req (((!(!y))=true→(ref01_Valid b).isSome=true)) <|
  bif ((!y)||(!((ref01_Valid b).getD default))) then
    some ((api_Ratio.mk (0:Int) (0:Int)),(1:Int))
  else
    (ref01_Size a.Num).bind fun y1 =>
    (ref01_Size b.Num).bind fun y2 =>
    (ref01_Product y1 y2).bind fun y3 =>
    (ref01_Size a.Den).bind fun y4 =>
    (ref01_Size b.Den).bind fun y5 =>
    (ref01_Product y4 y5).bind fun y6 =>
    (ref01_Reduce (!((decide (a.Num<(0:Int)))==(decide (b.Num<(0:Int))))) y3 y6).bind fun (y7,y8) =>
    some (y7,y8)
/-- awardingbody awardingbodyref33.value -/
noncomputable def ref33_value_j1 (l:List api_Point) (x:api_Ratio) (i:Int):Option (api_Ratio × Bool) :=
  (ref33_slope l i).bind fun (y,y1) =>
  req ((0≤i∧i<(l.length:Int))) <|
  (ref01_Sub x ((ix l i).X)).bind fun (y2,y3) =>
  bif ((!y1)||(y3 != (0:Int))) then
    some ((api_Ratio.mk (0:Int) (0:Int)),false)
  else
    (ref01_Mul y2 y).bind fun (y4,y5) =>
    bif (y5 != (0:Int)) then
      some ((api_Ratio.mk (0:Int) (0:Int)),false)
    else
      req ((0≤i∧i<(l.length:Int))) <|
      (ref01_Add ((ix l i).Y) y4).bind fun (y6,y7) =>
      some (y6,(y7==(0:Int)))
noncomputable def ref33_value_l2 (l:List api_Point) (x:api_Ratio):Int→Option (Int ⊕ Int) :=
  fun i1 =>
    req (((decide ((IntKind.i64.wrap (i1+(2:Int)))<(l.length:Int)))=true→0≤(IntKind.i64.wrap (i1+(1:Int)))∧(IntKind.i64.wrap (i1+(1:Int)))<(l.length:Int))∧((decide ((IntKind.i64.wrap (i1+(2:Int)))<(l.length:Int)))=true→(ref01_Less ((ix l (IntKind.i64.wrap (i1+(1:Int)))).X) x).isSome=true)) <|
    bif ((decide ((IntKind.i64.wrap (i1+(2:Int)))<(l.length:Int)))&&((ref01_Less ((ix l (IntKind.i64.wrap (i1+(1:Int)))).X) x).getD default)) then
      some (.inl (IntKind.i64.wrap (i1+(1:Int))))
    else
      some (.inr i1)
noncomputable def ref33_value (l:List api_Point) (x:api_Ratio):Option (api_Ratio × Bool) :=
  (iter (ref33_value_l2 l x) (0:Int)).bind fun i2 =>
  ref33_value_j1 l x i2
/-- awardingbody awardingbodyref33.Eval -/
noncomputable def ref33_Eval (c:api_Curve) (x:api_Ratio):Option (api_Ratio × Int) :=
  (ref33_Valid c).bind fun y =>
  req (((!(!y))=true→(ref01_Valid x).isSome=true)) <|
  bif ((!y)||(!((ref01_Valid x).getD default))) then
    some ((api_Ratio.mk (0:Int) (0:Int)),(1:Int))
  else
    (ref33_value c.Points x).bind fun (y1,y2) =>
    bif (!y2) then
      some ((api_Ratio.mk (0:Int) (0:Int)),(6:Int))
    else
      some (y1,(0:Int))
/-- awardingbody awardingbodyref01.floor -/
noncomputable def ref01_floor_j1 (q:Int):Option Int :=
  some q
noncomputable def ref01_floor (n:Int) (d:Int):Option Int :=
  req (d ≠ 0) <|
  req (d ≠ 0) <|
  bif (decide ((Int.tmod n d)<(0:Int))) then
    ref01_floor_j1 (IntKind.i64.wrap ((IntKind.i64.wrap (Int.tdiv n d))-(1:Int)))
  else
    ref01_floor_j1 (IntKind.i64.wrap (Int.tdiv n d))
/-- awardingbody awardingbodyref01.Round -/
noncomputable def ref01_Round (a:api_Ratio):Option Int :=
  (ref01_Valid a).bind fun y =>
  bif (!y) then
    some (0:Int)
  else
    (ref01_floor (IntKind.i64.wrap ((IntKind.i64.wrap ((2:Int)*a.Num))+a.Den)) (IntKind.i64.wrap ((2:Int)*a.Den))).bind fun y1 =>
    some y1
/-- awardingbody awardingbodyref33.Convert -/
noncomputable def ref33_Convert (c:api_Curve) (mark:Int) (most:Int):Option (Int × Int) :=
  bif ((((decide (mark<(0:Int)))||(decide ((200:Int)<mark)))||(decide (most<(0:Int))))||(decide ((200:Int)<most))) then
    some ((0:Int),(2:Int))
  else
    (ref33_Eval c (api_Ratio.mk mark (1:Int))).bind fun (y,y1) =>
    bif (y1 != (0:Int)) then
      some ((0:Int),y1)
    else
      (ref01_Round y).bind fun y2 =>
      some ((imax (0:Int) (imin most y2)),(0:Int))
/-- awardingbody awardingbodyref35.Transfer -/
noncomputable def ref35_Transfer_j1 (out:List Int):Option ((List Int) × Int) :=
  some (out,(0:Int))
noncomputable def ref35_Transfer_j2 (i:Int) (out3:List Int):Option ((Int × (List Int)) ⊕ (List Int)) :=
  some (.inl ((IntKind.i64.wrap (i+(1:Int))),out3))
noncomputable def ref35_Transfer_j3 (i:Int) (out1:List Int) (m:Int):Option ((Int × (List Int)) ⊕ (List Int)) :=
  req ((out1.length+([m]).length)*8≤140737488355328) <|
  ref35_Transfer_j2 i (out1 ++ [m])
noncomputable def ref35_Transfer_l4 (b:List Int) (most:Int) (t:List Int) (i:Int):Int→Option (Int ⊕ Int) :=
  fun m1 =>
    req (((decide (m1≤most))=true→0≤m1∧m1<(t.length:Int))∧((decide (m1≤most))=true→0≤i∧i<(b.length:Int))) <|
    bif ((decide (m1≤most))&&(decide ((ix t m1)<(ix b i)))) then
      some (.inl (IntKind.i64.wrap (m1+(1:Int))))
    else
      some (.inr m1)
noncomputable def ref35_Transfer_l5 (b:List Int) (most:Int) (t:List Int):(Int × (List Int))→Option ((Int × (List Int)) ⊕ (List Int)) :=
  fun (i,out1) =>
    bif (decide (i<(b.length:Int))) then
      (iter (ref35_Transfer_l4 b most t i) (0:Int)).bind fun m2 =>
      ref35_Transfer_j3 i out1 m2
    else
      some (.inr out1)
noncomputable def ref35_Transfer_j6 (b:List Int) (most:Int) (t:List Int):Option ((List Int) × Int) :=
  (iter (ref35_Transfer_l5 b most t) ((0:Int),([]:List Int))).bind fun out2 =>
  ref35_Transfer_j1 out2
noncomputable def ref35_Transfer_l7 (c:api_Curve) (most:Int):(Int × (List Int))→Option ((Int × (List Int)) ⊕ ((List Int) ⊕ ((List Int) × Int))) :=
  fun (i1,t1) =>
    bif (decide (i1≤most)) then
      (ref33_Convert c i1 (200:Int)).bind fun (y1,y2) =>
      bif (y2 != (0:Int)) then
        some (.inr (.inr (([]:List Int),y2)))
      else
        req ((t1.length+([y1]).length)*8≤140737488355328) <|
        some (.inl ((IntKind.i64.wrap (i1+(1:Int))),(t1 ++ [y1])))
    else
      some (.inr (.inl t1))
noncomputable def ref35_Transfer (b:List Int) (c:api_Curve) (most:Int):Option ((List Int) × Int) :=
  bif ((decide (most<(0:Int)))||(decide ((200:Int)<most))) then
    some (([]:List Int),(2:Int))
  else
    (ref35_Check b (200:Int)).bind fun y =>
    bif (y != (0:Int)) then
      some (([]:List Int),y)
    else
      (iter (ref35_Transfer_l7 c most) ((0:Int),([]:List Int))).bind fun x_ =>
      match x_ with
      | .inl t2 => ref35_Transfer_j6 b most t2
      | .inr t_ => some t_
/-- awardingbody boundary.check -/
noncomputable def boundary_check (d:api_Distribution) (share:api_Ratio):Option Int :=
  (distribution_Valid d).bind fun y =>
  req (((!(!y))=true→(ratio_Valid share).isSome=true)) <|
  bif ((!y)||(!((ratio_Valid share).getD default))) then
    some (1:Int)
  else
    (distribution_Count d).bind fun y1 =>
    bif (y1==(0:Int)) then
      some (10:Int)
    else
      bif ((decide (share.Num<(0:Int)))||(decide (share.Den<share.Num))) then
        some (2:Int)
      else
        some (0:Int)
/-- awardingbody boundary.Share -/
noncomputable def boundary_Share_j1 :Option (Int × Int) :=
  some ((0:Int),(0:Int))
noncomputable def boundary_Share_l2 (share:api_Ratio) (y1:List Int):Int→Option (Int ⊕ (Unit ⊕ (Int × Int))) :=
  fun b =>
    bif (decide ((0:Int)<b)) then
      req ((0≤b∧b<(y1.length:Int))∧(0≤(0:Int)∧(0:Int)<(y1.length:Int))) <|
      (boundary_compareShare (ix y1 b) (ix y1 (0:Int)) share).bind fun y2 =>
      bif (decide ((0:Int)≤y2)) then
        some (.inr (.inr (b,(0:Int))))
      else
        some (.inl (IntKind.i64.wrap (b-(1:Int))))
    else
      some (.inr (.inl ()))
noncomputable def boundary_Share (d:api_Distribution) (share:api_Ratio):Option (Int × Int) :=
  (boundary_check d share).bind fun y =>
  bif (y != (0:Int)) then
    some ((0:Int),y)
  else
    (boundary_reaching d).bind fun y1 =>
    (iter (boundary_Share_l2 share y1) (IntKind.i64.wrap ((y1.length:Int)-(1:Int)))).bind fun x_ =>
    match x_ with
    | .inl () => boundary_Share_j1
    | .inr t_ => some t_
/-- awardingbody awardingbodyref32.Reaches -/
noncomputable def ref32_Reaches (n:Int) (m:Int) (share:api_Ratio):Option Bool :=
  (ref01_New n m).bind fun (y,y1) =>
  (ref01_Less y share).bind fun y2 =>
  some (!y2)
/-- awardingbody awardingbodyref35.Share -/
noncomputable def ref35_Share_j1 (b:Int):Option (Int × Int) :=
  some (b,(0:Int))
noncomputable def ref35_Share_l2 (d:api_Distribution) (share:api_Ratio):Int→Option (Int ⊕ Int) :=
  fun b1 =>
    (ref35_reached d b1).bind fun y1 =>
    (ref32_Count d).bind fun y2 =>
    (ref32_Reaches y1 y2 share).bind fun y3 =>
    bif (!y3) then
      some (.inl (IntKind.i64.wrap (b1-(1:Int))))
    else
      some (.inr b1)
noncomputable def ref35_Share (d:api_Distribution) (share:api_Ratio):Option (Int × Int) :=
  (ref35_wrong d share).bind fun y =>
  bif (y != (0:Int)) then
    some ((0:Int),y)
  else
    (iter (ref35_Share_l2 d share) (d.Counts.length:Int)).bind fun b2 =>
    ref35_Share_j1 b2
/-- awardingbody boundary.Nearest -/
noncomputable def boundary_Nearest (d:api_Distribution) (share:api_Ratio):Option (Int × Int) :=
  (boundary_check d share).bind fun y =>
  bif (y != (0:Int)) then
    some ((0:Int),y)
  else
    (boundary_nearest d share).bind fun y1 =>
    some (y1,(0:Int))
/-- awardingbody boundary.Interpolate -/
noncomputable def boundary_Interpolate_j1 (w:List Int):Option ((List Int) × Int) :=
  some (w,(0:Int))
noncomputable def boundary_Interpolate_l2 (high:Int) (low:Int) (steps:Int):(Int × (List Int))→Option ((Int × (List Int)) ⊕ (List Int)) :=
  fun (v,w1) =>
    bif (decide (v<((rep (IntKind.i64.wrap (steps+(1:Int))) (0:Int)).length:Int))) then
      req (steps ≠ 0∧(0≤v∧v<(w1.length:Int))) <|
      bindV (setI w1 v (IntKind.i64.wrap (high-(IntKind.i64.wrap (Int.tdiv (IntKind.i64.wrap ((IntKind.i64.wrap ((IntKind.i64.wrap (v*(IntKind.i64.wrap (high-low))))+steps))-(1:Int))) steps))))) fun w3 =>
      some (.inl ((IntKind.i64.wrap (v+(1:Int))),w3))
    else
      some (.inr w1)
noncomputable def boundary_Interpolate (high:Int) (low:Int) (steps:Int):Option ((List Int) × Int) :=
  bif (((((decide (low<(0:Int)))||(decide (high<low)))||(decide ((200:Int)<high)))||(decide (steps<(1:Int))))||(decide ((8:Int)<steps))) then
    some (([]:List Int),(2:Int))
  else
    req ((0≤(IntKind.i64.wrap (steps+(1:Int)))∧(IntKind.i64.wrap (steps+(1:Int)))*8≤140737488355328)) <|
    (iter (boundary_Interpolate_l2 high low steps) ((0:Int),(rep (IntKind.i64.wrap (steps+(1:Int))) (0:Int)))).bind fun w2 =>
    boundary_Interpolate_j1 w2
/-- awardingbody awardingbodyref35.Interpolate -/
noncomputable def ref35_Interpolate_j1 (out:List Int):Option ((List Int) × Int) :=
  some (out,(0:Int))
noncomputable def ref35_Interpolate_l2 (high:Int) (low:Int) (steps:Int):(Int × (List Int))→Option ((Int × (List Int)) ⊕ (List Int)) :=
  fun (i,out1) =>
    bif (decide (i≤steps)) then
      req (steps ≠ 0∧(out1.length+([(IntKind.i64.wrap (high-(IntKind.i64.wrap (Int.tdiv (IntKind.i64.wrap ((IntKind.i64.wrap ((IntKind.i64.wrap (i*(IntKind.i64.wrap (high-low))))+steps))-(1:Int))) steps))))]).length)*8≤140737488355328) <|
      bindV (out1 ++ [(IntKind.i64.wrap (high-(IntKind.i64.wrap (Int.tdiv (IntKind.i64.wrap ((IntKind.i64.wrap ((IntKind.i64.wrap (i*(IntKind.i64.wrap (high-low))))+steps))-(1:Int))) steps))))]) fun out3 =>
      some (.inl ((IntKind.i64.wrap (i+(1:Int))),out3))
    else
      some (.inr out1)
noncomputable def ref35_Interpolate (high:Int) (low:Int) (steps:Int):Option ((List Int) × Int) :=
  bif (((((decide (low<(0:Int)))||(decide (high<low)))||(decide ((200:Int)<high)))||(decide (steps<(1:Int))))||(decide ((8:Int)<steps))) then
    some (([]:List Int),(2:Int))
  else
    (iter (ref35_Interpolate_l2 high low steps) ((0:Int),([]:List Int))).bind fun out2 =>
    ref35_Interpolate_j1 out2
/-- awardingbody awardingbodymark.Light -/
noncomputable def mark_Light (l:List Int):Option Bool :=
  some (decide ((l.length:Int)≤(600:Int)))
/-- awardingbody awardingbodylaw35.sane -/
noncomputable def law35_sane :Option Bool :=
  (boundary_Share (api_Distribution.mk ([(1:Int),(1:Int),(1:Int),(1:Int)])) (api_Ratio.mk (1:Int) (2:Int))).bind fun (y,y1) =>
  (boundary_Share (api_Distribution.mk ([(1:Int),(1:Int),(1:Int),(1:Int)])) (api_Ratio.mk (0:Int) (1:Int))).bind fun (y2,y3) =>
  (boundary_Interpolate (70:Int) (40:Int) (4:Int)).bind fun (y4,y5) =>
  (boundary_Tally (api_Distribution.mk ([(1:Int),(1:Int),(1:Int),(1:Int)])) ([(3:Int),(1:Int)])).bind fun (y6,y7) =>
  req ((((((((y1==(0:Int))&&(y3==(0:Int)))&&(y5==(0:Int)))&&(y7==(0:Int)))&&(y==(2:Int)))&&(y2==(4:Int)))=true→(law35_same y4 ([(70:Int),(62:Int),(55:Int),(47:Int),(40:Int)])).isSome=true)∧((((((((y1==(0:Int))&&(y3==(0:Int)))&&(y5==(0:Int)))&&(y7==(0:Int)))&&(y==(2:Int)))&&(y2==(4:Int)))&&((law35_same y4 ([(70:Int),(62:Int),(55:Int),(47:Int),(40:Int)])).getD default))=true→(law35_same y6 ([(1:Int),(2:Int),(1:Int)])).isSome=true)∧(((((((((y1==(0:Int))&&(y3==(0:Int)))&&(y5==(0:Int)))&&(y7==(0:Int)))&&(y==(2:Int)))&&(y2==(4:Int)))&&((law35_same y4 ([(70:Int),(62:Int),(55:Int),(47:Int),(40:Int)])).getD default))&&((law35_same y6 ([(1:Int),(2:Int),(1:Int)])).getD default))=true→(boundary_Grade ([(3:Int),(1:Int)]) (2:Int)).isSome=true)∧((((((((((y1==(0:Int))&&(y3==(0:Int)))&&(y5==(0:Int)))&&(y7==(0:Int)))&&(y==(2:Int)))&&(y2==(4:Int)))&&((law35_same y4 ([(70:Int),(62:Int),(55:Int),(47:Int),(40:Int)])).getD default))&&((law35_same y6 ([(1:Int),(2:Int),(1:Int)])).getD default))&&(((boundary_Grade ([(3:Int),(1:Int)]) (2:Int)).getD default)==(1:Int)))=true→(boundary_Check ([(3:Int),(1:Int)]) (3:Int)).isSome=true)) <|
  some ((((((((((y1==(0:Int))&&(y3==(0:Int)))&&(y5==(0:Int)))&&(y7==(0:Int)))&&(y==(2:Int)))&&(y2==(4:Int)))&&((law35_same y4 ([(70:Int),(62:Int),(55:Int),(47:Int),(40:Int)])).getD default))&&((law35_same y6 ([(1:Int),(2:Int),(1:Int)])).getD default))&&(((boundary_Grade ([(3:Int),(1:Int)]) (2:Int)).getD default)==(1:Int)))&&(((boundary_Check ([(3:Int),(1:Int)]) (3:Int)).getD default)==(0:Int)))
/-- awardingbody awardingbodymark.Roll -/
noncomputable def mark_Roll (l:List Int):Option mark_Dice :=
  some (mark_Dice.mk l (0:Int))
/-- (ptr awardingbody awardingbodymark.Dice).Pick -/
noncomputable def mark_Dice_Pick (d:mark_Dice) (l:List Int):Option (Int × mark_Dice) :=
  (mark_Dice_Next d (l.length:Int)).bind fun (y,y1) =>
  req ((0≤y∧y<(l.length:Int))) <|
  some ((ix l y),y1)
/-- (ptr awardingbody awardingbodymark.Dice).Distribution -/
noncomputable def mark_Dice_Distribution_j1 (d1:List Int) (d2:Int) (w:List Int):Option (api_Distribution × mark_Dice) :=
  some ((api_Distribution.mk w),(mark_Dice.mk d1 d2))
noncomputable def mark_Dice_Distribution_l2 (least:Int):(Int × (List Int) × Int × (List Int))→Option ((Int × (List Int) × Int × (List Int)) ⊕ ((List Int) × Int × (List Int))) :=
  fun (i,d3,d4,w1) =>
    bif (decide ((0:Int)<i)) then
      (mark_Dice_Pick (mark_Dice.mk d3 d4) ([(0:Int),(1:Int),(2:Int),(5:Int),(0:Int)])).bind fun (y2,y3) =>
      req ((w1.length+([(IntKind.i64.wrap (least+y2))]).length)*8≤140737488355328) <|
      some (.inl ((IntKind.i64.wrap (i-(1:Int))),y3.L,y3.At,(w1 ++ [(IntKind.i64.wrap (least+y2))])))
    else
      some (.inr (d3,d4,w1))
noncomputable def mark_Dice_Distribution_j3 (d:mark_Dice) (n:Int) (least:Int):Option (api_Distribution × mark_Dice) :=
  (mark_Dice_Next d (IntKind.i64.wrap (n+(1:Int)))).bind fun (y,y1) =>
  (iter (mark_Dice_Distribution_l2 least) ((IntKind.i64.wrap ((1:Int)+y)),y1.L,y1.At,([]:List Int))).bind fun (d5,d6,w2) =>
  mark_Dice_Distribution_j1 d5 d6 w2
noncomputable def mark_Dice_Distribution (d:mark_Dice) (n:Int) (full:Bool):Option (api_Distribution × mark_Dice) :=
  bif full then
    mark_Dice_Distribution_j3 d n (1:Int)
  else
    mark_Dice_Distribution_j3 d n (0:Int)
/-- (ptr awardingbody awardingbodymark.Dice).Bounds -/
noncomputable def mark_Dice_Bounds_j1 (d1:List Int) (d2:Int) (out:List Int):Option ((List Int) × mark_Dice) :=
  some (out,(mark_Dice.mk d1 d2))
noncomputable def mark_Dice_Bounds_l2 :(Int × Int × (List Int) × Int × (List Int))→Option ((Int × Int × (List Int) × Int × (List Int)) ⊕ ((List Int) × Int × (List Int))) :=
  fun (b,i,d3,d4,out1) =>
    bif (decide ((0:Int)<i)) then
      (mark_Dice_Next (mark_Dice.mk d3 d4) (IntKind.i64.wrap ((IntKind.i64.wrap (Int.tdiv b (2:Int)))+(1:Int)))).bind fun (y2,y3) =>
      req ((out1.length+([(IntKind.i64.wrap (b-y2))]).length)*8≤140737488355328) <|
      some (.inl ((IntKind.i64.wrap (b-y2)),(IntKind.i64.wrap (i-(1:Int))),y3.L,y3.At,(out1 ++ [(IntKind.i64.wrap (b-y2))])))
    else
      some (.inr (d3,d4,out1))
noncomputable def mark_Dice_Bounds (d:mark_Dice) (most:Int):Option ((List Int) × mark_Dice) :=
  (mark_Dice_Next d (4:Int)).bind fun (y,y1) =>
  (iter (mark_Dice_Bounds_l2) ((IntKind.i64.wrap (most+(1:Int))),(IntKind.i64.wrap ((1:Int)+y)),y1.L,y1.At,([]:List Int))).bind fun (d5,d6,out2) =>
  mark_Dice_Bounds_j1 d5 d6 out2
/-- awardingbody awardingbodylaw35.BoundaryExact -/
noncomputable def law35_BoundaryExact_j1 :Option Bool :=
  (law35_sane).bind fun y11 =>
  some y11
noncomputable def law35_BoundaryExact_l2 (m:Int) (most:Int) (y12:Int) (y14:Int) (y16:Int) (y18:Int):Int→Option (Int ⊕ (Unit ⊕ Bool)) :=
  fun v =>
    bif (decide (v<(3:Int))) then
      req ((0≤v∧v<3)) <|
      bindV (ix (ix [[m,most,y12],[y14,y16,(IntKind.i64.wrap ((1:Int)+y18))],[(70:Int),(40:Int),(3:Int)]] v) (0:Int)) fun k =>
      bindV (ix (ix [[m,most,y12],[y14,y16,(IntKind.i64.wrap ((1:Int)+y18))],[(70:Int),(40:Int),(3:Int)]] v) (1:Int)) fun k1 =>
      bindV (ix (ix [[m,most,y12],[y14,y16,(IntKind.i64.wrap ((1:Int)+y18))],[(70:Int),(40:Int),(3:Int)]] v) (2:Int)) fun k2 =>
      (boundary_Interpolate k k1 k2).bind fun (y20,y21) =>
      (ref35_Interpolate k k1 k2).bind fun (y22,y23) =>
      (law35_same y20 y22).bind fun y24 =>
      bif ((!y24)||(y21 != y23)) then
        some (.inr (.inr false))
      else
        some (.inl (IntKind.i64.wrap (v+(1:Int))))
    else
      some (.inr (.inl ()))
noncomputable def law35_BoundaryExact_j3 (m:Int) (most:Int) (w2:List Int) (w3:Int):Option Bool :=
  (mark_Dice_Next (mark_Dice.mk w2 w3) (11:Int)).bind fun (y12,y13) =>
  (mark_Dice_Next y13 (200:Int)).bind fun (y14,y15) =>
  (mark_Dice_Next y15 (80:Int)).bind fun (y16,y17) =>
  (mark_Dice_Next y17 (9:Int)).bind fun (y18,y19) =>
  (iter (law35_BoundaryExact_l2 m most y12 y14 y16 y18) (0:Int)).bind fun x_ =>
  match x_ with
  | .inl () => law35_BoundaryExact_j1
  | .inr t_ => some t_
noncomputable def law35_BoundaryExact_j4 (v1:Int) (w8:List Int) (w9:Int):Option ((Int × (List Int) × Int) ⊕ (((List Int) × Int) ⊕ Bool)) :=
  some (.inl ((IntKind.i64.wrap (v1+(1:Int))),w8,w9))
noncomputable def law35_BoundaryExact_l5 (x:api_Distribution) (share:api_Ratio) (y3:api_Distribution) (y5:api_Distribution) (v1:Int) (y25:Int):Int→Option (Int ⊕ (Unit ⊕ ((Int × (List Int) × Int) ⊕ (((List Int) × Int) ⊕ Bool)))) :=
  fun v2 =>
    bif (decide (v2<(4:Int))) then
      req ((0≤v2∧v2<4)) <|
      bindV ((ix [share,(api_Ratio.mk (1:Int) (3:Int)),(api_Ratio.mk y25 (3:Int)),(api_Ratio.mk (1:Int) (2:Int))] v2).Num) fun s =>
      bindV ((ix [share,(api_Ratio.mk (1:Int) (3:Int)),(api_Ratio.mk y25 (3:Int)),(api_Ratio.mk (1:Int) (2:Int))] v2).Den) fun s1 =>
      (boundary_Share (ix [y3,y5,x] v1) (api_Ratio.mk s s1)).bind fun (y27,y28) =>
      (ref35_Share (ix [y3,y5,x] v1) (api_Ratio.mk s s1)).bind fun (y29,y30) =>
      (boundary_Nearest (ix [y3,y5,x] v1) (api_Ratio.mk s s1)).bind fun (y31,y32) =>
      (ref35_Nearest (ix [y3,y5,x] v1) (api_Ratio.mk s s1)).bind fun (y33,y34) =>
      bif ((((y27 != y29)||(y28 != y30))||(y31 != y33))||(y32 != y34)) then
        some (.inr (.inr (.inr (.inr false))))
      else
        some (.inl (IntKind.i64.wrap (v2+(1:Int))))
    else
      some (.inr (.inl ()))
noncomputable def law35_BoundaryExact_l6 (x:api_Distribution) (share:api_Ratio) (y3:api_Distribution) (y5:api_Distribution):(Int × (List Int) × Int)→Option ((Int × (List Int) × Int) ⊕ (((List Int) × Int) ⊕ Bool)) :=
  fun (v1,w4,w5) =>
    bif (decide (v1<(3:Int))) then
      req ((0≤v1∧v1<3)) <|
      (mark_Dice_Next (mark_Dice.mk w4 w5) (4:Int)).bind fun (y25,y26) =>
      (iter (law35_BoundaryExact_l5 x share y3 y5 v1 y25) (0:Int)).bind fun x_ =>
      match x_ with
      | .inl () => law35_BoundaryExact_j4 v1 y26.L y26.At
      | .inr t_ => some t_
    else
      some (.inr (.inl (w4,w5)))
noncomputable def law35_BoundaryExact_j7 (x:api_Distribution) (share:api_Ratio) (m:Int) (most:Int) (y3:api_Distribution) (y5:api_Distribution) (w:List Int) (w1:Int):Option Bool :=
  (iter (law35_BoundaryExact_l6 x share y3 y5) ((0:Int),w,w1)).bind fun x_ =>
  match x_ with
  | .inl (w6,w7) => law35_BoundaryExact_j3 m most w6 w7
  | .inr t_ => some t_
noncomputable def law35_BoundaryExact_j8 (v3:Int) (w14:List Int) (w15:Int):Option ((Int × (List Int) × Int) ⊕ (((List Int) × Int) ⊕ Bool)) :=
  some (.inl ((IntKind.i64.wrap (v3+(1:Int))),w14,w15))
noncomputable def law35_BoundaryExact_l9 (raw:List Int) (curve:api_Curve) (most:Int) (y7:List Int) (y9:Int) (v3:Int) (y37:api_Curve):Int→Option (Int ⊕ (Unit ⊕ ((Int × (List Int) × Int) ⊕ (((List Int) × Int) ⊕ Bool)))) :=
  fun v4 =>
    bif (decide (v4<(2:Int))) then
      req ((0≤v4∧v4<2)) <|
      (boundary_Transfer (ix [y7,(y7 ++ [(IntKind.i64.wrap (y9-(1:Int)))]),raw] v3) (ix [y37,curve] v4) most).bind fun (y39,y40) =>
      (ref35_Transfer (ix [y7,(y7 ++ [(IntKind.i64.wrap (y9-(1:Int)))]),raw] v3) (ix [y37,curve] v4) most).bind fun (y41,y42) =>
      (boundary_Transfer (ix [y7,(y7 ++ [(IntKind.i64.wrap (y9-(1:Int)))]),raw] v3) (ix [y37,curve] v4) (12:Int)).bind fun (y43,y44) =>
      (ref35_Transfer (ix [y7,(y7 ++ [(IntKind.i64.wrap (y9-(1:Int)))]),raw] v3) (ix [y37,curve] v4) (12:Int)).bind fun (y45,y46) =>
      (law35_same y39 y41).bind fun y47 =>
      req (((!((!y47)||(y40 != y42)))=true→(law35_same y43 y45).isSome=true)) <|
      bif ((((!y47)||(y40 != y42))||(!((law35_same y43 y45).getD default)))||(y44 != y46)) then
        some (.inr (.inr (.inr (.inr false))))
      else
        some (.inl (IntKind.i64.wrap (v4+(1:Int))))
    else
      some (.inr (.inl ()))
noncomputable def law35_BoundaryExact_j10 (raw:List Int) (curve:api_Curve) (most:Int) (y7:List Int) (y9:Int) (v3:Int) (w10:List Int) (w11:Int):Option ((Int × (List Int) × Int) ⊕ (((List Int) × Int) ⊕ Bool)) :=
  (mark_Dice_Curve (mark_Dice.mk w10 w11)).bind fun (y37,y38) =>
  (iter (law35_BoundaryExact_l9 raw curve most y7 y9 v3 y37) (0:Int)).bind fun x_ =>
  match x_ with
  | .inl () => law35_BoundaryExact_j8 v3 y38.L y38.At
  | .inr t_ => some t_
noncomputable def law35_BoundaryExact_l11 (raw:List Int) (x:api_Distribution) (y3:api_Distribution) (y5:api_Distribution) (y7:List Int) (y9:Int) (v3:Int):Int→Option (Int ⊕ (Unit ⊕ ((Int × (List Int) × Int) ⊕ (((List Int) × Int) ⊕ Bool)))) :=
  fun v5 =>
    bif (decide (v5<(3:Int))) then
      req ((0≤v5∧v5<3)) <|
      (boundary_Tally (ix [y3,y5,x] v5) (ix [y7,(y7 ++ [(IntKind.i64.wrap (y9-(1:Int)))]),raw] v3)).bind fun (y48,y49) =>
      (ref35_Tally (ix [y3,y5,x] v5) (ix [y7,(y7 ++ [(IntKind.i64.wrap (y9-(1:Int)))]),raw] v3)).bind fun (y50,y51) =>
      (boundary_Reference (ix [y3,y5,x] v5) y5 (ix [y7,(y7 ++ [(IntKind.i64.wrap (y9-(1:Int)))]),raw] v3)).bind fun (y52,y53) =>
      (ref35_Reference (ix [y3,y5,x] v5) y5 (ix [y7,(y7 ++ [(IntKind.i64.wrap (y9-(1:Int)))]),raw] v3)).bind fun (y54,y55) =>
      (law35_same y48 y50).bind fun y56 =>
      req (((!((!y56)||(y49 != y51)))=true→(law35_same y52 y54).isSome=true)) <|
      bif ((((!y56)||(y49 != y51))||(!((law35_same y52 y54).getD default)))||(y53 != y55)) then
        some (.inr (.inr (.inr (.inr false))))
      else
        some (.inl (IntKind.i64.wrap (v5+(1:Int))))
    else
      some (.inr (.inl ()))
noncomputable def law35_BoundaryExact_l12 (raw:List Int) (x:api_Distribution) (curve:api_Curve) (m:Int) (most:Int) (y3:api_Distribution) (y5:api_Distribution) (y7:List Int) (y9:Int):(Int × (List Int) × Int)→Option ((Int × (List Int) × Int) ⊕ (((List Int) × Int) ⊕ Bool)) :=
  fun (v3,w10,w11) =>
    bif (decide (v3<(3:Int))) then
      req ((0≤v3∧v3<3)) <|
      (boundary_Check (ix [y7,(y7 ++ [(IntKind.i64.wrap (y9-(1:Int)))]),raw] v3) most).bind fun y35 =>
      (ref35_Check (ix [y7,(y7 ++ [(IntKind.i64.wrap (y9-(1:Int)))]),raw] v3) most).bind fun y36 =>
      req (((!(y35 != y36))=true→(boundary_Check (ix [y7,(y7 ++ [(IntKind.i64.wrap (y9-(1:Int)))]),raw] v3) (9:Int)).isSome=true)∧((!(y35 != y36))=true→(ref35_Check (ix [y7,(y7 ++ [(IntKind.i64.wrap (y9-(1:Int)))]),raw] v3) (9:Int)).isSome=true)∧((!((y35 != y36)||(((boundary_Check (ix [y7,(y7 ++ [(IntKind.i64.wrap (y9-(1:Int)))]),raw] v3) (9:Int)).getD default) != ((ref35_Check (ix [y7,(y7 ++ [(IntKind.i64.wrap (y9-(1:Int)))]),raw] v3) (9:Int)).getD default))))=true→(boundary_Grade (ix [y7,(y7 ++ [(IntKind.i64.wrap (y9-(1:Int)))]),raw] v3) m).isSome=true)∧((!((y35 != y36)||(((boundary_Check (ix [y7,(y7 ++ [(IntKind.i64.wrap (y9-(1:Int)))]),raw] v3) (9:Int)).getD default) != ((ref35_Check (ix [y7,(y7 ++ [(IntKind.i64.wrap (y9-(1:Int)))]),raw] v3) (9:Int)).getD default))))=true→(ref35_Grade (ix [y7,(y7 ++ [(IntKind.i64.wrap (y9-(1:Int)))]),raw] v3) m).isSome=true)) <|
      bif (((y35 != y36)||(((boundary_Check (ix [y7,(y7 ++ [(IntKind.i64.wrap (y9-(1:Int)))]),raw] v3) (9:Int)).getD default) != ((ref35_Check (ix [y7,(y7 ++ [(IntKind.i64.wrap (y9-(1:Int)))]),raw] v3) (9:Int)).getD default)))||(((boundary_Grade (ix [y7,(y7 ++ [(IntKind.i64.wrap (y9-(1:Int)))]),raw] v3) m).getD default) != ((ref35_Grade (ix [y7,(y7 ++ [(IntKind.i64.wrap (y9-(1:Int)))]),raw] v3) m).getD default))) then
        some (.inr (.inr false))
      else
        (iter (law35_BoundaryExact_l11 raw x y3 y5 y7 y9 v3) (0:Int)).bind fun x_ =>
        match x_ with
        | .inl () => law35_BoundaryExact_j10 raw curve most y7 y9 v3 w10 w11
        | .inr t_ => some t_
    else
      some (.inr (.inl (w10,w11)))
noncomputable def law35_BoundaryExact (t:List Int) (raw:List Int) (x:api_Distribution) (share:api_Ratio) (curve:api_Curve) (m:Int) (most:Int):Option Bool :=
  (mark_Light t).bind fun y =>
  bif ((((!y)||(decide ((20:Int)<(raw.length:Int))))||(decide ((40:Int)<(x.Counts.length:Int))))||(decide ((20:Int)<(curve.Points.length:Int)))) then
    (law35_sane).bind fun y1 =>
    some y1
  else
    (mark_Roll t).bind fun y2 =>
    (mark_Dice_Distribution y2 (9:Int) false).bind fun (y3,y4) =>
    (mark_Dice_Distribution y4 (9:Int) false).bind fun (y5,y6) =>
    (mark_Dice_Bounds y6 (IntKind.i64.wrap ((y5.Counts.length:Int)-(1:Int)))).bind fun (y7,y8) =>
    req (y7.length*8≤140737488355328) <|
    (mark_Dice_Next y8 (12:Int)).bind fun (y9,y10) =>
    req ((y7.length+([(IntKind.i64.wrap (y9-(1:Int)))]).length)*8≤140737488355328) <|
    (iter (law35_BoundaryExact_l12 raw x curve m most y3 y5 y7 y9) ((0:Int),y10.L,y10.At)).bind fun x_ =>
    match x_ with
    | .inl (w12,w13) => law35_BoundaryExact_j7 x share m most y3 y5 w12 w13
    | .inr t_ => some t_
end Go.LS
