/-
  Plain functions that the program's functions compute. No condition: definitions, printed by dec.py.
-/
import Derived.Test.YtamifffofclhkaaGreatD2
namespace Go.LS
set_option linter.all false
set_option linter.unusedSimpArgs false
set_option linter.unusedVariables false
set_option maxRecDepth 20000

/-- (ptr awardingbody awardingbodymark.Dice).Curve -/
noncomputable def mark_Dice_Curve_j1 (d1:List Int) (d2:Int) (c:List api_Point):Option (api_Curve × mark_Dice) :=
  some ((api_Curve.mk c),(mark_Dice.mk d1 d2))
noncomputable def mark_Dice_Curve_l2 :(Int × Int × Int × (List Int) × Int × (List api_Point))→Option ((Int × Int × Int × (List Int) × Int × (List api_Point)) ⊕ ((List Int) × Int × (List api_Point))) :=
  fun (x1,y11,i,d3,d4,w1) =>
    bif (decide ((0:Int)<i)) then
      (mark_Dice_Next (mark_Dice.mk d3 d4) (3:Int)).bind fun (y12,y13) =>
      (mark_Dice_Next y13 (4:Int)).bind fun (y14,y15) =>
      req ((w1.length+([(api_Point.mk (api_Ratio.mk (IntKind.i64.wrap ((IntKind.i64.wrap (x1+(1:Int)))+y12)) (1:Int)) (api_Ratio.mk (IntKind.i64.wrap ((IntKind.i64.wrap (y11+(1:Int)))+y14)) (1:Int)))]).length)*32≤140737488355328) <|
      bindV (w1 ++ [(api_Point.mk (api_Ratio.mk (IntKind.i64.wrap ((IntKind.i64.wrap (x1+(1:Int)))+y12)) (1:Int)) (api_Ratio.mk (IntKind.i64.wrap ((IntKind.i64.wrap (y11+(1:Int)))+y14)) (1:Int)))]) fun w3 =>
      some (.inl ((IntKind.i64.wrap ((IntKind.i64.wrap (x1+(1:Int)))+y12)),(IntKind.i64.wrap ((IntKind.i64.wrap (y11+(1:Int)))+y14)),(IntKind.i64.wrap (i-(1:Int))),y15.L,y15.At,w3))
    else
      some (.inr (d3,d4,w1))
noncomputable def mark_Dice_Curve (d:mark_Dice):Option (api_Curve × mark_Dice) :=
  (mark_Dice_Next d (9:Int)).bind fun (y,y1) =>
  (mark_Dice_Next y1 (9:Int)).bind fun (y2,y3) =>
  (mark_Dice_Next y3 (4:Int)).bind fun (y4,y5) =>
  bif (decide ((0:Int)<(IntKind.i64.wrap ((1:Int)+y4)))) then
    (mark_Dice_Next y5 (3:Int)).bind fun (y6,y7) =>
    (mark_Dice_Next y7 (4:Int)).bind fun (y8,y9) =>
    bindV (IntKind.i64.wrap ((IntKind.i64.wrap ((IntKind.i64.wrap (y-(4:Int)))+(1:Int)))+y6)) fun x =>
    bindV (IntKind.i64.wrap ((IntKind.i64.wrap ((IntKind.i64.wrap (y2-(4:Int)))+(1:Int)))+y8)) fun y10 =>
    req ((([(api_Point.mk (api_Ratio.mk (IntKind.i64.wrap (y-(4:Int))) (1:Int)) (api_Ratio.mk (IntKind.i64.wrap (y2-(4:Int))) (1:Int)))]).length+([(api_Point.mk (api_Ratio.mk x (1:Int)) (api_Ratio.mk y10 (1:Int)))]).length)*32≤140737488355328) <|
    bindV ([(api_Point.mk (api_Ratio.mk (IntKind.i64.wrap (y-(4:Int))) (1:Int)) (api_Ratio.mk (IntKind.i64.wrap (y2-(4:Int))) (1:Int)))] ++ [(api_Point.mk (api_Ratio.mk x (1:Int)) (api_Ratio.mk y10 (1:Int)))]) fun w =>
    (iter (mark_Dice_Curve_l2) (x,y10,(IntKind.i64.wrap ((IntKind.i64.wrap ((1:Int)+y4))-(1:Int))),y9.L,y9.At,w)).bind fun (d5,d6,w2) =>
    mark_Dice_Curve_j1 d5 d6 w2
  else
    mark_Dice_Curve_j1 y5.L y5.At ([(api_Point.mk (api_Ratio.mk (IntKind.i64.wrap (y-(4:Int))) (1:Int)) (api_Ratio.mk (IntKind.i64.wrap (y2-(4:Int))) (1:Int)))])
/-- awardingbody ratio.Less -/
noncomputable def ratio_Less (a:api_Ratio) (b:api_Ratio):Option Bool :=
  (ratio_Compare a b).bind fun y =>
  some (y==(-1:Int))
/-- awardingbody conversion.ascending -/
noncomputable def conversion_ascending_j1 :Option Bool :=
  some true
noncomputable def conversion_ascending_l2 (points:List api_Point):Int→Option (Int ⊕ (Unit ⊕ Bool)) :=
  fun v =>
    bif (decide (v<(points.length:Int))) then
      req ((0≤v∧v<(points.length:Int))) <|
      (ratio_Valid ((ix points v).X)).bind fun y =>
      req (((!(!y))=true→(ratio_Valid ((ix points v).Y)).isSome=true)) <|
      bif ((!y)||(!((ratio_Valid ((ix points v).Y)).getD default))) then
        some (.inr (.inr false))
      else
        req (((decide ((0:Int)<v))=true→0≤(IntKind.i64.wrap (v-(1:Int)))∧(IntKind.i64.wrap (v-(1:Int)))<(points.length:Int))∧((decide ((0:Int)<v))=true→(ratio_Less ((ix points (IntKind.i64.wrap (v-(1:Int)))).X) ((ix points v).X)).isSome=true)∧(((decide ((0:Int)<v))&&(!(!((ratio_Less ((ix points (IntKind.i64.wrap (v-(1:Int)))).X) ((ix points v).X)).getD default))))=true→0≤(IntKind.i64.wrap (v-(1:Int)))∧(IntKind.i64.wrap (v-(1:Int)))<(points.length:Int))∧(((decide ((0:Int)<v))&&(!(!((ratio_Less ((ix points (IntKind.i64.wrap (v-(1:Int)))).X) ((ix points v).X)).getD default))))=true→(ratio_Less ((ix points (IntKind.i64.wrap (v-(1:Int)))).Y) ((ix points v).Y)).isSome=true)) <|
        bif ((decide ((0:Int)<v))&&((!((ratio_Less ((ix points (IntKind.i64.wrap (v-(1:Int)))).X) ((ix points v).X)).getD default))||(!((ratio_Less ((ix points (IntKind.i64.wrap (v-(1:Int)))).Y) ((ix points v).Y)).getD default)))) then
          some (.inr (.inr false))
        else
          some (.inl (IntKind.i64.wrap (v+(1:Int))))
    else
      some (.inr (.inl ()))
noncomputable def conversion_ascending (points:List api_Point):Option Bool :=
  (iter (conversion_ascending_l2 points) (0:Int)).bind fun x_ =>
  match x_ with
  | .inl () => conversion_ascending_j1
  | .inr t_ => some t_
/-- awardingbody conversion.Valid -/
noncomputable def conversion_Valid (c:api_Curve):Option Bool :=
  req ((((decide ((2:Int)≤(c.Points.length:Int)))&&(decide ((c.Points.length:Int)≤(410:Int))))=true→(conversion_ascending c.Points).isSome=true)) <|
  some (((decide ((2:Int)≤(c.Points.length:Int)))&&(decide ((c.Points.length:Int)≤(410:Int))))&&((conversion_ascending c.Points).getD default))
/-- awardingbody conversion.eval$1 -/
noncomputable def conversion_eval_f1 (i:Int) (c:api_Ratio) (c_1:List api_Point):Option Bool :=
  req ((0≤(IntKind.i64.wrap (i+(1:Int)))∧(IntKind.i64.wrap (i+(1:Int)))<(c_1.length:Int))) <|
  (ratio_Compare c ((ix c_1 (IntKind.i64.wrap (i+(1:Int)))).X)).bind fun y =>
  some (decide (y≤(0:Int)))
/-- sort.Search -/
noncomputable def sort_Search_conversion_eval_f1_j1 (i:Int):Option Int :=
  some i
noncomputable def sort_Search_conversion_eval_f1_l2 (f_c:api_Ratio) (f_c_1:List api_Point):(Int × Int)→Option ((Int × Int) ⊕ Int) :=
  fun (i1,j) =>
    bif (decide (i1<j)) then
      bindV (IntKind.i64.wrap (bShr .u64 (IntKind.u64.wrap (IntKind.i64.wrap (i1+j))) (1:Int))) fun h =>
      (conversion_eval_f1 h f_c f_c_1).bind fun y =>
      bif (!y) then
        some (.inl ((IntKind.i64.wrap (h+(1:Int))),j))
      else
        some (.inl (i1,h))
    else
      some (.inr i1)
noncomputable def sort_Search_conversion_eval_f1 (n:Int) (f_c:api_Ratio) (f_c_1:List api_Point):Option Int :=
  (iter (sort_Search_conversion_eval_f1_l2 f_c f_c_1) ((0:Int),n)).bind fun i2 =>
  sort_Search_conversion_eval_f1_j1 i2
/-- (awardingbody ratio.wide).plus -/
noncomputable def ratio_wide_plus (a:ratio_wide) (b:ratio_wide):Option ratio_wide :=
  (bits_Add64 a.lo b.lo (0:Int)).bind fun (y,y1) =>
  (bits_Add64 a.hi b.hi y1).bind fun (y2,y3) =>
  some (ratio_wide.mk y2 y)
/-- (awardingbody ratio.wide).minus -/
noncomputable def ratio_wide_minus (a:ratio_wide) (b:ratio_wide):Option ratio_wide :=
  (bits_Sub64 a.lo b.lo (0:Int)).bind fun (y,y1) =>
  (bits_Sub64 a.hi b.hi y1).bind fun (y2,y3) =>
  some (ratio_wide.mk y2 y)
/-- (awardingbody ratio.signed).plus -/
noncomputable def ratio_signed_plus (a:ratio_signed) (b:ratio_signed):Option ratio_signed :=
  bif (a.neg==b.neg) then
    (ratio_wide_plus a.abs b.abs).bind fun y =>
    some (ratio_signed.mk a.neg y)
  else
    (ratio_wide_compare a.abs b.abs).bind fun y1 =>
    bif (decide ((0:Int)≤y1)) then
      (ratio_wide_minus a.abs b.abs).bind fun y2 =>
      some (ratio_signed.mk a.neg y2)
    else
      (ratio_wide_minus b.abs a.abs).bind fun y3 =>
      some (ratio_signed.mk b.neg y3)
/-- awardingbody ratio.Add -/
noncomputable def ratio_Add (a:api_Ratio) (b:api_Ratio):Option (api_Ratio × Int) :=
  (ratio_Valid a).bind fun y =>
  req (((!(!y))=true→(ratio_Valid b).isSome=true)) <|
  bif ((!y)||(!((ratio_Valid b).getD default))) then
    some ((api_Ratio.mk (0:Int) (0:Int)),(1:Int))
  else
    (ratio_gcd (IntKind.u64.wrap a.Den) (IntKind.u64.wrap b.Den)).bind fun y1 =>
    req (y1 ≠ 0) <|
    (ratio_signedProduct a.Num (IntKind.u64.wrap (Int.tdiv (IntKind.u64.wrap b.Den) y1))).bind fun y2 =>
    req (y1 ≠ 0) <|
    (ratio_signedProduct b.Num (IntKind.u64.wrap (Int.tdiv (IntKind.u64.wrap a.Den) y1))).bind fun y3 =>
    (ratio_signed_plus y2 y3).bind fun y4 =>
    (ratio_wide_mod y4.abs y1).bind fun y5 =>
    (ratio_gcd y5 y1).bind fun y6 =>
    (ratio_wide_over y4.abs y6).bind fun y7 =>
    req (y1 ≠ 0∧y6 ≠ 0) <|
    (ratio_product (IntKind.u64.wrap (Int.tdiv (IntKind.u64.wrap a.Den) y1)) (IntKind.u64.wrap (Int.tdiv (IntKind.u64.wrap b.Den) y6))).bind fun y8 =>
    (ratio_fitted y4.neg y7 y8).bind fun (y9,y10) =>
    some (y9,y10)
/-- (ptr awardingbody conversion.steps).do -/
noncomputable def conversion_steps_do_ratio_Add (s:conversion_steps) (a:api_Ratio) (b:api_Ratio):Option (api_Ratio × conversion_steps) :=
  bif (s.e != (0:Int)) then
    some ((api_Ratio.mk (0:Int) (0:Int)),s)
  else
    (ratio_Add a b).bind fun (y,y1) =>
    some (y,(conversion_steps.mk y1))
/-- awardingbody ratio.Mul -/
noncomputable def ratio_Mul (a:api_Ratio) (b:api_Ratio):Option (api_Ratio × Int) :=
  (ratio_Valid a).bind fun y =>
  req (((!(!y))=true→(ratio_Valid b).isSome=true)) <|
  bif ((!y)||(!((ratio_Valid b).getD default))) then
    some ((api_Ratio.mk (0:Int) (0:Int)),(1:Int))
  else
    (ratio_magnitude a.Num).bind fun y1 =>
    (ratio_magnitude b.Num).bind fun y2 =>
    (ratio_gcd y1 (IntKind.u64.wrap b.Den)).bind fun y3 =>
    (ratio_gcd y2 (IntKind.u64.wrap a.Den)).bind fun y4 =>
    req (y3 ≠ 0∧y4 ≠ 0) <|
    (ratio_product (IntKind.u64.wrap (Int.tdiv y1 y3)) (IntKind.u64.wrap (Int.tdiv y2 y4))).bind fun y5 =>
    req (y4 ≠ 0∧y3 ≠ 0) <|
    (ratio_product (IntKind.u64.wrap (Int.tdiv (IntKind.u64.wrap a.Den) y4)) (IntKind.u64.wrap (Int.tdiv (IntKind.u64.wrap b.Den) y3))).bind fun y6 =>
    (ratio_fitted (!((decide (a.Num<(0:Int)))==(decide (b.Num<(0:Int))))) y5 y6).bind fun (y7,y8) =>
    some (y7,y8)
/-- (ptr awardingbody conversion.steps).do -/
noncomputable def conversion_steps_do_ratio_Mul (s:conversion_steps) (a:api_Ratio) (b:api_Ratio):Option (api_Ratio × conversion_steps) :=
  bif (s.e != (0:Int)) then
    some ((api_Ratio.mk (0:Int) (0:Int)),s)
  else
    (ratio_Mul a b).bind fun (y,y1) =>
    some (y,(conversion_steps.mk y1))
/-- awardingbody ratio.Sub -/
noncomputable def ratio_Sub (a:api_Ratio) (b:api_Ratio):Option (api_Ratio × Int) :=
  (ratio_Valid a).bind fun y =>
  req (((!(!y))=true→(ratio_Valid b).isSome=true)) <|
  bif ((!y)||(!((ratio_Valid b).getD default))) then
    some ((api_Ratio.mk (0:Int) (0:Int)),(1:Int))
  else
    (ratio_Add a (api_Ratio.mk (IntKind.i64.wrap (0-b.Num)) b.Den)).bind fun (y1,y2) =>
    some (y1,y2)
/-- (ptr awardingbody conversion.steps).do -/
noncomputable def conversion_steps_do_ratio_Sub (s:conversion_steps) (a:api_Ratio) (b:api_Ratio):Option (api_Ratio × conversion_steps) :=
  bif (s.e != (0:Int)) then
    some ((api_Ratio.mk (0:Int) (0:Int)),s)
  else
    (ratio_Sub a b).bind fun (y,y1) =>
    some (y,(conversion_steps.mk y1))
/-- awardingbody ratio.Div -/
noncomputable def ratio_Div_j1 (a:api_Ratio) (inverse:Int) (inverse1:Int):Option (api_Ratio × Int) :=
  (ratio_Mul a (api_Ratio.mk inverse inverse1)).bind fun (y1,y2) =>
  some (y1,y2)
noncomputable def ratio_Div (a:api_Ratio) (b:api_Ratio):Option (api_Ratio × Int) :=
  (ratio_Valid a).bind fun y =>
  req (((!(!y))=true→(ratio_Valid b).isSome=true)) <|
  bif ((!y)||(!((ratio_Valid b).getD default))) then
    some ((api_Ratio.mk (0:Int) (0:Int)),(1:Int))
  else
    bif (b.Num==(0:Int)) then
      some ((api_Ratio.mk (0:Int) (0:Int)),(2:Int))
    else
      bif (decide (b.Num<(0:Int))) then
        ratio_Div_j1 a (IntKind.i64.wrap (0-b.Den)) (IntKind.i64.wrap (0-b.Num))
      else
        ratio_Div_j1 a b.Den b.Num
/-- (ptr awardingbody conversion.steps).do -/
noncomputable def conversion_steps_do_ratio_Div (s:conversion_steps) (a:api_Ratio) (b:api_Ratio):Option (api_Ratio × conversion_steps) :=
  bif (s.e != (0:Int)) then
    some ((api_Ratio.mk (0:Int) (0:Int)),s)
  else
    (ratio_Div a b).bind fun (y,y1) =>
    some (y,(conversion_steps.mk y1))
/-- (ptr awardingbody conversion.steps).slope -/
noncomputable def conversion_steps_slope (s:conversion_steps) (p:api_Point) (q:api_Point):Option (api_Ratio × conversion_steps) :=
  (conversion_steps_do_ratio_Sub s q.Y p.Y).bind fun (y,y1) =>
  (conversion_steps_do_ratio_Sub y1 q.X p.X).bind fun (y2,y3) =>
  (conversion_steps_do_ratio_Div y3 y y2).bind fun (y4,y5) =>
  some (y4,y5)
/-- awardingbody conversion.eval -/
noncomputable def conversion_eval (points:List api_Point) (x:api_Ratio):Option (api_Ratio × Int) :=
  (sort_Search_conversion_eval_f1 (IntKind.i64.wrap ((IntKind.i64.wrap ((points.length:Int)-(1:Int)))-(1:Int))) x points).bind fun y =>
  req ((0≤(IntKind.i64.wrap ((IntKind.i64.wrap ((1:Int)+y))-(1:Int)))∧(IntKind.i64.wrap ((IntKind.i64.wrap ((1:Int)+y))-(1:Int)))<(points.length:Int))∧(0≤(IntKind.i64.wrap ((1:Int)+y))∧(IntKind.i64.wrap ((1:Int)+y))<(points.length:Int))) <|
  bindV (((ix points (IntKind.i64.wrap ((IntKind.i64.wrap ((1:Int)+y))-(1:Int)))).X).Num) fun p =>
  bindV (((ix points (IntKind.i64.wrap ((IntKind.i64.wrap ((1:Int)+y))-(1:Int)))).X).Den) fun p1 =>
  bindV (((ix points (IntKind.i64.wrap ((IntKind.i64.wrap ((1:Int)+y))-(1:Int)))).Y).Num) fun p2 =>
  bindV (((ix points (IntKind.i64.wrap ((IntKind.i64.wrap ((1:Int)+y))-(1:Int)))).Y).Den) fun p3 =>
  (conversion_steps_slope (conversion_steps.mk (0:Int)) (api_Point.mk (api_Ratio.mk p p1) (api_Ratio.mk p2 p3)) (api_Point.mk ((ix points (IntKind.i64.wrap ((1:Int)+y))).X) ((ix points (IntKind.i64.wrap ((1:Int)+y))).Y))).bind fun (y1,y2) =>
  (conversion_steps_do_ratio_Sub y2 x (api_Ratio.mk p p1)).bind fun (y3,y4) =>
  (conversion_steps_do_ratio_Mul y4 y3 y1).bind fun (y5,y6) =>
  (conversion_steps_do_ratio_Add y6 (api_Ratio.mk p2 p3) y5).bind fun (y7,y8) =>
  some (y7,y8.e)
/-- awardingbody conversion.Eval -/
noncomputable def conversion_Eval (c:api_Curve) (x:api_Ratio):Option (api_Ratio × Int) :=
  (conversion_Valid c).bind fun y =>
  req (((!(!y))=true→(ratio_Valid x).isSome=true)) <|
  bif ((!y)||(!((ratio_Valid x).getD default))) then
    some ((api_Ratio.mk (0:Int) (0:Int)),(1:Int))
  else
    (conversion_eval c.Points x).bind fun (y1,y2) =>
    some (y1,y2)
/-- awardingbody conversion.whole -/
noncomputable def conversion_whole (n:Int):Option api_Ratio :=
  some (api_Ratio.mk n (1:Int))
/-- awardingbody ratio.toRound -/
noncomputable def ratio_toRound (floor:Int) (rest:Int) (den:Int):Option Int :=
  bif (decide ((IntKind.i64.wrap (den-rest))≤rest)) then
    some (IntKind.i64.wrap (floor+(1:Int)))
  else
    some floor
/-- awardingbody ratio.rounded -/
noncomputable def ratio_rounded_ratio_toRound_j1 (a:api_Ratio) (floor:Int) (rest:Int):Option Int :=
  (ratio_toRound floor rest a.Den).bind fun y1 =>
  some y1
noncomputable def ratio_rounded_ratio_toRound (a:api_Ratio):Option Int :=
  (ratio_Valid a).bind fun y =>
  bif (!y) then
    some (0:Int)
  else
    req (a.Den ≠ 0) <|
    bif (decide ((Int.tmod a.Num a.Den)<(0:Int))) then
      bindV (IntKind.i64.wrap ((IntKind.i64.wrap (Int.tdiv a.Num a.Den))-(1:Int))) fun floor1 =>
      ratio_rounded_ratio_toRound_j1 a floor1 (IntKind.i64.wrap ((Int.tmod a.Num a.Den)+a.Den))
    else
      ratio_rounded_ratio_toRound_j1 a (IntKind.i64.wrap (Int.tdiv a.Num a.Den)) (Int.tmod a.Num a.Den)
/-- awardingbody ratio.Round -/
noncomputable def ratio_Round (a:api_Ratio):Option Int :=
  (ratio_rounded_ratio_toRound a).bind fun y =>
  some y
/-- awardingbody conversion.Convert -/
noncomputable def conversion_Convert (c:api_Curve) (mark:Int) (most:Int):Option (Int × Int) :=
  bif ((((decide (mark<(0:Int)))||(decide ((200:Int)<mark)))||(decide (most<(0:Int))))||(decide ((200:Int)<most))) then
    some ((0:Int),(2:Int))
  else
    (conversion_whole mark).bind fun y =>
    (conversion_Eval c y).bind fun (y1,y2) =>
    bif (y2 != (0:Int)) then
      some ((0:Int),y2)
    else
      (ratio_Round y1).bind fun y3 =>
      some ((imin (imax y3 (0:Int)) most),(0:Int))
/-- awardingbody boundary.Transfer -/
noncomputable def boundary_Transfer_j1 (w1:List Int):Option ((List Int) × Int) :=
  some (w1,(0:Int))
noncomputable def boundary_Transfer_j2 (v:Int) (w4:List Int):Option ((Int × (List Int)) ⊕ (List Int)) :=
  some (.inl ((IntKind.i64.wrap (v+(1:Int))),w4))
noncomputable def boundary_Transfer_l3 (b:List Int) (most:Int) (w:List Int) (v:Int):(List Int)→Option ((List Int) ⊕ (List Int)) :=
  fun w5 =>
    req ((0≤v∧v<(w5.length:Int))∧((decide ((ix w5 v)≤most))=true→0≤v∧v<(w5.length:Int))∧((decide ((ix w5 v)≤most))=true→0≤(ix w5 v)∧(ix w5 v)<(w.length:Int))) <|
    bif ((decide ((ix w5 v)≤most))&&(decide ((ix w (ix w5 v))<(ix b v)))) then
      req ((0≤v∧v<(w5.length:Int))) <|
      some (.inl (setI w5 v (IntKind.i64.wrap ((ix w5 v)+(1:Int)))))
    else
      some (.inr w5)
noncomputable def boundary_Transfer_l4 (b:List Int) (most:Int) (w:List Int):(Int × (List Int))→Option ((Int × (List Int)) ⊕ (List Int)) :=
  fun (v,w2) =>
    bif (decide (v<(b.length:Int))) then
      req ((0≤v∧v<(b.length:Int))) <|
      (iter (boundary_Transfer_l3 b most w v) w2).bind fun w6 =>
      boundary_Transfer_j2 v w6
    else
      some (.inr w2)
noncomputable def boundary_Transfer_j5 (b:List Int) (most:Int) (w:List Int):Option ((List Int) × Int) :=
  req ((0≤(b.length:Int)∧(b.length:Int)*8≤140737488355328)) <|
  (iter (boundary_Transfer_l4 b most w) ((0:Int),(rep (b.length:Int) (0:Int)))).bind fun w3 =>
  boundary_Transfer_j1 w3
noncomputable def boundary_Transfer_l6 (c:api_Curve) (most:Int):(Int × (List Int))→Option ((Int × (List Int)) ⊕ ((List Int) ⊕ ((List Int) × Int))) :=
  fun (v1,w7) =>
    bif (decide (v1<((rep (IntKind.i64.wrap (most+(1:Int))) (0:Int)).length:Int))) then
      (conversion_Convert c v1 (200:Int)).bind fun (y2,y3) =>
      bif (y3 != (0:Int)) then
        some (.inr (.inr (([]:List Int),y3)))
      else
        req ((0≤v1∧v1<(w7.length:Int))) <|
        some (.inl ((IntKind.i64.wrap (v1+(1:Int))),(setI w7 v1 y2)))
    else
      some (.inr (.inl w7))
noncomputable def boundary_Transfer (b:List Int) (c:api_Curve) (most:Int):Option ((List Int) × Int) :=
  (boundary_isScore most).bind fun y =>
  bif (!y) then
    some (([]:List Int),(2:Int))
  else
    (boundary_Check b (200:Int)).bind fun y1 =>
    bif (y1 != (0:Int)) then
      some (([]:List Int),y1)
    else
      req ((0≤(IntKind.i64.wrap (most+(1:Int)))∧(IntKind.i64.wrap (most+(1:Int)))*8≤140737488355328)) <|
      (iter (boundary_Transfer_l6 c most) ((0:Int),(rep (IntKind.i64.wrap (most+(1:Int))) (0:Int)))).bind fun x_ =>
      match x_ with
      | .inl w8 => boundary_Transfer_j5 b most w8
      | .inr t_ => some t_
/-- awardingbody awardingbodyref33.rising -/
noncomputable def ref33_rising_j1 (l:List api_Point):Option Bool :=
  some (decide ((2:Int)≤(l.length:Int)))
noncomputable def ref33_rising_l2 (l:List api_Point):Int→Option (Int ⊕ (Unit ⊕ Bool)) :=
  fun i =>
    bif (decide (i<(l.length:Int))) then
      req ((0≤i∧i<(l.length:Int))) <|
      (ref01_Valid ((ix l i).X)).bind fun y =>
      req (((!(!y))=true→0≤i∧i<(l.length:Int))∧((!(!y))=true→(ref01_Valid ((ix l i).Y)).isSome=true)∧(((!((!y)||(!((ref01_Valid ((ix l i).Y)).getD default))))&&(decide ((0:Int)<i)))=true→0≤(IntKind.i64.wrap (i-(1:Int)))∧(IntKind.i64.wrap (i-(1:Int)))<(l.length:Int))∧(((!((!y)||(!((ref01_Valid ((ix l i).Y)).getD default))))&&(decide ((0:Int)<i)))=true→0≤i∧i<(l.length:Int))∧(((!((!y)||(!((ref01_Valid ((ix l i).Y)).getD default))))&&(decide ((0:Int)<i)))=true→(ref01_Less ((ix l (IntKind.i64.wrap (i-(1:Int)))).X) ((ix l i).X)).isSome=true)∧((((!((!y)||(!((ref01_Valid ((ix l i).Y)).getD default))))&&(decide ((0:Int)<i)))&&(!(!((ref01_Less ((ix l (IntKind.i64.wrap (i-(1:Int)))).X) ((ix l i).X)).getD default))))=true→0≤(IntKind.i64.wrap (i-(1:Int)))∧(IntKind.i64.wrap (i-(1:Int)))<(l.length:Int))∧((((!((!y)||(!((ref01_Valid ((ix l i).Y)).getD default))))&&(decide ((0:Int)<i)))&&(!(!((ref01_Less ((ix l (IntKind.i64.wrap (i-(1:Int)))).X) ((ix l i).X)).getD default))))=true→0≤i∧i<(l.length:Int))∧((((!((!y)||(!((ref01_Valid ((ix l i).Y)).getD default))))&&(decide ((0:Int)<i)))&&(!(!((ref01_Less ((ix l (IntKind.i64.wrap (i-(1:Int)))).X) ((ix l i).X)).getD default))))=true→(ref01_Less ((ix l (IntKind.i64.wrap (i-(1:Int)))).Y) ((ix l i).Y)).isSome=true)) <|
      bif (((!y)||(!((ref01_Valid ((ix l i).Y)).getD default)))||((decide ((0:Int)<i))&&((!((ref01_Less ((ix l (IntKind.i64.wrap (i-(1:Int)))).X) ((ix l i).X)).getD default))||(!((ref01_Less ((ix l (IntKind.i64.wrap (i-(1:Int)))).Y) ((ix l i).Y)).getD default))))) then
        some (.inr (.inr false))
      else
        some (.inl (IntKind.i64.wrap (i+(1:Int))))
    else
      some (.inr (.inl ()))
noncomputable def ref33_rising (l:List api_Point):Option Bool :=
  (iter (ref33_rising_l2 l) (0:Int)).bind fun x_ =>
  match x_ with
  | .inl () => ref33_rising_j1 l
  | .inr t_ => some t_
/-- awardingbody awardingbodyref33.Valid -/
noncomputable def ref33_Valid (c:api_Curve):Option Bool :=
  req (((decide ((c.Points.length:Int)≤(410:Int)))=true→(ref33_rising c.Points).isSome=true)) <|
  some ((decide ((c.Points.length:Int)≤(410:Int)))&&((ref33_rising c.Points).getD default))
/-- awardingbody awardingbodyref01.Div -/
noncomputable def ref01_Div (a:api_Ratio) (b:api_Ratio):Option (api_Ratio × Int) :=
  (ref01_Valid a).bind fun y =>
  req (((!(!y))=true→(ref01_Valid b).isSome=true)) <|
  bif ((!y)||(!((ref01_Valid b).getD default))) then
    some ((api_Ratio.mk (0:Int) (0:Int)),(1:Int))
  else
    bif (b.Num==(0:Int)) then
      some ((api_Ratio.mk (0:Int) (0:Int)),(2:Int))
    else
      (ref01_Size a.Num).bind fun y1 =>
      (ref01_Size b.Den).bind fun y2 =>
      (ref01_Product y1 y2).bind fun y3 =>
      (ref01_Size a.Den).bind fun y4 =>
      (ref01_Size b.Num).bind fun y5 =>
      (ref01_Product y4 y5).bind fun y6 =>
      (ref01_Reduce (!((decide (a.Num<(0:Int)))==(decide (b.Num<(0:Int))))) y3 y6).bind fun (y7,y8) =>
      some (y7,y8)
/-- awardingbody awardingbodyref01.Add -/
noncomputable def ref01_Add (a:api_Ratio) (b:api_Ratio):Option (api_Ratio × Int) :=
  (ref01_Valid a).bind fun y =>
  req (((!(!y))=true→(ref01_Valid b).isSome=true)) <|
  bif ((!y)||(!((ref01_Valid b).getD default))) then
    some ((api_Ratio.mk (0:Int) (0:Int)),(1:Int))
  else
    (ref01_Size a.Num).bind fun y1 =>
    (ref01_Size b.Den).bind fun y2 =>
    (ref01_Product y1 y2).bind fun y3 =>
    (ref01_Size b.Num).bind fun y4 =>
    (ref01_Size a.Den).bind fun y5 =>
    (ref01_Product y4 y5).bind fun y6 =>
    (ref01_total (decide (a.Num<(0:Int))) y3 (decide (b.Num<(0:Int))) y6).bind fun (y7,y8) =>
    (ref01_Size a.Den).bind fun y9 =>
    (ref01_Size b.Den).bind fun y10 =>
    (ref01_Product y9 y10).bind fun y11 =>
    (ref01_Reduce y7 y8 y11).bind fun (y12,y13) =>
    some (y12,y13)
end Go.LS
