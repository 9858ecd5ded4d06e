/-
  Plain functions that the program's functions compute. No condition: definitions, printed by dec.py.
-/
import Derived.Test.YtdfbbiahpcelmaaD1
namespace Go.LS
set_option linter.all false
set_option linter.unusedSimpArgs false
set_option linter.unusedVariables false
set_option maxRecDepth 20000

/-- awardingbody awardingbodyref01.Size -/
noncomputable def ref01_Size (n : Int) : Option Int :=
  bif (decide (n < (0 : Int))) then
    bindV (IntKind.u64.wrap ((IntKind.u64.wrap (IntKind.i64.wrap (0 - (IntKind.i64.wrap (n + (1 : Int)))))) + (1 : Int))) fun v =>
    some v
  else
    some (IntKind.u64.wrap n)
/-- awardingbody awardingbodyref01.New -/
noncomputable def ref01_New (num : Int) (den : Int) : Option (api_Ratio × Int) :=
  bif (den == (0 : Int)) then
    some ((api_Ratio.mk (0 : Int) (0 : Int)), (2 : Int))
  else
    (ref01_Size num).bind fun y =>
    (ref01_Size den).bind fun y1 =>
    (ref01_Reduce (!((decide (num < (0 : Int))) == (decide (den < (0 : Int))))) (ref01_Wide.mk (0 : Int) y) (ref01_Wide.mk (0 : Int) y1)).bind fun (y2, y3) =>
    some (y2, y3)
/-- awardingbody awardingbodymark.Light -/
noncomputable def mark_Light (l : List Int) : Option Bool :=
  some (decide ((l.length : Int) ≤ (600 : Int)))
/-- awardingbody awardingbodylaw32.DistributionQuantiles -/
noncomputable def law32_DistributionQuantiles (t : List Int) (n : Int) : Option Bool :=
  (mark_Light t).bind fun y =>
  bif (!y) then
    (law32_sane).bind fun y1 =>
    some y1
  else
    (mark_Roll t).bind fun y2 =>
    (mark_Dice_Distribution y2 (8 : Int) false).bind fun (y3, y4) =>
    (ref01_New (IntKind.i64.wrap (Int.tmod n (13 : Int))) (12 : Int)).bind fun (y5, y6) =>
    (distribution_Quantile y3 y5).bind fun (y7, y8) =>
    bif (((y6 != (0 : Int)) || (decide (y5.Den < y5.Num))) || (y8 != (0 : Int))) then
      req ((((y8 == (10 : Int)) || (y8 == (2 : Int))) = true → (law32_sane).isSome = true)) <|
      some (((y8 == (10 : Int)) || (y8 == (2 : Int))) && ((law32_sane).getD default))
    else
      (distribution_Count y3).bind fun y9 =>
      (distribution_Below y3 y7).bind fun y10 =>
      (distribution_Below y3 (IntKind.i64.wrap (y7 + (1 : Int)))).bind fun y11 =>
      req ((((decide ((IntKind.i64.wrap (y5.Num * y9)) ≤ (IntKind.i64.wrap (y11 * y5.Den)))) && ((y7 == (0 : Int)) || (decide ((IntKind.i64.wrap (y10 * y5.Den)) < (IntKind.i64.wrap (y5.Num * y9)))))) = true → (law32_sane).isSome = true)) <|
      some (((decide ((IntKind.i64.wrap (y5.Num * y9)) ≤ (IntKind.i64.wrap (y11 * y5.Den)))) && ((y7 == (0 : Int)) || (decide ((IntKind.i64.wrap (y10 * y5.Den)) < (IntKind.i64.wrap (y5.Num * y9)))))) && ((law32_sane).getD default))
/-- awardingbody distribution.Add -/
noncomputable def distribution_Add_j1 (w1 : List Int) : Option (api_Distribution × Int) :=
  some ((api_Distribution.mk w1), (0 : Int))
noncomputable def distribution_Add_l2 (b : api_Distribution) : (Int × (List Int)) → Option ((Int × (List Int)) ⊕ (List Int)) :=
  fun (v, w2) =>
    bif (decide (v < (b.Counts.length : Int))) then
      req ((0 ≤ v ∧ v < (b.Counts.length : Int))) <|
      req ((0 ≤ v ∧ v < (w2.length : Int))) <|
      some (.inl ((IntKind.i64.wrap (v + (1 : Int))), (setI w2 v (IntKind.i64.wrap ((ix w2 v) + (ix b.Counts v))))))
    else
      some (.inr w2)
noncomputable def distribution_Add_j3 (b : api_Distribution) (w : List Int) : Option (api_Distribution × Int) :=
  (iter (distribution_Add_l2 b) ((0 : Int), w)).bind fun w3 =>
  distribution_Add_j1 w3
noncomputable def distribution_Add_l4 (a : api_Distribution) : (Int × (List Int)) → Option ((Int × (List Int)) ⊕ (List Int)) :=
  fun (v1, w4) =>
    bif (decide (v1 < (a.Counts.length : Int))) then
      req ((0 ≤ v1 ∧ v1 < (a.Counts.length : Int))) <|
      req ((0 ≤ v1 ∧ v1 < (w4.length : Int))) <|
      some (.inl ((IntKind.i64.wrap (v1 + (1 : Int))), (setI w4 v1 (IntKind.i64.wrap ((ix w4 v1) + (ix a.Counts v1))))))
    else
      some (.inr w4)
noncomputable def distribution_Add (a : api_Distribution) (b : api_Distribution) : Option (api_Distribution × Int) :=
  (distribution_Valid a).bind fun y =>
  req (((!(!y)) = true → (distribution_Valid b).isSome = true)) <|
  bif ((!y) || (!((distribution_Valid b).getD default))) then
    some ((api_Distribution.mk ([] : List Int)), (1 : Int))
  else
    (distribution_Count a).bind fun y1 =>
    (distribution_Count b).bind fun y2 =>
    bif (decide ((1048576 : Int) < (IntKind.i64.wrap (y1 + y2)))) then
      some ((api_Distribution.mk ([] : List Int)), (3 : Int))
    else
      req ((0 ≤ (imax (a.Counts.length : Int) (b.Counts.length : Int)) ∧ (imax (a.Counts.length : Int) (b.Counts.length : Int)) * 8 ≤ 140737488355328)) <|
      (iter (distribution_Add_l4 a) ((0 : Int), (rep (imax (a.Counts.length : Int) (b.Counts.length : Int)) (0 : Int)))).bind fun w5 =>
      distribution_Add_j3 b w5
/-- awardingbody awardingbodyref01.Valid -/
noncomputable def ref01_Valid (a : api_Ratio) : Option Bool :=
  bif ((((decide (a.Den < (1 : Int))) || (decide ((1152921504606846976 : Int) < a.Den))) || (decide (a.Num < (-1152921504606846976 : Int)))) || (decide ((1152921504606846976 : Int) < a.Num))) then
    some false
  else
    (ref01_Size a.Num).bind fun y =>
    (ref01_Size a.Den).bind fun y1 =>
    (ref01_Divisor (ref01_Wide.mk (0 : Int) y) (ref01_Wide.mk (0 : Int) y1)).bind fun y2 =>
    some ((y2.Hi == (0 : Int)) && (y2.Lo == (1 : Int)))
/-- awardingbody awardingbodyref01.Plus -/
noncomputable def ref01_Plus (a : ref01_Wide) (b : ref01_Wide) : Option ref01_Wide :=
  (bits_Add64 a.Lo b.Lo (0 : Int)).bind fun (y, y1) =>
  (bits_Add64 a.Hi b.Hi y1).bind fun (y2, y3) =>
  some (ref01_Wide.mk y2 y)
/-- awardingbody awardingbodyref01.total -/
noncomputable def ref01_total (x : Bool) (a : ref01_Wide) (y : Bool) (b : ref01_Wide) : Option (Bool × ref01_Wide) :=
  bif (x == y) then
    (ref01_Plus a b).bind fun y1 =>
    some (x, y1)
  else
    (ref01_Order a b).bind fun y2 =>
    bif (decide ((0 : Int) ≤ y2)) then
      (ref01_Minus a b).bind fun y3 =>
      some (x, y3)
    else
      (ref01_Minus b a).bind fun y4 =>
      some (y, y4)
/-- awardingbody awardingbodyref01.Product -/
noncomputable def ref01_Product (a : Int) (b : Int) : Option ref01_Wide :=
  (bits_Mul64 a b).bind fun (y, y1) =>
  some (ref01_Wide.mk y y1)
/-- awardingbody awardingbodyref01.Compare -/
noncomputable def ref01_Compare (a : api_Ratio) (b : api_Ratio) : Option Int :=
  (ref01_Valid a).bind fun y =>
  req (((!(!y)) = true → (ref01_Valid b).isSome = true)) <|
  bif ((!y) || (!((ref01_Valid b).getD default))) then
    some (0 : Int)
  else
    (ref01_Size a.Num).bind fun y1 =>
    (ref01_Size b.Den).bind fun y2 =>
    (ref01_Product y1 y2).bind fun y3 =>
    (ref01_Size b.Num).bind fun y4 =>
    (ref01_Size a.Den).bind fun y5 =>
    (ref01_Product y4 y5).bind fun y6 =>
    (ref01_total (decide (a.Num < (0 : Int))) y3 (decide ((0 : Int) < b.Num)) y6).bind fun (y7, y8) =>
    bif ((y8.Hi == (0 : Int)) && (y8.Lo == (0 : Int))) then
      some (0 : Int)
    else
      bif y7 then
        some (-1 : Int)
      else
        some (1 : Int)
/-- awardingbody awardingbodyref01.Less -/
noncomputable def ref01_Less (a : api_Ratio) (b : api_Ratio) : Option Bool :=
  (ref01_Compare a b).bind fun y =>
  some (decide (y < (0 : Int)))
/-- awardingbody awardingbodylaw32.DistributionSums -/
noncomputable def law32_DistributionSums_j1 (y3 : api_Distribution) (y5 : api_Distribution) (y7 : api_Distribution) : Option Bool :=
  (distribution_Mean y3).bind fun (y9, y10) =>
  (distribution_Mean y5).bind fun (y11, y12) =>
  (distribution_Mean y7).bind fun (y13, y14) =>
  bif ((y10 != (0 : Int)) || (y12 != (0 : Int))) then
    (law32_sane).bind fun y15 =>
    some y15
  else
    req (((y14 == (0 : Int)) = true → (ref01_Less y13 y9).isSome = true) ∧ (((y14 == (0 : Int)) && ((ref01_Less y13 y9).getD default)) = true → (ref01_Less y13 y11).isSome = true) ∧ (((y14 == (0 : Int)) && (!(((ref01_Less y13 y9).getD default) && ((ref01_Less y13 y11).getD default)))) = true → (ref01_Less y9 y13).isSome = true) ∧ ((((y14 == (0 : Int)) && (!(((ref01_Less y13 y9).getD default) && ((ref01_Less y13 y11).getD default)))) && ((ref01_Less y9 y13).getD default)) = true → (ref01_Less y11 y13).isSome = true) ∧ ((((y14 == (0 : Int)) && (!(((ref01_Less y13 y9).getD default) && ((ref01_Less y13 y11).getD default)))) && (!(((ref01_Less y9 y13).getD default) && ((ref01_Less y11 y13).getD default)))) = true → (law32_sane).isSome = true)) <|
    some ((((y14 == (0 : Int)) && (!(((ref01_Less y13 y9).getD default) && ((ref01_Less y13 y11).getD default)))) && (!(((ref01_Less y9 y13).getD default) && ((ref01_Less y11 y13).getD default)))) && ((law32_sane).getD default))
noncomputable def law32_DistributionSums_j2 (s : Int) (last2 : Int) (last3 : Int) : Option ((Int × Int × Int) ⊕ (Unit ⊕ Bool)) :=
  some (.inl ((IntKind.i64.wrap (s + (1 : Int))), last2, last3))
noncomputable def law32_DistributionSums_l3 (y3 : api_Distribution) (y5 : api_Distribution) (y7 : api_Distribution) : (Int × Int × Int) → Option ((Int × Int × Int) ⊕ (Unit ⊕ Bool)) :=
  fun (s, last, last1) =>
    bif (decide (s ≤ (10 : Int))) then
      (distribution_Below y7 s).bind fun y16 =>
      (distribution_Below y3 s).bind fun y17 =>
      (distribution_Below y5 s).bind fun y18 =>
      bif (y16 != (IntKind.i64.wrap (y17 + y18))) then
        some (.inr (.inr false))
      else
        (distribution_Rank y7 s).bind fun (y19, y20) =>
        bif (y20 == (0 : Int)) then
          (ref01_Less y19 (api_Ratio.mk last last1)).bind fun y21 =>
          bif y21 then
            some (.inr (.inr false))
          else
            law32_DistributionSums_j2 s y19.Num y19.Den
        else
          law32_DistributionSums_j2 s last last1
    else
      some (.inr (.inl ()))
noncomputable def law32_DistributionSums (t : List Int) : Option Bool :=
  (mark_Light t).bind fun y =>
  bif (!y) then
    (law32_sane).bind fun y1 =>
    some y1
  else
    (mark_Roll t).bind fun y2 =>
    (mark_Dice_Distribution y2 (8 : Int) false).bind fun (y3, y4) =>
    (mark_Dice_Distribution y4 (8 : Int) false).bind fun (y5, y6) =>
    (distribution_Add y3 y5).bind fun (y7, y8) =>
    req (((!(y8 != (0 : Int))) = true → (distribution_Count y7).isSome = true) ∧ ((!(y8 != (0 : Int))) = true → (distribution_Count y3).isSome = true) ∧ ((!(y8 != (0 : Int))) = true → (distribution_Count y5).isSome = true)) <|
    bif ((y8 != (0 : Int)) || (((distribution_Count y7).getD default) != (IntKind.i64.wrap (((distribution_Count y3).getD default) + ((distribution_Count y5).getD default))))) then
      some false
    else
      (iter (law32_DistributionSums_l3 y3 y5 y7) ((0 : Int), (0 : Int), (1 : Int))).bind fun x_ =>
      match x_ with
      | .inl () => law32_DistributionSums_j1 y3 y5 y7
      | .inr t_ => some t_
/-- awardingbody distribution.Dominates -/
noncomputable def distribution_Dominates_j1  : Option Bool :=
  some true
noncomputable def distribution_Dominates_l2 (a : api_Distribution) (b : api_Distribution) (y : Int) (y2 : Int) : Int → Option (Int ⊕ (Unit ⊕ Bool)) :=
  fun v =>
    bif (decide (v < (imax (a.Counts.length : Int) (b.Counts.length : Int)))) then
      (distribution_Below a v).bind fun y4 =>
      (distribution_Below b v).bind fun y5 =>
      bif (decide ((IntKind.i64.wrap (y5 * y)) < (IntKind.i64.wrap (y4 * y2)))) then
        some (.inr (.inr false))
      else
        some (.inl (IntKind.i64.wrap (v + (1 : Int))))
    else
      some (.inr (.inl ()))
noncomputable def distribution_Dominates (a : api_Distribution) (b : api_Distribution) : Option Bool :=
  (distribution_check a).bind fun (y, y1) =>
  bif (y1 != (0 : Int)) then
    some false
  else
    (distribution_check b).bind fun (y2, y3) =>
    bif (y3 != (0 : Int)) then
      some false
    else
      (iter (distribution_Dominates_l2 a b y y2) (0 : Int)).bind fun x_ =>
      match x_ with
      | .inl () => distribution_Dominates_j1
      | .inr t_ => some t_
/-- awardingbody awardingbodylaw32.DistributionDominates -/
noncomputable def law32_DistributionDominates (t : List Int) (n : Int) : Option Bool :=
  (mark_Light t).bind fun y =>
  bif (!y) then
    (law32_sane).bind fun y1 =>
    some y1
  else
    (mark_Roll t).bind fun y2 =>
    (mark_Dice_Distribution y2 (6 : Int) false).bind fun (y3, y4) =>
    (mark_Dice_Distribution y4 (6 : Int) false).bind fun (y5, y6) =>
    (mark_Dice_Distribution y6 (6 : Int) false).bind fun (y7, y8) =>
    (distribution_Dominates y3 y5).bind fun y9 =>
    req ((y9 = true → (distribution_Dominates y5 y7).isSome = true) ∧ ((y9 && ((distribution_Dominates y5 y7).getD default)) = true → (distribution_Dominates y3 y7).isSome = true) ∧ ((!((y9 && ((distribution_Dominates y5 y7).getD default)) && (!((distribution_Dominates y3 y7).getD default)))) = true → (distribution_Count y3).isSome = true) ∧ (((!((y9 && ((distribution_Dominates y5 y7).getD default)) && (!((distribution_Dominates y3 y7).getD default)))) && (decide ((0 : Int) < ((distribution_Count y3).getD default)))) = true → (distribution_Dominates y3 y3).isSome = true)) <|
    bif (((y9 && ((distribution_Dominates y5 y7).getD default)) && (!((distribution_Dominates y3 y7).getD default))) || ((decide ((0 : Int) < ((distribution_Count y3).getD default))) && (!((distribution_Dominates y3 y3).getD default)))) then
      some false
    else
      (distribution_Mean y3).bind fun (y10, y11) =>
      (distribution_Mean y5).bind fun (y12, y13) =>
      (distribution_Dominates y3 y5).bind fun y14 =>
      req (((y14 && (!((y11 != (0 : Int)) || (y13 != (0 : Int))))) = true → (ref01_Less y10 y12).isSome = true)) <|
      bif (y14 && (((y11 != (0 : Int)) || (y13 != (0 : Int))) || ((ref01_Less y10 y12).getD default))) then
        some false
      else
        req ((y3.Counts.length : Int) ≠ 0) <|
        req ((0 ≤ (Int.tmod (IntKind.i64.wrap n) (y3.Counts.length : Int)) ∧ (Int.tmod (IntKind.i64.wrap n) (y3.Counts.length : Int)) < (y3.Counts.length : Int))) <|
        bif (((ix y3.Counts (Int.tmod (IntKind.i64.wrap n) (y3.Counts.length : Int))) == (0 : Int)) || ((IntKind.i64.wrap ((Int.tmod (IntKind.i64.wrap n) (y3.Counts.length : Int)) + (1 : Int))) == (y3.Counts.length : Int))) then
          (law32_sane).bind fun y15 =>
          some y15
        else
          req (y3.Counts.length * 8 ≤ 140737488355328) <|
          req ((0 ≤ (Int.tmod (IntKind.i64.wrap n) (y3.Counts.length : Int)) ∧ (Int.tmod (IntKind.i64.wrap n) (y3.Counts.length : Int)) < (y3.Counts.length : Int))) <|
          bindV (setI y3.Counts (Int.tmod (IntKind.i64.wrap n) (y3.Counts.length : Int)) (IntKind.i64.wrap ((ix y3.Counts (Int.tmod (IntKind.i64.wrap n) (y3.Counts.length : Int))) - (1 : Int)))) fun w =>
          req ((0 ≤ (IntKind.i64.wrap ((Int.tmod (IntKind.i64.wrap n) (y3.Counts.length : Int)) + (1 : Int))) ∧ (IntKind.i64.wrap ((Int.tmod (IntKind.i64.wrap n) (y3.Counts.length : Int)) + (1 : Int))) < (w.length : Int))) <|
          bindV (setI w (IntKind.i64.wrap ((Int.tmod (IntKind.i64.wrap n) (y3.Counts.length : Int)) + (1 : Int))) (IntKind.i64.wrap ((ix w (IntKind.i64.wrap ((Int.tmod (IntKind.i64.wrap n) (y3.Counts.length : Int)) + (1 : Int)))) + (1 : Int)))) fun w1 =>
          (distribution_Dominates (api_Distribution.mk w1) y3).bind fun y16 =>
          req ((y16 = true → (distribution_Dominates y3 (api_Distribution.mk w1)).isSome = true) ∧ ((y16 && (!((distribution_Dominates y3 (api_Distribution.mk w1)).getD default))) = true → (law32_sane).isSome = true)) <|
          some ((y16 && (!((distribution_Dominates y3 (api_Distribution.mk w1)).getD default))) && ((law32_sane).getD default))
/-- awardingbody distribution.Smooth -/
noncomputable def distribution_Smooth_j1 (d : api_Distribution) (w : List Int) : Option (api_Distribution × Int) :=
  (distribution_Add d (api_Distribution.mk w)).bind fun (y1, y2) =>
  some (y1, y2)
noncomputable def distribution_Smooth_l2 (d : api_Distribution) : (Int × (List Int)) → Option ((Int × (List Int)) ⊕ (List Int)) :=
  fun (v, w1) =>
    bif (decide (v < ((rep (d.Counts.length : Int) (0 : Int)).length : Int))) then
      req ((0 ≤ v ∧ v < (w1.length : Int))) <|
      some (.inl ((IntKind.i64.wrap (v + (1 : Int))), (setI w1 v (1 : Int))))
    else
      some (.inr w1)
noncomputable def distribution_Smooth (d : api_Distribution) : Option (api_Distribution × Int) :=
  (distribution_Valid d).bind fun y =>
  bif (!y) then
    some ((api_Distribution.mk ([] : List Int)), (1 : Int))
  else
    req ((0 ≤ (d.Counts.length : Int) ∧ (d.Counts.length : Int) * 8 ≤ 140737488355328)) <|
    (iter (distribution_Smooth_l2 d) ((0 : Int), (rep (d.Counts.length : Int) (0 : Int)))).bind fun w2 =>
    distribution_Smooth_j1 d w2
/-- awardingbody awardingbodylaw32.DistributionSmooth -/
noncomputable def law32_DistributionSmooth_j1 (y3 : api_Distribution) (y5 : api_Distribution) : Option Bool :=
  (ref01_New (IntKind.i64.wrap ((y3.Counts.length : Int) - (1 : Int))) (2 : Int)).bind fun (y7, y8) =>
  (distribution_Mean y3).bind fun (y9, y10) =>
  (distribution_Mean y5).bind fun (y11, y12) =>
  bif ((y8 != (0 : Int)) || (y12 != (0 : Int))) then
    some false
  else
    bif (y10 != (0 : Int)) then
      req ((((y11.Num == y7.Num) && (y11.Den == y7.Den)) = true → (law32_sane).isSome = true)) <|
      some (((y11.Num == y7.Num) && (y11.Den == y7.Den)) && ((law32_sane).getD default))
    else
      (ref01_Less y11 y9).bind fun y13 =>
      req ((y13 = true → (ref01_Less y11 y7).isSome = true) ∧ ((!(y13 && ((ref01_Less y11 y7).getD default))) = true → (ref01_Less y9 y11).isSome = true) ∧ (((!(y13 && ((ref01_Less y11 y7).getD default))) && ((ref01_Less y9 y11).getD default)) = true → (ref01_Less y7 y11).isSome = true) ∧ (((!(y13 && ((ref01_Less y11 y7).getD default))) && (!(((ref01_Less y9 y11).getD default) && ((ref01_Less y7 y11).getD default)))) = true → (law32_sane).isSome = true)) <|
      some (((!(y13 && ((ref01_Less y11 y7).getD default))) && (!(((ref01_Less y9 y11).getD default) && ((ref01_Less y7 y11).getD default)))) && ((law32_sane).getD default))
noncomputable def law32_DistributionSmooth_l2 (y3 : api_Distribution) (y5 : api_Distribution) : Int → Option (Int ⊕ (Unit ⊕ Bool)) :=
  fun v =>
    bif (decide (v < (y5.Counts.length : Int))) then
      req ((0 ≤ v ∧ v < (y5.Counts.length : Int)) ∧ (0 ≤ v ∧ v < (y3.Counts.length : Int))) <|
      bif ((ix y5.Counts v) != (IntKind.i64.wrap ((ix y3.Counts v) + (1 : Int)))) then
        some (.inr (.inr false))
      else
        some (.inl (IntKind.i64.wrap (v + (1 : Int))))
    else
      some (.inr (.inl ()))
noncomputable def law32_DistributionSmooth (t : List Int) : Option Bool :=
  (mark_Light t).bind fun y =>
  bif (!y) then
    (law32_sane).bind fun y1 =>
    some y1
  else
    (mark_Roll t).bind fun y2 =>
    (mark_Dice_Distribution y2 (8 : Int) false).bind fun (y3, y4) =>
    (distribution_Smooth y3).bind fun (y5, y6) =>
    bif ((y6 != (0 : Int)) || ((y5.Counts.length : Int) != (y3.Counts.length : Int))) then
      some false
    else
      (iter (law32_DistributionSmooth_l2 y3 y5) (0 : Int)).bind fun x_ =>
      match x_ with
      | .inl () => law32_DistributionSmooth_j1 y3 y5
      | .inr t_ => some t_
/-- awardingbody distribution.Make -/
noncomputable def distribution_Make_j1 (w : List Int) : Option (api_Distribution × Int) :=
  some ((api_Distribution.mk w), (0 : Int))
noncomputable def distribution_Make_l2 (scores : List Int) : (Int × (List Int)) → Option ((Int × (List Int)) ⊕ (List Int)) :=
  fun (v, w1) =>
    bif (decide (v < (scores.length : Int))) then
      req ((0 ≤ v ∧ v < (scores.length : Int))) <|
      req ((0 ≤ (ix scores v) ∧ (ix scores v) < (w1.length : Int))) <|
      bindV (setI w1 (ix scores v) (IntKind.i64.wrap ((ix w1 (ix scores v)) + (1 : Int)))) fun w3 =>
      some (.inl ((IntKind.i64.wrap (v + (1 : Int))), w3))
    else
      some (.inr w1)
noncomputable def distribution_Make_j3 (scores : List Int) (most : Int) : Option (api_Distribution × Int) :=
  bif (decide ((1048576 : Int) < (scores.length : Int))) then
    some ((api_Distribution.mk ([] : List Int)), (3 : Int))
  else
    req ((0 ≤ (IntKind.i64.wrap (most + (1 : Int))) ∧ (IntKind.i64.wrap (most + (1 : Int))) * 8 ≤ 140737488355328)) <|
    (iter (distribution_Make_l2 scores) ((0 : Int), (rep (IntKind.i64.wrap (most + (1 : Int))) (0 : Int)))).bind fun w2 =>
    distribution_Make_j1 w2
noncomputable def distribution_Make_l4 (scores : List Int) (most : Int) : Int → Option (Int ⊕ (Unit ⊕ (api_Distribution × Int))) :=
  fun v1 =>
    bif (decide (v1 < (scores.length : Int))) then
      req ((0 ≤ v1 ∧ v1 < (scores.length : Int))) <|
      bif ((decide ((ix scores v1) < (0 : Int))) || (decide (most < (ix scores v1)))) then
        some (.inr (.inr ((api_Distribution.mk ([] : List Int)), (2 : Int))))
      else
        some (.inl (IntKind.i64.wrap (v1 + (1 : Int))))
    else
      some (.inr (.inl ()))
noncomputable def distribution_Make (scores : List Int) (most : Int) : Option (api_Distribution × Int) :=
  bif ((decide (most < (0 : Int))) || (decide ((200 : Int) < most))) then
    some ((api_Distribution.mk ([] : List Int)), (2 : Int))
  else
    (iter (distribution_Make_l4 scores most) (0 : Int)).bind fun x_ =>
    match x_ with
    | .inl () => distribution_Make_j3 scores most
    | .inr t_ => some t_
/-- awardingbody awardingbodyref32.Same -/
noncomputable def ref32_Same_j1  : Option Bool :=
  some true
noncomputable def ref32_Same_l2 (a : api_Distribution) (b : api_Distribution) : Int → Option (Int ⊕ (Unit ⊕ Bool)) :=
  fun i =>
    bif (decide (i < (a.Counts.length : Int))) then
      req ((0 ≤ i ∧ i < (a.Counts.length : Int)) ∧ (0 ≤ i ∧ i < (b.Counts.length : Int))) <|
      bif ((ix a.Counts i) != (ix b.Counts i)) then
        some (.inr (.inr false))
      else
        some (.inl (IntKind.i64.wrap (i + (1 : Int))))
    else
      some (.inr (.inl ()))
noncomputable def ref32_Same (a : api_Distribution) (b : api_Distribution) : Option Bool :=
  bif ((a.Counts.length : Int) != (b.Counts.length : Int)) then
    some false
  else
    (iter (ref32_Same_l2 a b) (0 : Int)).bind fun x_ =>
    match x_ with
    | .inl () => ref32_Same_j1
    | .inr t_ => some t_
/-- awardingbody awardingbodylaw32.DistributionOrder -/
noncomputable def law32_DistributionOrder_j1 (l : List Int) (sum : Int) (x : List Int) (y1 : List Int) : Option Bool :=
  (distribution_Make x (39 : Int)).bind fun (y2, y3) =>
  (distribution_Make y1 (39 : Int)).bind fun (y4, y5) =>
  req (((!((y3 != (0 : Int)) || (y5 != (0 : Int)))) = true → (ref32_Same y2 y4).isSome = true) ∧ ((!(((y3 != (0 : Int)) || (y5 != (0 : Int))) || (!((ref32_Same y2 y4).getD default)))) = true → (distribution_Count y2).isSome = true)) <|
  bif ((((y3 != (0 : Int)) || (y5 != (0 : Int))) || (!((ref32_Same y2 y4).getD default))) || (((distribution_Count y2).getD default) != (l.length : Int))) then
    some false
  else
    (distribution_Mean y2).bind fun (y6, y7) =>
    bif ((l.length : Int) == (0 : Int)) then
      req (((y7 == (10 : Int)) = true → (law32_sane).isSome = true)) <|
      some ((y7 == (10 : Int)) && ((law32_sane).getD default))
    else
      (ref01_New sum (l.length : Int)).bind fun (y8, y9) =>
      req (((((y7 == (0 : Int)) && (y9 == (0 : Int))) && ((y6.Num == y8.Num) && (y6.Den == y8.Den))) = true → (law32_sane).isSome = true)) <|
      some ((((y7 == (0 : Int)) && (y9 == (0 : Int))) && ((y6.Num == y8.Num) && (y6.Den == y8.Den))) && ((law32_sane).getD default))
noncomputable def law32_DistributionOrder_l2 (l : List Int) : (Int × Int × (List Int) × (List Int)) → Option ((Int × Int × (List Int) × (List Int)) ⊕ (Int × (List Int) × (List Int))) :=
  fun (sum1, v, x1, y10) =>
    bif (decide (v < (l.length : Int))) then
      req ((0 ≤ v ∧ v < (l.length : Int)) ∧ (x1.length + ([(IntKind.i64.wrap (Int.tmod (ix l v) (40 : Int)))]).length) * 8 ≤ 140737488355328 ∧ (0 ≤ (IntKind.i64.wrap ((IntKind.i64.wrap ((l.length : Int) - (1 : Int))) - v)) ∧ (IntKind.i64.wrap ((IntKind.i64.wrap ((l.length : Int) - (1 : Int))) - v)) < (l.length : Int)) ∧ (y10.length + ([(IntKind.i64.wrap (Int.tmod (ix l (IntKind.i64.wrap ((IntKind.i64.wrap ((l.length : Int) - (1 : Int))) - v))) (40 : Int)))]).length) * 8 ≤ 140737488355328) <|
      bindV (y10 ++ [(IntKind.i64.wrap (Int.tmod (ix l (IntKind.i64.wrap ((IntKind.i64.wrap ((l.length : Int) - (1 : Int))) - v))) (40 : Int)))]) fun y12 =>
      req ((0 ≤ v ∧ v < (l.length : Int))) <|
      bindV (IntKind.i64.wrap (sum1 + (IntKind.i64.wrap (Int.tmod (ix l v) (40 : Int))))) fun sum3 =>
      some (.inl (sum3, (IntKind.i64.wrap (v + (1 : Int))), (x1 ++ [(IntKind.i64.wrap (Int.tmod (ix l v) (40 : Int)))]), y12))
    else
      some (.inr (sum1, x1, y10))
noncomputable def law32_DistributionOrder (l : List Int) : Option Bool :=
  bif (decide ((60 : Int) < (l.length : Int))) then
    (law32_sane).bind fun y =>
    some y
  else
    (iter (law32_DistributionOrder_l2 l) ((0 : Int), (0 : Int), ([] : List Int), ([] : List Int))).bind fun (sum2, x2, y11) =>
    law32_DistributionOrder_j1 l sum2 x2 y11
end Go.LS
