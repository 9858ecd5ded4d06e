/-
  Plain functions that the program's functions compute. No condition: definitions, printed by dec.py.
-/
import Derived.Test.YtamifffofclhkaaD3
namespace Go.LS
set_option linter.all false
set_option linter.unusedSimpArgs false
set_option linter.unusedVariables false
set_option maxRecDepth 20000

/-- awardingbody awardingbodyref32.Count -/
noncomputable def ref32_Count (d : api_Distribution) : Option Int :=
  (ref32_Below d (d.Counts.length : Int)).bind fun y =>
  some y
/-- awardingbody awardingbodylaw35.BoundaryGrades -/
noncomputable def law35_BoundaryGrades_j1 (y3 : api_Distribution) (y7 : List Int) (w : List Int) (sum : Int) : Option Bool :=
  (law35_same y7 w).bind fun y9 =>
  req ((y9 = true → (ref32_Count y3).isSome = true) ∧ ((y9 && (sum == ((ref32_Count y3).getD default))) = true → (law35_sane).isSome = true)) <|
  some ((y9 && (sum == ((ref32_Count y3).getD default))) && ((law35_sane).getD default))
noncomputable def law35_BoundaryGrades_l2 (y7 : List Int) : (Int × Int) → Option ((Int × Int) ⊕ Int) :=
  fun (sum1, v) =>
    bif (decide (v < (y7.length : Int))) then
      req ((0 ≤ v ∧ v < (y7.length : Int))) <|
      some (.inl ((IntKind.i64.wrap (sum1 + (ix y7 v))), (IntKind.i64.wrap (v + (1 : Int)))))
    else
      some (.inr sum1)
noncomputable def law35_BoundaryGrades_j3 (y3 : api_Distribution) (y7 : List Int) (w : List Int) : Option Bool :=
  (iter (law35_BoundaryGrades_l2 y7) ((0 : Int), (0 : Int))).bind fun sum2 =>
  law35_BoundaryGrades_j1 y3 y7 w sum2
noncomputable def law35_BoundaryGrades_j4 (m : Int) (last1 : Int) (w3 : List Int) : Option ((Int × Int × (List Int)) ⊕ ((List Int) ⊕ Bool)) :=
  some (.inl (last1, (IntKind.i64.wrap (m + (1 : Int))), w3))
noncomputable def law35_BoundaryGrades_j5 (y3 : api_Distribution) (m : Int) (w1 : List Int) (y10 : Int) : Option ((Int × Int × (List Int)) ⊕ ((List Int) ⊕ Bool)) :=
  req ((0 ≤ y10 ∧ y10 < (w1.length : Int)) ∧ (0 ≤ m ∧ m < (y3.Counts.length : Int))) <|
  law35_BoundaryGrades_j4 m y10 (setI w1 y10 (IntKind.i64.wrap ((ix w1 y10) + (ix y3.Counts m))))
noncomputable def law35_BoundaryGrades_l6 (y5 : List Int) (m : Int) (y10 : Int) : Int → Option (Int ⊕ (Unit ⊕ ((Int × Int × (List Int)) ⊕ ((List Int) ⊕ Bool)))) :=
  fun v1 =>
    bif (decide (v1 < (y5.length : Int))) then
      req ((0 ≤ v1 ∧ v1 < (y5.length : Int))) <|
      bif (!((decide ((ix y5 v1) ≤ m)) == (decide (y10 ≤ v1)))) then
        some (.inr (.inr (.inr (.inr false))))
      else
        some (.inl (IntKind.i64.wrap (v1 + (1 : Int))))
    else
      some (.inr (.inl ()))
noncomputable def law35_BoundaryGrades_l7 (y3 : api_Distribution) (y5 : List Int) : (Int × Int × (List Int)) → Option ((Int × Int × (List Int)) ⊕ ((List Int) ⊕ Bool)) :=
  fun (last, m, w1) =>
    bif (decide (m ≤ (IntKind.i64.wrap ((y3.Counts.length : Int) - (1 : Int))))) then
      (boundary_Grade y5 m).bind fun y10 =>
      bif ((decide (last < y10)) || (decide (y10 < (0 : Int)))) then
        some (.inr (.inr false))
      else
        (iter (law35_BoundaryGrades_l6 y5 m y10) (0 : Int)).bind fun x_ =>
        match x_ with
        | .inl () => law35_BoundaryGrades_j5 y3 m w1 y10
        | .inr t_ => some t_
    else
      some (.inr (.inl w1))
noncomputable def law35_BoundaryGrades (t : List Int) : Option Bool :=
  (mark_Light t).bind fun y =>
  bif (!y) then
    (law35_sane).bind fun y1 =>
    some y1
  else
    (mark_Roll t).bind fun y2 =>
    (mark_Dice_Distribution y2 (9 : Int) false).bind fun (y3, y4) =>
    (mark_Dice_Bounds y4 (IntKind.i64.wrap ((y3.Counts.length : Int) - (1 : Int)))).bind fun (y5, y6) =>
    (boundary_Tally y3 y5).bind fun (y7, y8) =>
    bif ((y8 != (0 : Int)) || ((y7.length : Int) != (IntKind.i64.wrap ((y5.length : Int) + (1 : Int))))) then
      some false
    else
      req ((0 ≤ (y7.length : Int) ∧ (y7.length : Int) * 8 ≤ 140737488355328)) <|
      (iter (law35_BoundaryGrades_l7 y3 y5) ((y5.length : Int), (0 : Int), (rep (y7.length : Int) (0 : Int)))).bind fun x_ =>
      match x_ with
      | .inl w2 => law35_BoundaryGrades_j3 y3 y7 w2
      | .inr t_ => some t_
/-- awardingbody awardingbodylaw35.BoundaryInterpolates -/
noncomputable def law35_BoundaryInterpolates_j1 (least : Int) (most : Int) : Option Bool :=
  req ((((decide ((0 : Int) ≤ least)) && (decide ((IntKind.i64.wrap (most - least)) ≤ (1 : Int)))) = true → (law35_sane).isSome = true)) <|
  some (((decide ((0 : Int) ≤ least)) && (decide ((IntKind.i64.wrap (most - least)) ≤ (1 : Int)))) && ((law35_sane).getD default))
noncomputable def law35_BoundaryInterpolates_l2 (n : Int) (y : List Int) : (Int × Int × Int) → Option ((Int × Int × Int) ⊕ (Int × Int)) :=
  fun (least1, most1, i) =>
    bif (decide (i ≤ n)) then
      req ((0 ≤ (IntKind.i64.wrap (i - (1 : Int))) ∧ (IntKind.i64.wrap (i - (1 : Int))) < (y.length : Int)) ∧ (0 ≤ i ∧ i < (y.length : Int))) <|
      bindV (imax most1 (IntKind.i64.wrap ((ix y (IntKind.i64.wrap (i - (1 : Int)))) - (ix y i)))) fun most3 =>
      bindV (imin least1 (IntKind.i64.wrap ((ix y (IntKind.i64.wrap (i - (1 : Int)))) - (ix y i)))) fun least3 =>
      some (.inl (least3, most3, (IntKind.i64.wrap (i + (1 : Int)))))
    else
      some (.inr (least1, most1))
noncomputable def law35_BoundaryInterpolates (high : Int) (low : Int) (steps : Int) : Option Bool :=
  bindV (IntKind.i64.wrap ((1 : Int) + (Int.tmod (IntKind.i64.wrap steps) (8 : Int)))) fun n =>
  bindV (IntKind.i64.wrap ((Int.tmod (IntKind.i64.wrap low) (100 : Int)) + (Int.tmod (IntKind.i64.wrap high) (100 : Int)))) fun hi =>
  (boundary_Interpolate hi (Int.tmod (IntKind.i64.wrap low) (100 : Int)) n).bind fun (y, y1) =>
  req (((!((y1 != (0 : Int)) || ((y.length : Int) != (IntKind.i64.wrap (n + (1 : Int)))))) = true → 0 ≤ (0 : Int) ∧ (0 : Int) < (y.length : Int)) ∧ ((!(((y1 != (0 : Int)) || ((y.length : Int) != (IntKind.i64.wrap (n + (1 : Int))))) || ((ix y (0 : Int)) != hi))) = true → 0 ≤ n ∧ n < (y.length : Int))) <|
  bif ((((y1 != (0 : Int)) || ((y.length : Int) != (IntKind.i64.wrap (n + (1 : Int))))) || ((ix y (0 : Int)) != hi)) || ((ix y n) != (Int.tmod (IntKind.i64.wrap low) (100 : Int)))) then
    some false
  else
    (iter (law35_BoundaryInterpolates_l2 n y) ((200 : Int), (0 : Int), (1 : Int))).bind fun (least2, most2) =>
    law35_BoundaryInterpolates_j1 least2 most2
/-- awardingbody boundary.nearest -/
noncomputable def boundary_nearest_j1 (best : Int) : Option Int :=
  some best
noncomputable def boundary_nearest_j2 (v : Int) (best3 : Int) : Option ((Int × Int) ⊕ Int) :=
  some (.inl (best3, (IntKind.i64.wrap (v + (1 : Int)))))
noncomputable def boundary_nearest_l3 (share : api_Ratio) (y : List Int) : (Int × Int) → Option ((Int × Int) ⊕ Int) :=
  fun (best1, v) =>
    bif (decide (v < (y.length : Int))) then
      req ((0 ≤ v ∧ v < (y.length : Int))) <|
      req ((0 ≤ best1 ∧ best1 < (y.length : Int)) ∧ ((decide ((ix y v) < (ix y best1))) = true → 0 ≤ best1 ∧ best1 < (y.length : Int)) ∧ ((decide ((ix y v) < (ix y best1))) = true → 0 ≤ (0 : Int) ∧ (0 : Int) < (y.length : Int)) ∧ ((decide ((ix y v) < (ix y best1))) = true → (boundary_compareShare (IntKind.i64.wrap ((ix y v) + (ix y best1))) (IntKind.i64.wrap ((2 : Int) * (ix y (0 : Int)))) share).isSome = true)) <|
      bif ((decide ((ix y v) < (ix y best1))) && (decide ((0 : Int) < ((boundary_compareShare (IntKind.i64.wrap ((ix y v) + (ix y best1))) (IntKind.i64.wrap ((2 : Int) * (ix y (0 : Int)))) share).getD default)))) then
        boundary_nearest_j2 v v
      else
        boundary_nearest_j2 v best1
    else
      some (.inr best1)
noncomputable def boundary_nearest (d : api_Distribution) (share : api_Ratio) : Option Int :=
  (boundary_reaching d).bind fun y =>
  (iter (boundary_nearest_l3 share y) ((0 : Int), (0 : Int))).bind fun best2 =>
  boundary_nearest_j1 best2
/-- awardingbody boundary.Reference -/
noncomputable def boundary_Reference_j1 (w : List Int) : Option ((List Int) × Int) :=
  some (w, (0 : Int))
noncomputable def boundary_Reference_j2 (v : Int) (w3 : List Int) : Option ((Int × (List Int)) ⊕ ((List Int) ⊕ ((List Int) × Int))) :=
  some (.inl ((IntKind.i64.wrap (v + (1 : Int))), w3))
noncomputable def boundary_Reference_l3 (d : api_Distribution) (b : List Int) (y4 : List Int) : (Int × (List Int)) → Option ((Int × (List Int)) ⊕ ((List Int) ⊕ ((List Int) × Int))) :=
  fun (v, w1) =>
    bif (decide (v < (b.length : Int))) then
      req ((0 ≤ v ∧ v < (b.length : Int))) <|
      req ((0 ≤ (ix b v) ∧ (ix b v) < (y4.length : Int)) ∧ (0 ≤ (0 : Int) ∧ (0 : Int) < (y4.length : Int))) <|
      (ratio_New (ix y4 (ix b v)) (ix y4 (0 : Int))).bind fun (y5, y6) =>
      bif (y6 != (0 : Int)) then
        some (.inr (.inr (([] : List Int), y6)))
      else
        (boundary_nearest d y5).bind fun y7 =>
        req ((0 ≤ v ∧ v < (w1.length : Int))) <|
        bif (decide ((0 : Int) < v)) then
          req ((0 ≤ v ∧ v < (w1.length : Int)) ∧ (0 ≤ (IntKind.i64.wrap (v - (1 : Int))) ∧ (IntKind.i64.wrap (v - (1 : Int))) < (w1.length : Int))) <|
          bindV (setI (setI w1 v y7) v (imin (ix (setI w1 v y7) v) (ix (setI w1 v y7) (IntKind.i64.wrap (v - (1 : Int)))))) fun w4 =>
          boundary_Reference_j2 v w4
        else
          boundary_Reference_j2 v (setI w1 v y7)
    else
      some (.inr (.inl w1))
noncomputable def boundary_Reference (d : api_Distribution) (reference : api_Distribution) (b : List Int) : Option ((List Int) × Int) :=
  (distribution_Valid d).bind fun y =>
  req (((!(!y)) = true → (distribution_Valid reference).isSome = true)) <|
  bif ((!y) || (!((distribution_Valid reference).getD default))) then
    some (([] : List Int), (1 : Int))
  else
    (distribution_Count d).bind fun y1 =>
    req (((!(y1 == (0 : Int))) = true → (distribution_Count reference).isSome = true)) <|
    bif ((y1 == (0 : Int)) || (((distribution_Count reference).getD default) == (0 : Int))) then
      some (([] : List Int), (10 : Int))
    else
      (boundary_greatest reference).bind fun y2 =>
      (boundary_Check b y2).bind fun y3 =>
      bif (y3 != (0 : Int)) then
        some (([] : List Int), y3)
      else
        (boundary_reaching reference).bind fun y4 =>
        req ((0 ≤ (b.length : Int) ∧ (b.length : Int) * 8 ≤ 140737488355328)) <|
        (iter (boundary_Reference_l3 d b y4) ((0 : Int), (rep (b.length : Int) (0 : Int)))).bind fun x_ =>
        match x_ with
        | .inl w2 => boundary_Reference_j1 w2
        | .inr t_ => some t_
/-- awardingbody awardingbodylaw35.BoundaryReference -/
noncomputable def law35_BoundaryReference_j1 (y3 : api_Distribution) (y5 : api_Distribution) (y9 : List Int) (y17 : List Int) (w : List Int) (w1 : List Int) : Option Bool :=
  (boundary_Reference (api_Distribution.mk w) y5 y9).bind fun (y19, y20) =>
  (boundary_Reference y3 (api_Distribution.mk w1) y9).bind fun (y21, y22) =>
  req ((((y20 == (0 : Int)) && (y22 == (0 : Int))) = true → (law35_same y19 y17).isSome = true) ∧ ((((y20 == (0 : Int)) && (y22 == (0 : Int))) && ((law35_same y19 y17).getD default)) = true → (law35_same y21 y17).isSome = true) ∧ (((((y20 == (0 : Int)) && (y22 == (0 : Int))) && ((law35_same y19 y17).getD default)) && ((law35_same y21 y17).getD default)) = true → (law35_sane).isSome = true)) <|
  some (((((y20 == (0 : Int)) && (y22 == (0 : Int))) && ((law35_same y19 y17).getD default)) && ((law35_same y21 y17).getD default)) && ((law35_sane).getD default))
noncomputable def law35_BoundaryReference_l2 (y5 : api_Distribution) (k : Int) : (Int × (List Int)) → Option ((Int × (List Int)) ⊕ (List Int)) :=
  fun (v, w2) =>
    bif (decide (v < (y5.Counts.length : Int))) then
      req ((0 ≤ v ∧ v < (y5.Counts.length : Int))) <|
      req ((w2.length + ([(IntKind.i64.wrap ((ix y5.Counts v) * k))]).length) * 8 ≤ 140737488355328) <|
      some (.inl ((IntKind.i64.wrap (v + (1 : Int))), (w2 ++ [(IntKind.i64.wrap ((ix y5.Counts v) * k))])))
    else
      some (.inr w2)
noncomputable def law35_BoundaryReference_j3 (y3 : api_Distribution) (y5 : api_Distribution) (y9 : List Int) (y17 : List Int) (k : Int) (w : List Int) : Option Bool :=
  (iter (law35_BoundaryReference_l2 y5 k) ((0 : Int), ([] : List Int))).bind fun w3 =>
  law35_BoundaryReference_j1 y3 y5 y9 y17 w w3
noncomputable def law35_BoundaryReference_l4 (y3 : api_Distribution) (k : Int) : (Int × (List Int)) → Option ((Int × (List Int)) ⊕ (List Int)) :=
  fun (v1, w4) =>
    bif (decide (v1 < (y3.Counts.length : Int))) then
      req ((0 ≤ v1 ∧ v1 < (y3.Counts.length : Int))) <|
      req ((w4.length + ([(IntKind.i64.wrap ((ix y3.Counts v1) * k))]).length) * 8 ≤ 140737488355328) <|
      some (.inl ((IntKind.i64.wrap (v1 + (1 : Int))), (w4 ++ [(IntKind.i64.wrap ((ix y3.Counts v1) * k))])))
    else
      some (.inr w4)
noncomputable def law35_BoundaryReference_j5 (times : Int) (y3 : api_Distribution) (y5 : api_Distribution) (y9 : List Int) (y17 : List Int) : Option Bool :=
  bindV (IntKind.i64.wrap ((1 : Int) + (IntKind.i64.wrap (Int.tmod times (5 : Int))))) fun k =>
  (iter (law35_BoundaryReference_l4 y3 k) ((0 : Int), ([] : List Int))).bind fun w5 =>
  law35_BoundaryReference_j3 y3 y5 y9 y17 k w5
noncomputable def law35_BoundaryReference_l6 (y17 : List Int) : Int → Option (Int ⊕ (Unit ⊕ Bool)) :=
  fun i =>
    bif (decide (i < (y17.length : Int))) then
      req ((0 ≤ i ∧ i < (y17.length : Int)) ∧ (0 ≤ (IntKind.i64.wrap (i - (1 : Int))) ∧ (IntKind.i64.wrap (i - (1 : Int))) < (y17.length : Int))) <|
      bif (decide ((ix y17 (IntKind.i64.wrap (i - (1 : Int)))) < (ix y17 i))) then
        some (.inr (.inr false))
      else
        some (.inl (IntKind.i64.wrap (i + (1 : Int))))
    else
      some (.inr (.inl ()))
noncomputable def law35_BoundaryReference (t : List Int) (times : Int) : Option Bool :=
  (mark_Light t).bind fun y =>
  bif (!y) then
    (law35_sane).bind fun y1 =>
    some y1
  else
    (mark_Roll t).bind fun y2 =>
    (mark_Dice_Distribution y2 (9 : Int) false).bind fun (y3, y4) =>
    (mark_Dice_Distribution y4 (9 : Int) false).bind fun (y5, y6) =>
    (ref32_Count y3).bind fun y7 =>
    req (((!(y7 == (0 : Int))) = true → (ref32_Count y5).isSome = true)) <|
    bif ((y7 == (0 : Int)) || (((ref32_Count y5).getD default) == (0 : Int))) then
      (law35_sane).bind fun y8 =>
      some y8
    else
      (mark_Dice_Bounds y6 (IntKind.i64.wrap ((y5.Counts.length : Int) - (1 : Int)))).bind fun (y9, y10) =>
      (boundary_Reference y5 y5 y9).bind fun (y11, y12) =>
      (boundary_Tally y5 y11).bind fun (y13, y14) =>
      (boundary_Tally y5 y9).bind fun (y15, y16) =>
      (boundary_Reference y3 y5 y9).bind fun (y17, y18) =>
      req (((!((((y12 != (0 : Int)) || (y14 != (0 : Int))) || (y16 != (0 : Int))) || (y18 != (0 : Int)))) = true → (law35_same y13 y15).isSome = true)) <|
      bif (((((y12 != (0 : Int)) || (y14 != (0 : Int))) || (y16 != (0 : Int))) || (y18 != (0 : Int))) || (!((law35_same y13 y15).getD default))) then
        some false
      else
        (iter (law35_BoundaryReference_l6 y17) (1 : Int)).bind fun x_ =>
        match x_ with
        | .inl () => law35_BoundaryReference_j5 times y3 y5 y9 y17
        | .inr t_ => some t_
end Go.LS
