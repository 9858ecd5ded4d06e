/-
  Plain functions that the program's functions compute. No condition: definitions, printed by dec.py.
-/
import Derived.Test.YtamifffofclhkaaD2
namespace Go.LS
set_option linter.all false
set_option linter.unusedSimpArgs false
set_option linter.unusedVariables false
set_option maxRecDepth 20000

/-- awardingbody boundary.reaching -/
noncomputable def boundary_reaching_j1 (w : List Int) : Option (List Int) :=
  some w
noncomputable def boundary_reaching_l2 (d : api_Distribution) : (Int × (List Int)) → Option ((Int × (List Int)) ⊕ (List Int)) :=
  fun (i, w1) =>
    bif (decide ((0 : Int) ≤ i)) then
      req ((0 ≤ (IntKind.i64.wrap (i + (1 : Int))) ∧ (IntKind.i64.wrap (i + (1 : Int))) < (w1.length : Int)) ∧ (0 ≤ i ∧ i < (d.Counts.length : Int)) ∧ (0 ≤ i ∧ i < (w1.length : Int))) <|
      bindV (setI w1 i (IntKind.i64.wrap ((ix w1 (IntKind.i64.wrap (i + (1 : Int)))) + (ix d.Counts i)))) fun w3 =>
      some (.inl ((IntKind.i64.wrap (i - (1 : Int))), w3))
    else
      some (.inr w1)
noncomputable def boundary_reaching (d : api_Distribution) : Option (List Int) :=
  req ((0 ≤ (IntKind.i64.wrap ((d.Counts.length : Int) + (1 : Int))) ∧ (IntKind.i64.wrap ((d.Counts.length : Int) + (1 : Int))) * 8 ≤ 140737488355328)) <|
  (boundary_greatest d).bind fun y =>
  (iter (boundary_reaching_l2 d) (y, (rep (IntKind.i64.wrap ((d.Counts.length : Int) + (1 : Int))) (0 : Int)))).bind fun w2 =>
  boundary_reaching_j1 w2
/-- awardingbody ratio.reduced -/
noncomputable def ratio_reduced (num : ratio_signed) (den : Int) : Option (api_Ratio × Int) :=
  (ratio_wide_mod num.abs den).bind fun y =>
  (ratio_gcd y den).bind fun y1 =>
  (ratio_wide_over num.abs y1).bind fun y2 =>
  req (y1 ≠ 0) <|
  (ratio_fitted num.neg y2 (ratio_wide.mk (0 : Int) (IntKind.u64.wrap (Int.tdiv den y1)))).bind fun (y3, y4) =>
  some (y3, y4)
/-- awardingbody ratio.New -/
noncomputable def ratio_New (num : Int) (den : Int) : Option (api_Ratio × Int) :=
  bif (den == (0 : Int)) then
    some ((api_Ratio.mk (0 : Int) (0 : Int)), (2 : Int))
  else
    (ratio_magnitude num).bind fun y =>
    (ratio_magnitude den).bind fun y1 =>
    (ratio_reduced (ratio_signed.mk (!((decide (num < (0 : Int))) == (decide (den < (0 : Int))))) (ratio_wide.mk (0 : Int) y)) y1).bind fun (y2, y3) =>
    some (y2, y3)
/-- awardingbody boundary.compareShare -/
noncomputable def boundary_compareShare (part : Int) (all : Int) (share : api_Ratio) : Option Int :=
  (ratio_New part all).bind fun (y, y1) =>
  (ratio_Compare y share).bind fun y2 =>
  some y2
/-- awardingbody boundary.Share -/
noncomputable def boundary_Share_j1  : Option (Int × Int) :=
  some ((0 : Int), (0 : Int))
noncomputable def boundary_Share_l2 (share : api_Ratio) (y1 : List Int) : Int → Option (Int ⊕ (Unit ⊕ (Int × Int))) :=
  fun b =>
    bif (decide ((0 : Int) < b)) then
      req ((0 ≤ b ∧ b < (y1.length : Int)) ∧ (0 ≤ (0 : Int) ∧ (0 : Int) < (y1.length : Int))) <|
      (boundary_compareShare (ix y1 b) (ix y1 (0 : Int)) share).bind fun y2 =>
      bif (decide ((0 : Int) ≤ y2)) then
        some (.inr (.inr (b, (0 : Int))))
      else
        some (.inl (IntKind.i64.wrap (b - (1 : Int))))
    else
      some (.inr (.inl ()))
noncomputable def boundary_Share (d : api_Distribution) (share : api_Ratio) : Option (Int × Int) :=
  (boundary_check d share).bind fun y =>
  bif (y != (0 : Int)) then
    some ((0 : Int), y)
  else
    (boundary_reaching d).bind fun y1 =>
    (iter (boundary_Share_l2 share y1) (IntKind.i64.wrap ((y1.length : Int) - (1 : Int)))).bind fun x_ =>
    match x_ with
    | .inl () => boundary_Share_j1
    | .inr t_ => some t_
/-- awardingbody awardingbodylaw35.sane -/
noncomputable def law35_sane  : Option Bool :=
  (boundary_Share (api_Distribution.mk ([(1 : Int), (1 : Int), (1 : Int), (1 : Int)])) (api_Ratio.mk (1 : Int) (2 : Int))).bind fun (y, y1) =>
  (boundary_Share (api_Distribution.mk ([(1 : Int), (1 : Int), (1 : Int), (1 : Int)])) (api_Ratio.mk (0 : Int) (1 : Int))).bind fun (y2, y3) =>
  (boundary_Interpolate (70 : Int) (40 : Int) (4 : Int)).bind fun (y4, y5) =>
  (boundary_Tally (api_Distribution.mk ([(1 : Int), (1 : Int), (1 : Int), (1 : Int)])) ([(3 : Int), (1 : Int)])).bind fun (y6, y7) =>
  req ((((((((y1 == (0 : Int)) && (y3 == (0 : Int))) && (y5 == (0 : Int))) && (y7 == (0 : Int))) && (y == (2 : Int))) && (y2 == (4 : Int))) = true → (law35_same y4 ([(70 : Int), (62 : Int), (55 : Int), (47 : Int), (40 : Int)])).isSome = true) ∧ ((((((((y1 == (0 : Int)) && (y3 == (0 : Int))) && (y5 == (0 : Int))) && (y7 == (0 : Int))) && (y == (2 : Int))) && (y2 == (4 : Int))) && ((law35_same y4 ([(70 : Int), (62 : Int), (55 : Int), (47 : Int), (40 : Int)])).getD default)) = true → (law35_same y6 ([(1 : Int), (2 : Int), (1 : Int)])).isSome = true) ∧ (((((((((y1 == (0 : Int)) && (y3 == (0 : Int))) && (y5 == (0 : Int))) && (y7 == (0 : Int))) && (y == (2 : Int))) && (y2 == (4 : Int))) && ((law35_same y4 ([(70 : Int), (62 : Int), (55 : Int), (47 : Int), (40 : Int)])).getD default)) && ((law35_same y6 ([(1 : Int), (2 : Int), (1 : Int)])).getD default)) = true → (boundary_Grade ([(3 : Int), (1 : Int)]) (2 : Int)).isSome = true) ∧ ((((((((((y1 == (0 : Int)) && (y3 == (0 : Int))) && (y5 == (0 : Int))) && (y7 == (0 : Int))) && (y == (2 : Int))) && (y2 == (4 : Int))) && ((law35_same y4 ([(70 : Int), (62 : Int), (55 : Int), (47 : Int), (40 : Int)])).getD default)) && ((law35_same y6 ([(1 : Int), (2 : Int), (1 : Int)])).getD default)) && (((boundary_Grade ([(3 : Int), (1 : Int)]) (2 : Int)).getD default) == (1 : Int))) = true → (boundary_Check ([(3 : Int), (1 : Int)]) (3 : Int)).isSome = true)) <|
  some ((((((((((y1 == (0 : Int)) && (y3 == (0 : Int))) && (y5 == (0 : Int))) && (y7 == (0 : Int))) && (y == (2 : Int))) && (y2 == (4 : Int))) && ((law35_same y4 ([(70 : Int), (62 : Int), (55 : Int), (47 : Int), (40 : Int)])).getD default)) && ((law35_same y6 ([(1 : Int), (2 : Int), (1 : Int)])).getD default)) && (((boundary_Grade ([(3 : Int), (1 : Int)]) (2 : Int)).getD default) == (1 : Int))) && (((boundary_Check ([(3 : Int), (1 : Int)]) (3 : Int)).getD default) == (0 : Int)))
/-- awardingbody awardingbodylaw35.BoundaryTransfers -/
noncomputable def law35_BoundaryTransfers_j1  : Option Bool :=
  (law35_sane).bind fun y9 =>
  some y9
noncomputable def law35_BoundaryTransfers_l2 (most : Int) (y3 : api_Curve) (y5 : List Int) (y7 : List Int) : Int → Option (Int ⊕ (Unit ⊕ Bool)) :=
  fun m =>
    bif (decide (m ≤ (IntKind.i64.wrap (Int.tmod most (30 : Int))))) then
      (conversion_Convert y3 m (200 : Int)).bind fun (y10, y11) =>
      req (((!(y11 != (0 : Int))) = true → (boundary_Grade y7 m).isSome = true) ∧ ((!(y11 != (0 : Int))) = true → (boundary_Grade y5 y10).isSome = true)) <|
      bif ((y11 != (0 : Int)) || (((boundary_Grade y7 m).getD default) != ((boundary_Grade y5 y10).getD default))) then
        some (.inr (.inr false))
      else
        some (.inl (IntKind.i64.wrap (m + (1 : Int))))
    else
      some (.inr (.inl ()))
noncomputable def law35_BoundaryTransfers (t : List Int) (most : Int) : Option Bool :=
  (mark_Light t).bind fun y =>
  bif (!y) then
    (law35_sane).bind fun y1 =>
    some y1
  else
    (mark_Roll t).bind fun y2 =>
    (mark_Dice_Curve y2).bind fun (y3, y4) =>
    (mark_Dice_Bounds y4 (40 : Int)).bind fun (y5, y6) =>
    (boundary_Transfer y5 y3 (IntKind.i64.wrap (Int.tmod most (30 : Int)))).bind fun (y7, y8) =>
    req (((!((y8 != (0 : Int)) || ((y7.length : Int) != (y5.length : Int)))) = true → (boundary_Check y7 (IntKind.i64.wrap (Int.tmod most (30 : Int)))).isSome = true)) <|
    bif (((y8 != (0 : Int)) || ((y7.length : Int) != (y5.length : Int))) || (((boundary_Check y7 (IntKind.i64.wrap (Int.tmod most (30 : Int)))).getD default) != (0 : Int))) then
      some false
    else
      (iter (law35_BoundaryTransfers_l2 most y3 y5 y7) (0 : Int)).bind fun x_ =>
      match x_ with
      | .inl () => law35_BoundaryTransfers_j1
      | .inr t_ => some t_
end Go.LS
