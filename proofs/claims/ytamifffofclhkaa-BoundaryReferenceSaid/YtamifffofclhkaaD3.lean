/-
  Plain functions that the program's functions compute. No condition: definitions, printed by dec.py.
-/
import Derived.Test.YtamifffofclhkaaD2
namespace Go.LS
set_option linter.all false
set_option linter.unusedSimpArgs false
set_option linter.unusedVariables false
set_option maxRecDepth 20000

/-- cmp.isNaN[uint64] -/
noncomputable def cmp_isNaN_uint64 (x : Int) : Option Bool :=
  some (x != x)
/-- cmp.Compare[uint64] -/
noncomputable def cmp_Compare_uint64 (x : Int) (y : Int) : Option Int :=
  (cmp_isNaN_uint64 x).bind fun y1 =>
  (cmp_isNaN_uint64 y).bind fun y2 =>
  bif y1 then
    bif y2 then
      some (0 : Int)
    else
      some (-1 : Int)
  else
    bif y2 then
      some (1 : Int)
    else
      bif (decide (x < y)) then
        some (-1 : Int)
      else
        bif (decide (y < x)) then
          some (1 : Int)
        else
          some (0 : Int)
/-- (awardingbody ratio.wide).compare -/
noncomputable def ratio_wide_compare (a : ratio_wide) (b : ratio_wide) : Option Int :=
  (cmp_Compare_uint64 a.hi b.hi).bind fun y =>
  bif (y != (0 : Int)) then
    some y
  else
    (cmp_Compare_uint64 a.lo b.lo).bind fun y1 =>
    some y1
/-- awardingbody ratio.Compare -/
noncomputable def ratio_Compare (a : api_Ratio) (b : api_Ratio) : Option Int :=
  (ratio_Valid a).bind fun y =>
  req (((!(!y)) = true → (ratio_Valid b).isSome = true)) <|
  bif ((!y) || (!((ratio_Valid b).getD default))) then
    some (0 : Int)
  else
    (ratio_signedProduct a.Num (IntKind.u64.wrap b.Den)).bind fun y1 =>
    (ratio_signedProduct b.Num (IntKind.u64.wrap a.Den)).bind fun y2 =>
    bif (y1.neg && y2.neg) then
      (ratio_wide_compare y2.abs y1.abs).bind fun y3 =>
      some y3
    else
      bif y1.neg then
        some (-1 : Int)
      else
        bif y2.neg then
          some (1 : Int)
        else
          (ratio_wide_compare y1.abs y2.abs).bind fun y4 =>
          some y4
/-- awardingbody boundary.compareShare -/
noncomputable def boundary_compareShare (part : Int) (all : Int) (share : api_Ratio) : Option Int :=
  (ratio_New part all).bind fun (y, y1) =>
  (ratio_Compare y share).bind fun y2 =>
  some y2
/-- awardingbody boundary.Share -/
noncomputable def boundary_Share_j1  : Option (Int × Int) :=
  some ((0 : Int), (0 : Int))
noncomputable def boundary_Share_l2 (share : api_Ratio) (y1 : List Int) : Int → Option (Int ⊕ (Unit ⊕ (Int × Int))) :=
  fun b =>
    bif (decide ((0 : Int) < b)) then
      req ((0 ≤ b ∧ b < (y1.length : Int)) ∧ (0 ≤ (0 : Int) ∧ (0 : Int) < (y1.length : Int))) <|
      (boundary_compareShare (ix y1 b) (ix y1 (0 : Int)) share).bind fun y2 =>
      bif (decide ((0 : Int) ≤ y2)) then
        some (.inr (.inr (b, (0 : Int))))
      else
        some (.inl (IntKind.i64.wrap (b - (1 : Int))))
    else
      some (.inr (.inl ()))
noncomputable def boundary_Share (d : api_Distribution) (share : api_Ratio) : Option (Int × Int) :=
  (boundary_check d share).bind fun y =>
  bif (y != (0 : Int)) then
    some ((0 : Int), y)
  else
    (boundary_reaching d).bind fun y1 =>
    (iter (boundary_Share_l2 share y1) (IntKind.i64.wrap ((y1.length : Int) - (1 : Int)))).bind fun x_ =>
    match x_ with
    | .inl () => boundary_Share_j1
    | .inr t_ => some t_
/-- awardingbody awardingbodylaw35.sane -/
noncomputable def law35_sane  : Option Bool :=
  (boundary_Share (api_Distribution.mk ([(1 : Int), (1 : Int), (1 : Int), (1 : Int)])) (api_Ratio.mk (1 : Int) (2 : Int))).bind fun (y, y1) =>
  (boundary_Share (api_Distribution.mk ([(1 : Int), (1 : Int), (1 : Int), (1 : Int)])) (api_Ratio.mk (0 : Int) (1 : Int))).bind fun (y2, y3) =>
  (boundary_Interpolate (70 : Int) (40 : Int) (4 : Int)).bind fun (y4, y5) =>
  (boundary_Tally (api_Distribution.mk ([(1 : Int), (1 : Int), (1 : Int), (1 : Int)])) ([(3 : Int), (1 : Int)])).bind fun (y6, y7) =>
  req ((((((((y1 == (0 : Int)) && (y3 == (0 : Int))) && (y5 == (0 : Int))) && (y7 == (0 : Int))) && (y == (2 : Int))) && (y2 == (4 : Int))) = true → (law35_same y4 ([(70 : Int), (62 : Int), (55 : Int), (47 : Int), (40 : Int)])).isSome = true) ∧ ((((((((y1 == (0 : Int)) && (y3 == (0 : Int))) && (y5 == (0 : Int))) && (y7 == (0 : Int))) && (y == (2 : Int))) && (y2 == (4 : Int))) && ((law35_same y4 ([(70 : Int), (62 : Int), (55 : Int), (47 : Int), (40 : Int)])).getD default)) = true → (law35_same y6 ([(1 : Int), (2 : Int), (1 : Int)])).isSome = true) ∧ (((((((((y1 == (0 : Int)) && (y3 == (0 : Int))) && (y5 == (0 : Int))) && (y7 == (0 : Int))) && (y == (2 : Int))) && (y2 == (4 : Int))) && ((law35_same y4 ([(70 : Int), (62 : Int), (55 : Int), (47 : Int), (40 : Int)])).getD default)) && ((law35_same y6 ([(1 : Int), (2 : Int), (1 : Int)])).getD default)) = true → (boundary_Grade ([(3 : Int), (1 : Int)]) (2 : Int)).isSome = true) ∧ ((((((((((y1 == (0 : Int)) && (y3 == (0 : Int))) && (y5 == (0 : Int))) && (y7 == (0 : Int))) && (y == (2 : Int))) && (y2 == (4 : Int))) && ((law35_same y4 ([(70 : Int), (62 : Int), (55 : Int), (47 : Int), (40 : Int)])).getD default)) && ((law35_same y6 ([(1 : Int), (2 : Int), (1 : Int)])).getD default)) && (((boundary_Grade ([(3 : Int), (1 : Int)]) (2 : Int)).getD default) == (1 : Int))) = true → (boundary_Check ([(3 : Int), (1 : Int)]) (3 : Int)).isSome = true)) <|
  some ((((((((((y1 == (0 : Int)) && (y3 == (0 : Int))) && (y5 == (0 : Int))) && (y7 == (0 : Int))) && (y == (2 : Int))) && (y2 == (4 : Int))) && ((law35_same y4 ([(70 : Int), (62 : Int), (55 : Int), (47 : Int), (40 : Int)])).getD default)) && ((law35_same y6 ([(1 : Int), (2 : Int), (1 : Int)])).getD default)) && (((boundary_Grade ([(3 : Int), (1 : Int)]) (2 : Int)).getD default) == (1 : Int))) && (((boundary_Check ([(3 : Int), (1 : Int)]) (3 : Int)).getD default) == (0 : Int)))
/-- awardingbody awardingbodymark.Roll -/
noncomputable def mark_Roll (l : List Int) : Option mark_Dice :=
  some (mark_Dice.mk l (0 : Int))
/-- (ptr awardingbody awardingbodymark.Dice).Next -/
noncomputable def mark_Dice_Next_j1 (d : mark_Dice) (x : Int) : Option (Int × mark_Dice) :=
  some (x, (mark_Dice.mk d.L (IntKind.i64.wrap (d.At + (1 : Int)))))
noncomputable def mark_Dice_Next (d : mark_Dice) (n : Int) : Option (Int × mark_Dice) :=
  bif ((decide ((d.L.length : Int) ≤ d.At)) || (decide (n < (1 : Int)))) then
    some ((0 : Int), d)
  else
    req ((0 ≤ d.At ∧ d.At < (d.L.length : Int)) ∧ n ≠ 0) <|
    bif (decide ((Int.tmod (ix d.L d.At) n) < (0 : Int))) then
      mark_Dice_Next_j1 d (IntKind.i64.wrap ((Int.tmod (ix d.L d.At) n) + n))
    else
      mark_Dice_Next_j1 d (Int.tmod (ix d.L d.At) n)
/-- (ptr awardingbody awardingbodymark.Dice).Pick -/
noncomputable def mark_Dice_Pick (d : mark_Dice) (l : List Int) : Option (Int × mark_Dice) :=
  (mark_Dice_Next d (l.length : Int)).bind fun (y, y1) =>
  req ((0 ≤ y ∧ y < (l.length : Int))) <|
  some ((ix l y), y1)
/-- (ptr awardingbody awardingbodymark.Dice).Distribution -/
noncomputable def mark_Dice_Distribution_j1 (d1 : List Int) (d2 : Int) (w : List Int) : Option (api_Distribution × mark_Dice) :=
  some ((api_Distribution.mk w), (mark_Dice.mk d1 d2))
noncomputable def mark_Dice_Distribution_l2 (least : Int) : (Int × (List Int) × Int × (List Int)) → Option ((Int × (List Int) × Int × (List Int)) ⊕ ((List Int) × Int × (List Int))) :=
  fun (i, d3, d4, w1) =>
    bif (decide ((0 : Int) < i)) then
      (mark_Dice_Pick (mark_Dice.mk d3 d4) ([(0 : Int), (1 : Int), (2 : Int), (5 : Int), (0 : Int)])).bind fun (y2, y3) =>
      req ((w1.length + ([(IntKind.i64.wrap (least + y2))]).length) * 8 ≤ 140737488355328) <|
      some (.inl ((IntKind.i64.wrap (i - (1 : Int))), y3.L, y3.At, (w1 ++ [(IntKind.i64.wrap (least + y2))])))
    else
      some (.inr (d3, d4, w1))
noncomputable def mark_Dice_Distribution_j3 (d : mark_Dice) (n : Int) (least : Int) : Option (api_Distribution × mark_Dice) :=
  (mark_Dice_Next d (IntKind.i64.wrap (n + (1 : Int)))).bind fun (y, y1) =>
  (iter (mark_Dice_Distribution_l2 least) ((IntKind.i64.wrap ((1 : Int) + y)), y1.L, y1.At, ([] : List Int))).bind fun (d5, d6, w2) =>
  mark_Dice_Distribution_j1 d5 d6 w2
noncomputable def mark_Dice_Distribution (d : mark_Dice) (n : Int) (full : Bool) : Option (api_Distribution × mark_Dice) :=
  bif full then
    mark_Dice_Distribution_j3 d n (1 : Int)
  else
    mark_Dice_Distribution_j3 d n (0 : Int)
/-- (ptr awardingbody awardingbodymark.Dice).Bounds -/
noncomputable def mark_Dice_Bounds_j1 (d1 : List Int) (d2 : Int) (out : List Int) : Option ((List Int) × mark_Dice) :=
  some (out, (mark_Dice.mk d1 d2))
noncomputable def mark_Dice_Bounds_l2  : (Int × Int × (List Int) × Int × (List Int)) → Option ((Int × Int × (List Int) × Int × (List Int)) ⊕ ((List Int) × Int × (List Int))) :=
  fun (b, i, d3, d4, out1) =>
    bif (decide ((0 : Int) < i)) then
      (mark_Dice_Next (mark_Dice.mk d3 d4) (IntKind.i64.wrap ((IntKind.i64.wrap (Int.tdiv b (2 : Int))) + (1 : Int)))).bind fun (y2, y3) =>
      req ((out1.length + ([(IntKind.i64.wrap (b - y2))]).length) * 8 ≤ 140737488355328) <|
      some (.inl ((IntKind.i64.wrap (b - y2)), (IntKind.i64.wrap (i - (1 : Int))), y3.L, y3.At, (out1 ++ [(IntKind.i64.wrap (b - y2))])))
    else
      some (.inr (d3, d4, out1))
noncomputable def mark_Dice_Bounds (d : mark_Dice) (most : Int) : Option ((List Int) × mark_Dice) :=
  (mark_Dice_Next d (4 : Int)).bind fun (y, y1) =>
  (iter (mark_Dice_Bounds_l2) ((IntKind.i64.wrap (most + (1 : Int))), (IntKind.i64.wrap ((1 : Int) + y)), y1.L, y1.At, ([] : List Int))).bind fun (d5, d6, out2) =>
  mark_Dice_Bounds_j1 d5 d6 out2
/-- awardingbody awardingbodyref32.Valid -/
noncomputable def ref32_Valid_j1  : Option Bool :=
  some true
noncomputable def ref32_Valid_l2 (d : api_Distribution) : (Int × Int) → Option ((Int × Int) ⊕ (Unit ⊕ Bool)) :=
  fun (n, i) =>
    bif (decide (i < (d.Counts.length : Int))) then
      req ((0 ≤ i ∧ i < (d.Counts.length : Int)) ∧ ((!(decide ((ix d.Counts i) < (0 : Int)))) = true → 0 ≤ i ∧ i < (d.Counts.length : Int))) <|
      bif ((decide ((ix d.Counts i) < (0 : Int))) || (decide ((IntKind.i64.wrap ((1048576 : Int) - n)) < (ix d.Counts i)))) then
        some (.inr (.inr false))
      else
        req ((0 ≤ i ∧ i < (d.Counts.length : Int))) <|
        some (.inl ((IntKind.i64.wrap (n + (ix d.Counts i))), (IntKind.i64.wrap (i + (1 : Int)))))
    else
      some (.inr (.inl ()))
noncomputable def ref32_Valid (d : api_Distribution) : Option Bool :=
  bif ((decide ((d.Counts.length : Int) < (1 : Int))) || (decide ((201 : Int) < (d.Counts.length : Int)))) then
    some false
  else
    (iter (ref32_Valid_l2 d) ((0 : Int), (0 : Int))).bind fun x_ =>
    match x_ with
    | .inl () => ref32_Valid_j1
    | .inr t_ => some t_
/-- awardingbody awardingbodyref32.Below -/
noncomputable def ref32_Below_j1 (n : Int) : Option Int :=
  some n
noncomputable def ref32_Below_l2 (d : api_Distribution) (score : Int) : (Int × Int) → Option ((Int × Int) ⊕ Int) :=
  fun (n1, i) =>
    req ((((decide (i < (d.Counts.length : Int))) && (decide (i < score))) = true → (ref32_Valid d).isSome = true)) <|
    bif (((decide (i < (d.Counts.length : Int))) && (decide (i < score))) && ((ref32_Valid d).getD default)) then
      req ((0 ≤ i ∧ i < (d.Counts.length : Int))) <|
      some (.inl ((IntKind.i64.wrap (n1 + (ix d.Counts i))), (IntKind.i64.wrap (i + (1 : Int)))))
    else
      some (.inr n1)
noncomputable def ref32_Below (d : api_Distribution) (score : Int) : Option Int :=
  (iter (ref32_Below_l2 d score) ((0 : Int), (0 : Int))).bind fun n2 =>
  ref32_Below_j1 n2
end Go.LS
