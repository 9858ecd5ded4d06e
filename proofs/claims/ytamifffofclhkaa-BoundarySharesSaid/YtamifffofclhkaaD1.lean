/-
  Plain functions that the program's functions compute. No condition: definitions, printed by dec.py.
-/
import Derived.Test.YtamifffofclhkaaD0
namespace Go.LS
set_option linter.all false
set_option linter.unusedSimpArgs false
set_option linter.unusedVariables false
set_option maxRecDepth 20000

/-- awardingbody awardingbodymark.Roll -/
noncomputable def mark_Roll (l : List Int) : Option mark_Dice :=
  some (mark_Dice.mk l (0 : Int))
/-- (ptr awardingbody awardingbodymark.Dice).Next -/
noncomputable def mark_Dice_Next_j1 (d : mark_Dice) (x : Int) : Option (Int × mark_Dice) :=
  some (x, (mark_Dice.mk d.L (IntKind.i64.wrap (d.At + (1 : Int)))))
noncomputable def mark_Dice_Next (d : mark_Dice) (n : Int) : Option (Int × mark_Dice) :=
  bif ((decide ((d.L.length : Int) ≤ d.At)) || (decide (n < (1 : Int)))) then
    some ((0 : Int), d)
  else
    req ((0 ≤ d.At ∧ d.At < (d.L.length : Int)) ∧ n ≠ 0) <|
    bif (decide ((Int.tmod (ix d.L d.At) n) < (0 : Int))) then
      mark_Dice_Next_j1 d (IntKind.i64.wrap ((Int.tmod (ix d.L d.At) n) + n))
    else
      mark_Dice_Next_j1 d (Int.tmod (ix d.L d.At) n)
/-- (ptr awardingbody awardingbodymark.Dice).Pick -/
noncomputable def mark_Dice_Pick (d : mark_Dice) (l : List Int) : Option (Int × mark_Dice) :=
  (mark_Dice_Next d (l.length : Int)).bind fun (y, y1) =>
  req ((0 ≤ y ∧ y < (l.length : Int))) <|
  some ((ix l y), y1)
/-- (ptr awardingbody awardingbodymark.Dice).Distribution -/
noncomputable def mark_Dice_Distribution_j1 (d1 : List Int) (d2 : Int) (w : List Int) : Option (api_Distribution × mark_Dice) :=
  some ((api_Distribution.mk w), (mark_Dice.mk d1 d2))
noncomputable def mark_Dice_Distribution_l2 (least : Int) : (Int × (List Int) × Int × (List Int)) → Option ((Int × (List Int) × Int × (List Int)) ⊕ ((List Int) × Int × (List Int))) :=
  fun (i, d3, d4, w1) =>
    bif (decide ((0 : Int) < i)) then
      (mark_Dice_Pick (mark_Dice.mk d3 d4) ([(0 : Int), (1 : Int), (2 : Int), (5 : Int), (0 : Int)])).bind fun (y2, y3) =>
      req ((w1.length + ([(IntKind.i64.wrap (least + y2))]).length) * 8 ≤ 140737488355328) <|
      some (.inl ((IntKind.i64.wrap (i - (1 : Int))), y3.L, y3.At, (w1 ++ [(IntKind.i64.wrap (least + y2))])))
    else
      some (.inr (d3, d4, w1))
noncomputable def mark_Dice_Distribution_j3 (d : mark_Dice) (n : Int) (least : Int) : Option (api_Distribution × mark_Dice) :=
  (mark_Dice_Next d (IntKind.i64.wrap (n + (1 : Int)))).bind fun (y, y1) =>
  (iter (mark_Dice_Distribution_l2 least) ((IntKind.i64.wrap ((1 : Int) + y)), y1.L, y1.At, ([] : List Int))).bind fun (d5, d6, w2) =>
  mark_Dice_Distribution_j1 d5 d6 w2
noncomputable def mark_Dice_Distribution (d : mark_Dice) (n : Int) (full : Bool) : Option (api_Distribution × mark_Dice) :=
  bif full then
    mark_Dice_Distribution_j3 d n (1 : Int)
  else
    mark_Dice_Distribution_j3 d n (0 : Int)
/-- (ptr awardingbody awardingbodymark.Dice).Bounds -/
noncomputable def mark_Dice_Bounds_j1 (d1 : List Int) (d2 : Int) (out : List Int) : Option ((List Int) × mark_Dice) :=
  some (out, (mark_Dice.mk d1 d2))
noncomputable def mark_Dice_Bounds_l2  : (Int × Int × (List Int) × Int × (List Int)) → Option ((Int × Int × (List Int) × Int × (List Int)) ⊕ ((List Int) × Int × (List Int))) :=
  fun (b, i, d3, d4, out1) =>
    bif (decide ((0 : Int) < i)) then
      (mark_Dice_Next (mark_Dice.mk d3 d4) (IntKind.i64.wrap ((IntKind.i64.wrap (Int.tdiv b (2 : Int))) + (1 : Int)))).bind fun (y2, y3) =>
      req ((out1.length + ([(IntKind.i64.wrap (b - y2))]).length) * 8 ≤ 140737488355328) <|
      some (.inl ((IntKind.i64.wrap (b - y2)), (IntKind.i64.wrap (i - (1 : Int))), y3.L, y3.At, (out1 ++ [(IntKind.i64.wrap (b - y2))])))
    else
      some (.inr (d3, d4, out1))
noncomputable def mark_Dice_Bounds (d : mark_Dice) (most : Int) : Option ((List Int) × mark_Dice) :=
  (mark_Dice_Next d (4 : Int)).bind fun (y, y1) =>
  (iter (mark_Dice_Bounds_l2) ((IntKind.i64.wrap (most + (1 : Int))), (IntKind.i64.wrap ((1 : Int) + y)), y1.L, y1.At, ([] : List Int))).bind fun (d5, d6, out2) =>
  mark_Dice_Bounds_j1 d5 d6 out2
/-- awardingbody boundary.Grade -/
noncomputable def boundary_Grade_j1 (b : List Int) : Option Int :=
  some (b.length : Int)
noncomputable def boundary_Grade_l2 (b : List Int) (mark : Int) : Int → Option (Int ⊕ (Unit ⊕ Int)) :=
  fun v =>
    bif (decide (v < (b.length : Int))) then
      req ((0 ≤ v ∧ v < (b.length : Int))) <|
      bif (decide ((ix b v) ≤ mark)) then
        some (.inr (.inr v))
      else
        some (.inl (IntKind.i64.wrap (v + (1 : Int))))
    else
      some (.inr (.inl ()))
noncomputable def boundary_Grade (b : List Int) (mark : Int) : Option Int :=
  (iter (boundary_Grade_l2 b mark) (0 : Int)).bind fun x_ =>
  match x_ with
  | .inl () => boundary_Grade_j1 b
  | .inr t_ => some t_
/-- awardingbody boundary.isScore -/
noncomputable def boundary_isScore (n : Int) : Option Bool :=
  some ((decide ((0 : Int) ≤ n)) && (decide (n ≤ (200 : Int))))
/-- awardingbody boundary.Check -/
noncomputable def boundary_Check_j1  : Option Int :=
  some (0 : Int)
noncomputable def boundary_Check_l2 (b : List Int) : Int → Option (Int ⊕ (Unit ⊕ Int)) :=
  fun i =>
    bif (decide (i < (b.length : Int))) then
      req ((0 ≤ i ∧ i < (b.length : Int)) ∧ (0 ≤ (IntKind.i64.wrap (i - (1 : Int))) ∧ (IntKind.i64.wrap (i - (1 : Int))) < (b.length : Int))) <|
      bif (decide ((ix b (IntKind.i64.wrap (i - (1 : Int)))) < (ix b i))) then
        some (.inr (.inr (43 : Int)))
      else
        some (.inl (IntKind.i64.wrap (i + (1 : Int))))
    else
      some (.inr (.inl ()))
noncomputable def boundary_Check_j3 (b : List Int) : Option Int :=
  (iter (boundary_Check_l2 b) (1 : Int)).bind fun x_ =>
  match x_ with
  | .inl () => boundary_Check_j1
  | .inr t_ => some t_
noncomputable def boundary_Check_l4 (b : List Int) (most : Int) : Int → Option (Int ⊕ (Unit ⊕ Int)) :=
  fun v =>
    bif (decide (v < (b.length : Int))) then
      req ((0 ≤ v ∧ v < (b.length : Int))) <|
      bif ((decide ((ix b v) < (0 : Int))) || (decide ((IntKind.i64.wrap (most + (1 : Int))) < (ix b v)))) then
        some (.inr (.inr (2 : Int)))
      else
        some (.inl (IntKind.i64.wrap (v + (1 : Int))))
    else
      some (.inr (.inl ()))
noncomputable def boundary_Check (b : List Int) (most : Int) : Option Int :=
  (boundary_isScore most).bind fun y =>
  bif (!y) then
    some (2 : Int)
  else
    bif ((decide ((b.length : Int) < (1 : Int))) || (decide ((9 : Int) < (b.length : Int)))) then
      some (3 : Int)
    else
      (iter (boundary_Check_l4 b most) (0 : Int)).bind fun x_ =>
      match x_ with
      | .inl () => boundary_Check_j3 b
      | .inr t_ => some t_
/-- awardingbody distribution.Valid -/
noncomputable def distribution_Valid_j1 (sum : Int) : Option Bool :=
  some (decide (sum ≤ (1048576 : Int)))
noncomputable def distribution_Valid_l2 (d : api_Distribution) : (Int × Int) → Option ((Int × Int) ⊕ (Int ⊕ Bool)) :=
  fun (sum1, v) =>
    bif (decide (v < (d.Counts.length : Int))) then
      req ((0 ≤ v ∧ v < (d.Counts.length : Int))) <|
      bif ((decide ((ix d.Counts v) < (0 : Int))) || (decide ((1048576 : Int) < (ix d.Counts v)))) then
        some (.inr (.inr false))
      else
        some (.inl ((IntKind.i64.wrap (sum1 + (ix d.Counts v))), (IntKind.i64.wrap (v + (1 : Int)))))
    else
      some (.inr (.inl sum1))
noncomputable def distribution_Valid (d : api_Distribution) : Option Bool :=
  bif ((decide ((d.Counts.length : Int) < (1 : Int))) || (decide ((201 : Int) < (d.Counts.length : Int)))) then
    some false
  else
    (iter (distribution_Valid_l2 d) ((0 : Int), (0 : Int))).bind fun x_ =>
    match x_ with
    | .inl sum2 => distribution_Valid_j1 sum2
    | .inr t_ => some t_
/-- awardingbody boundary.greatest -/
noncomputable def boundary_greatest (d : api_Distribution) : Option Int :=
  some (IntKind.i64.wrap ((d.Counts.length : Int) - (1 : Int)))
/-- awardingbody boundary.Tally -/
noncomputable def boundary_Tally_j1 (w : List Int) : Option ((List Int) × Int) :=
  some (w, (0 : Int))
noncomputable def boundary_Tally_l2 (d : api_Distribution) (b : List Int) : (Int × (List Int)) → Option ((Int × (List Int)) ⊕ (List Int)) :=
  fun (v, w1) =>
    bif (decide (v < (d.Counts.length : Int))) then
      req ((0 ≤ v ∧ v < (d.Counts.length : Int))) <|
      (boundary_Grade b v).bind fun y3 =>
      req ((0 ≤ y3 ∧ y3 < (w1.length : Int))) <|
      some (.inl ((IntKind.i64.wrap (v + (1 : Int))), (setI w1 y3 (IntKind.i64.wrap ((ix w1 y3) + (ix d.Counts v))))))
    else
      some (.inr w1)
noncomputable def boundary_Tally (d : api_Distribution) (b : List Int) : Option ((List Int) × Int) :=
  (distribution_Valid d).bind fun y =>
  bif (!y) then
    some (([] : List Int), (1 : Int))
  else
    (boundary_greatest d).bind fun y1 =>
    (boundary_Check b y1).bind fun y2 =>
    bif (y2 != (0 : Int)) then
      some (([] : List Int), y2)
    else
      req ((0 ≤ (IntKind.i64.wrap ((b.length : Int) + (1 : Int))) ∧ (IntKind.i64.wrap ((b.length : Int) + (1 : Int))) * 8 ≤ 140737488355328)) <|
      (iter (boundary_Tally_l2 d b) ((0 : Int), (rep (IntKind.i64.wrap ((b.length : Int) + (1 : Int))) (0 : Int)))).bind fun w2 =>
      boundary_Tally_j1 w2
/-- awardingbody awardingbodylaw35.same -/
noncomputable def law35_same_j1  : Option Bool :=
  some true
noncomputable def law35_same_l2 (a : List Int) (b : List Int) : Int → Option (Int ⊕ (Unit ⊕ Bool)) :=
  fun v =>
    bif (decide (v < (a.length : Int))) then
      req ((0 ≤ v ∧ v < (a.length : Int)) ∧ (0 ≤ v ∧ v < (b.length : Int))) <|
      bif ((ix a v) != (ix b v)) then
        some (.inr (.inr false))
      else
        some (.inl (IntKind.i64.wrap (v + (1 : Int))))
    else
      some (.inr (.inl ()))
noncomputable def law35_same (a : List Int) (b : List Int) : Option Bool :=
  bif ((a.length : Int) != (b.length : Int)) then
    some false
  else
    (iter (law35_same_l2 a b) (0 : Int)).bind fun x_ =>
    match x_ with
    | .inl () => law35_same_j1
    | .inr t_ => some t_
/-- awardingbody awardingbodyref32.Valid -/
noncomputable def ref32_Valid_j1  : Option Bool :=
  some true
noncomputable def ref32_Valid_l2 (d : api_Distribution) : (Int × Int) → Option ((Int × Int) ⊕ (Unit ⊕ Bool)) :=
  fun (n, i) =>
    bif (decide (i < (d.Counts.length : Int))) then
      req ((0 ≤ i ∧ i < (d.Counts.length : Int)) ∧ ((!(decide ((ix d.Counts i) < (0 : Int)))) = true → 0 ≤ i ∧ i < (d.Counts.length : Int))) <|
      bif ((decide ((ix d.Counts i) < (0 : Int))) || (decide ((IntKind.i64.wrap ((1048576 : Int) - n)) < (ix d.Counts i)))) then
        some (.inr (.inr false))
      else
        req ((0 ≤ i ∧ i < (d.Counts.length : Int))) <|
        some (.inl ((IntKind.i64.wrap (n + (ix d.Counts i))), (IntKind.i64.wrap (i + (1 : Int)))))
    else
      some (.inr (.inl ()))
noncomputable def ref32_Valid (d : api_Distribution) : Option Bool :=
  bif ((decide ((d.Counts.length : Int) < (1 : Int))) || (decide ((201 : Int) < (d.Counts.length : Int)))) then
    some false
  else
    (iter (ref32_Valid_l2 d) ((0 : Int), (0 : Int))).bind fun x_ =>
    match x_ with
    | .inl () => ref32_Valid_j1
    | .inr t_ => some t_
/-- awardingbody awardingbodyref32.Below -/
noncomputable def ref32_Below_j1 (n : Int) : Option Int :=
  some n
noncomputable def ref32_Below_l2 (d : api_Distribution) (score : Int) : (Int × Int) → Option ((Int × Int) ⊕ Int) :=
  fun (n1, i) =>
    req ((((decide (i < (d.Counts.length : Int))) && (decide (i < score))) = true → (ref32_Valid d).isSome = true)) <|
    bif (((decide (i < (d.Counts.length : Int))) && (decide (i < score))) && ((ref32_Valid d).getD default)) then
      req ((0 ≤ i ∧ i < (d.Counts.length : Int))) <|
      some (.inl ((IntKind.i64.wrap (n1 + (ix d.Counts i))), (IntKind.i64.wrap (i + (1 : Int)))))
    else
      some (.inr n1)
noncomputable def ref32_Below (d : api_Distribution) (score : Int) : Option Int :=
  (iter (ref32_Below_l2 d score) ((0 : Int), (0 : Int))).bind fun n2 =>
  ref32_Below_j1 n2
/-- awardingbody awardingbodyref32.Count -/
noncomputable def ref32_Count (d : api_Distribution) : Option Int :=
  (ref32_Below d (d.Counts.length : Int)).bind fun y =>
  some y
/-- awardingbody awardingbodymark.Light -/
noncomputable def mark_Light (l : List Int) : Option Bool :=
  some (decide ((l.length : Int) ≤ (600 : Int)))
/-- awardingbody boundary.Interpolate -/
noncomputable def boundary_Interpolate_j1 (w : List Int) : Option ((List Int) × Int) :=
  some (w, (0 : Int))
noncomputable def boundary_Interpolate_l2 (high : Int) (low : Int) (steps : Int) : (Int × (List Int)) → Option ((Int × (List Int)) ⊕ (List Int)) :=
  fun (v, w1) =>
    bif (decide (v < ((rep (IntKind.i64.wrap (steps + (1 : Int))) (0 : Int)).length : Int))) then
      req (steps ≠ 0 ∧ (0 ≤ v ∧ v < (w1.length : Int))) <|
      bindV (setI w1 v (IntKind.i64.wrap (high - (IntKind.i64.wrap (Int.tdiv (IntKind.i64.wrap ((IntKind.i64.wrap ((IntKind.i64.wrap (v * (IntKind.i64.wrap (high - low)))) + steps)) - (1 : Int))) steps))))) fun w3 =>
      some (.inl ((IntKind.i64.wrap (v + (1 : Int))), w3))
    else
      some (.inr w1)
noncomputable def boundary_Interpolate (high : Int) (low : Int) (steps : Int) : Option ((List Int) × Int) :=
  bif (((((decide (low < (0 : Int))) || (decide (high < low))) || (decide ((200 : Int) < high))) || (decide (steps < (1 : Int)))) || (decide ((8 : Int) < steps))) then
    some (([] : List Int), (2 : Int))
  else
    req ((0 ≤ (IntKind.i64.wrap (steps + (1 : Int))) ∧ (IntKind.i64.wrap (steps + (1 : Int))) * 8 ≤ 140737488355328)) <|
    (iter (boundary_Interpolate_l2 high low steps) ((0 : Int), (rep (IntKind.i64.wrap (steps + (1 : Int))) (0 : Int)))).bind fun w2 =>
    boundary_Interpolate_j1 w2
/-- awardingbody distribution.Below -/
noncomputable def distribution_Below_j1 (sum : Int) : Option Int :=
  some sum
noncomputable def distribution_Below_l2 (d : api_Distribution) (score : Int) : (Int × Int) → Option ((Int × Int) ⊕ Int) :=
  fun (sum1, i) =>
    bif ((decide (i < (d.Counts.length : Int))) && (decide (i < score))) then
      req ((0 ≤ i ∧ i < (d.Counts.length : Int))) <|
      some (.inl ((IntKind.i64.wrap (sum1 + (ix d.Counts i))), (IntKind.i64.wrap (i + (1 : Int)))))
    else
      some (.inr sum1)
noncomputable def distribution_Below (d : api_Distribution) (score : Int) : Option Int :=
  (distribution_Valid d).bind fun y =>
  bif (!y) then
    some (0 : Int)
  else
    (iter (distribution_Below_l2 d score) ((0 : Int), (0 : Int))).bind fun sum2 =>
    distribution_Below_j1 sum2
/-- awardingbody distribution.Count -/
noncomputable def distribution_Count (d : api_Distribution) : Option Int :=
  (distribution_Below d (d.Counts.length : Int)).bind fun y =>
  some y
/-- awardingbody ratio.magnitude -/
noncomputable def ratio_magnitude (n : Int) : Option Int :=
  bif (decide (n < (0 : Int))) then
    some (IntKind.u64.wrap (0 - (IntKind.u64.wrap n)))
  else
    some (IntKind.u64.wrap n)
/-- awardingbody ratio.gcd -/
noncomputable def ratio_gcd_j1 (a1 : Int) : Option Int :=
  some a1
noncomputable def ratio_gcd_l2  : (Int × Int) → Option ((Int × Int) ⊕ Int) :=
  fun (a2, b1) =>
    bif (b1 != (0 : Int)) then
      req (b1 ≠ 0) <|
      some (.inl (b1, (Int.tmod a2 b1)))
    else
      some (.inr a2)
noncomputable def ratio_gcd (a : Int) (b : Int) : Option Int :=
  (iter (ratio_gcd_l2) (a, b)).bind fun a3 =>
  ratio_gcd_j1 a3
/-- awardingbody ratio.Valid -/
noncomputable def ratio_Valid (a : api_Ratio) : Option Bool :=
  bif ((((decide (a.Den < (1 : Int))) || (decide ((1152921504606846976 : Int) < a.Den))) || (decide (a.Num < (-1152921504606846976 : Int)))) || (decide ((1152921504606846976 : Int) < a.Num))) then
    some false
  else
    (ratio_magnitude a.Num).bind fun y =>
    (ratio_gcd y (IntKind.u64.wrap a.Den)).bind fun y1 =>
    some (y1 == (1 : Int))
/-- awardingbody boundary.check -/
noncomputable def boundary_check (d : api_Distribution) (share : api_Ratio) : Option Int :=
  (distribution_Valid d).bind fun y =>
  req (((!(!y)) = true → (ratio_Valid share).isSome = true)) <|
  bif ((!y) || (!((ratio_Valid share).getD default))) then
    some (1 : Int)
  else
    (distribution_Count d).bind fun y1 =>
    bif (y1 == (0 : Int)) then
      some (10 : Int)
    else
      bif ((decide (share.Num < (0 : Int))) || (decide (share.Den < share.Num))) then
        some (2 : Int)
      else
        some (0 : Int)
/-- awardingbody boundary.reaching -/
noncomputable def boundary_reaching_j1 (w : List Int) : Option (List Int) :=
  some w
noncomputable def boundary_reaching_l2 (d : api_Distribution) : (Int × (List Int)) → Option ((Int × (List Int)) ⊕ (List Int)) :=
  fun (i, w1) =>
    bif (decide ((0 : Int) ≤ i)) then
      req ((0 ≤ (IntKind.i64.wrap (i + (1 : Int))) ∧ (IntKind.i64.wrap (i + (1 : Int))) < (w1.length : Int)) ∧ (0 ≤ i ∧ i < (d.Counts.length : Int)) ∧ (0 ≤ i ∧ i < (w1.length : Int))) <|
      bindV (setI w1 i (IntKind.i64.wrap ((ix w1 (IntKind.i64.wrap (i + (1 : Int)))) + (ix d.Counts i)))) fun w3 =>
      some (.inl ((IntKind.i64.wrap (i - (1 : Int))), w3))
    else
      some (.inr w1)
noncomputable def boundary_reaching (d : api_Distribution) : Option (List Int) :=
  req ((0 ≤ (IntKind.i64.wrap ((d.Counts.length : Int) + (1 : Int))) ∧ (IntKind.i64.wrap ((d.Counts.length : Int) + (1 : Int))) * 8 ≤ 140737488355328)) <|
  (boundary_greatest d).bind fun y =>
  (iter (boundary_reaching_l2 d) (y, (rep (IntKind.i64.wrap ((d.Counts.length : Int) + (1 : Int))) (0 : Int)))).bind fun w2 =>
  boundary_reaching_j1 w2
end Go.LS
