/-
  Plain functions that the program's functions compute. No condition: definitions, printed by dec.py.
-/
import Derived.Test.YtdfbbiahpcelmaaD1
namespace Go.LS
set_option linter.all false
set_option linter.unusedSimpArgs false
set_option linter.unusedVariables false
set_option maxRecDepth 20000

/-- (ptr awardingbody awardingbodymark.Dice).Next -/
noncomputable def mark_Dice_Next_j1 (d : mark_Dice) (x : Int) : Option (Int × mark_Dice) :=
  some (x, (mark_Dice.mk d.L (IntKind.i64.wrap (d.At + (1 : Int)))))
noncomputable def mark_Dice_Next (d : mark_Dice) (n : Int) : Option (Int × mark_Dice) :=
  bif ((decide ((d.L.length : Int) ≤ d.At)) || (decide (n < (1 : Int)))) then
    some ((0 : Int), d)
  else
    req ((0 ≤ d.At ∧ d.At < (d.L.length : Int)) ∧ n ≠ 0) <|
    bif (decide ((Int.tmod (ix d.L d.At) n) < (0 : Int))) then
      mark_Dice_Next_j1 d (IntKind.i64.wrap ((Int.tmod (ix d.L d.At) n) + n))
    else
      mark_Dice_Next_j1 d (Int.tmod (ix d.L d.At) n)
/-- (ptr awardingbody awardingbodymark.Dice).Pick -/
noncomputable def mark_Dice_Pick (d : mark_Dice) (l : List Int) : Option (Int × mark_Dice) :=
  (mark_Dice_Next d (l.length : Int)).bind fun (y, y1) =>
  req ((0 ≤ y ∧ y < (l.length : Int))) <|
  some ((ix l y), y1)
/-- (ptr awardingbody awardingbodymark.Dice).Distribution -/
noncomputable def mark_Dice_Distribution_j1 (d1 : List Int) (d2 : Int) (w : List Int) : Option (api_Distribution × mark_Dice) :=
  some ((api_Distribution.mk w), (mark_Dice.mk d1 d2))
noncomputable def mark_Dice_Distribution_l2 (least : Int) : (Int × (List Int) × Int × (List Int)) → Option ((Int × (List Int) × Int × (List Int)) ⊕ ((List Int) × Int × (List Int))) :=
  fun (i, d3, d4, w1) =>
    bif (decide ((0 : Int) < i)) then
      (mark_Dice_Pick (mark_Dice.mk d3 d4) ([(0 : Int), (1 : Int), (2 : Int), (5 : Int), (0 : Int)])).bind fun (y2, y3) =>
      req ((w1.length + ([(IntKind.i64.wrap (least + y2))]).length) * 8 ≤ 140737488355328) <|
      some (.inl ((IntKind.i64.wrap (i - (1 : Int))), y3.L, y3.At, (w1 ++ [(IntKind.i64.wrap (least + y2))])))
    else
      some (.inr (d3, d4, w1))
noncomputable def mark_Dice_Distribution_j3 (d : mark_Dice) (n : Int) (least : Int) : Option (api_Distribution × mark_Dice) :=
  (mark_Dice_Next d (IntKind.i64.wrap (n + (1 : Int)))).bind fun (y, y1) =>
  (iter (mark_Dice_Distribution_l2 least) ((IntKind.i64.wrap ((1 : Int) + y)), y1.L, y1.At, ([] : List Int))).bind fun (d5, d6, w2) =>
  mark_Dice_Distribution_j1 d5 d6 w2
noncomputable def mark_Dice_Distribution (d : mark_Dice) (n : Int) (full : Bool) : Option (api_Distribution × mark_Dice) :=
  bif full then
    mark_Dice_Distribution_j3 d n (1 : Int)
  else
    mark_Dice_Distribution_j3 d n (0 : Int)
/-- awardingbody distribution.Make -/
noncomputable def distribution_Make_j1 (w : List Int) : Option (api_Distribution × Int) :=
  some ((api_Distribution.mk w), (0 : Int))
noncomputable def distribution_Make_l2 (scores : List Int) : (Int × (List Int)) → Option ((Int × (List Int)) ⊕ (List Int)) :=
  fun (v, w1) =>
    bif (decide (v < (scores.length : Int))) then
      req ((0 ≤ v ∧ v < (scores.length : Int))) <|
      req ((0 ≤ (ix scores v) ∧ (ix scores v) < (w1.length : Int))) <|
      bindV (setI w1 (ix scores v) (IntKind.i64.wrap ((ix w1 (ix scores v)) + (1 : Int)))) fun w3 =>
      some (.inl ((IntKind.i64.wrap (v + (1 : Int))), w3))
    else
      some (.inr w1)
noncomputable def distribution_Make_j3 (scores : List Int) (most : Int) : Option (api_Distribution × Int) :=
  bif (decide ((1048576 : Int) < (scores.length : Int))) then
    some ((api_Distribution.mk ([] : List Int)), (3 : Int))
  else
    req ((0 ≤ (IntKind.i64.wrap (most + (1 : Int))) ∧ (IntKind.i64.wrap (most + (1 : Int))) * 8 ≤ 140737488355328)) <|
    (iter (distribution_Make_l2 scores) ((0 : Int), (rep (IntKind.i64.wrap (most + (1 : Int))) (0 : Int)))).bind fun w2 =>
    distribution_Make_j1 w2
noncomputable def distribution_Make_l4 (scores : List Int) (most : Int) : Int → Option (Int ⊕ (Unit ⊕ (api_Distribution × Int))) :=
  fun v1 =>
    bif (decide (v1 < (scores.length : Int))) then
      req ((0 ≤ v1 ∧ v1 < (scores.length : Int))) <|
      bif ((decide ((ix scores v1) < (0 : Int))) || (decide (most < (ix scores v1)))) then
        some (.inr (.inr ((api_Distribution.mk ([] : List Int)), (2 : Int))))
      else
        some (.inl (IntKind.i64.wrap (v1 + (1 : Int))))
    else
      some (.inr (.inl ()))
noncomputable def distribution_Make (scores : List Int) (most : Int) : Option (api_Distribution × Int) :=
  bif ((decide (most < (0 : Int))) || (decide ((200 : Int) < most))) then
    some ((api_Distribution.mk ([] : List Int)), (2 : Int))
  else
    (iter (distribution_Make_l4 scores most) (0 : Int)).bind fun x_ =>
    match x_ with
    | .inl () => distribution_Make_j3 scores most
    | .inr t_ => some t_
/-- awardingbody awardingbodyref32.Same -/
noncomputable def ref32_Same_j1  : Option Bool :=
  some true
noncomputable def ref32_Same_l2 (a : api_Distribution) (b : api_Distribution) : Int → Option (Int ⊕ (Unit ⊕ Bool)) :=
  fun i =>
    bif (decide (i < (a.Counts.length : Int))) then
      req ((0 ≤ i ∧ i < (a.Counts.length : Int)) ∧ (0 ≤ i ∧ i < (b.Counts.length : Int))) <|
      bif ((ix a.Counts i) != (ix b.Counts i)) then
        some (.inr (.inr false))
      else
        some (.inl (IntKind.i64.wrap (i + (1 : Int))))
    else
      some (.inr (.inl ()))
noncomputable def ref32_Same (a : api_Distribution) (b : api_Distribution) : Option Bool :=
  bif ((a.Counts.length : Int) != (b.Counts.length : Int)) then
    some false
  else
    (iter (ref32_Same_l2 a b) (0 : Int)).bind fun x_ =>
    match x_ with
    | .inl () => ref32_Same_j1
    | .inr t_ => some t_
/-- awardingbody distribution.Add -/
noncomputable def distribution_Add_j1 (w1 : List Int) : Option (api_Distribution × Int) :=
  some ((api_Distribution.mk w1), (0 : Int))
noncomputable def distribution_Add_l2 (b : api_Distribution) : (Int × (List Int)) → Option ((Int × (List Int)) ⊕ (List Int)) :=
  fun (v, w2) =>
    bif (decide (v < (b.Counts.length : Int))) then
      req ((0 ≤ v ∧ v < (b.Counts.length : Int))) <|
      req ((0 ≤ v ∧ v < (w2.length : Int))) <|
      some (.inl ((IntKind.i64.wrap (v + (1 : Int))), (setI w2 v (IntKind.i64.wrap ((ix w2 v) + (ix b.Counts v))))))
    else
      some (.inr w2)
noncomputable def distribution_Add_j3 (b : api_Distribution) (w : List Int) : Option (api_Distribution × Int) :=
  (iter (distribution_Add_l2 b) ((0 : Int), w)).bind fun w3 =>
  distribution_Add_j1 w3
noncomputable def distribution_Add_l4 (a : api_Distribution) : (Int × (List Int)) → Option ((Int × (List Int)) ⊕ (List Int)) :=
  fun (v1, w4) =>
    bif (decide (v1 < (a.Counts.length : Int))) then
      req ((0 ≤ v1 ∧ v1 < (a.Counts.length : Int))) <|
      req ((0 ≤ v1 ∧ v1 < (w4.length : Int))) <|
      some (.inl ((IntKind.i64.wrap (v1 + (1 : Int))), (setI w4 v1 (IntKind.i64.wrap ((ix w4 v1) + (ix a.Counts v1))))))
    else
      some (.inr w4)
noncomputable def distribution_Add (a : api_Distribution) (b : api_Distribution) : Option (api_Distribution × Int) :=
  (distribution_Valid a).bind fun y =>
  req (((!(!y)) = true → (distribution_Valid b).isSome = true)) <|
  bif ((!y) || (!((distribution_Valid b).getD default))) then
    some ((api_Distribution.mk ([] : List Int)), (1 : Int))
  else
    (distribution_Count a).bind fun y1 =>
    (distribution_Count b).bind fun y2 =>
    bif (decide ((1048576 : Int) < (IntKind.i64.wrap (y1 + y2)))) then
      some ((api_Distribution.mk ([] : List Int)), (3 : Int))
    else
      req ((0 ≤ (imax (a.Counts.length : Int) (b.Counts.length : Int)) ∧ (imax (a.Counts.length : Int) (b.Counts.length : Int)) * 8 ≤ 140737488355328)) <|
      (iter (distribution_Add_l4 a) ((0 : Int), (rep (imax (a.Counts.length : Int) (b.Counts.length : Int)) (0 : Int)))).bind fun w5 =>
      distribution_Add_j3 b w5
/-- awardingbody distribution.Dominates -/
noncomputable def distribution_Dominates_j1  : Option Bool :=
  some true
noncomputable def distribution_Dominates_l2 (a : api_Distribution) (b : api_Distribution) (y : Int) (y2 : Int) : Int → Option (Int ⊕ (Unit ⊕ Bool)) :=
  fun v =>
    bif (decide (v < (imax (a.Counts.length : Int) (b.Counts.length : Int)))) then
      (distribution_Below a v).bind fun y4 =>
      (distribution_Below b v).bind fun y5 =>
      bif (decide ((IntKind.i64.wrap (y5 * y)) < (IntKind.i64.wrap (y4 * y2)))) then
        some (.inr (.inr false))
      else
        some (.inl (IntKind.i64.wrap (v + (1 : Int))))
    else
      some (.inr (.inl ()))
noncomputable def distribution_Dominates (a : api_Distribution) (b : api_Distribution) : Option Bool :=
  (distribution_check a).bind fun (y, y1) =>
  bif (y1 != (0 : Int)) then
    some false
  else
    (distribution_check b).bind fun (y2, y3) =>
    bif (y3 != (0 : Int)) then
      some false
    else
      (iter (distribution_Dominates_l2 a b y y2) (0 : Int)).bind fun x_ =>
      match x_ with
      | .inl () => distribution_Dominates_j1
      | .inr t_ => some t_
/-- awardingbody distribution.Smooth -/
noncomputable def distribution_Smooth_j1 (d : api_Distribution) (w : List Int) : Option (api_Distribution × Int) :=
  (distribution_Add d (api_Distribution.mk w)).bind fun (y1, y2) =>
  some (y1, y2)
noncomputable def distribution_Smooth_l2 (d : api_Distribution) : (Int × (List Int)) → Option ((Int × (List Int)) ⊕ (List Int)) :=
  fun (v, w1) =>
    bif (decide (v < ((rep (d.Counts.length : Int) (0 : Int)).length : Int))) then
      req ((0 ≤ v ∧ v < (w1.length : Int))) <|
      some (.inl ((IntKind.i64.wrap (v + (1 : Int))), (setI w1 v (1 : Int))))
    else
      some (.inr w1)
noncomputable def distribution_Smooth (d : api_Distribution) : Option (api_Distribution × Int) :=
  (distribution_Valid d).bind fun y =>
  bif (!y) then
    some ((api_Distribution.mk ([] : List Int)), (1 : Int))
  else
    req ((0 ≤ (d.Counts.length : Int) ∧ (d.Counts.length : Int) * 8 ≤ 140737488355328)) <|
    (iter (distribution_Smooth_l2 d) ((0 : Int), (rep (d.Counts.length : Int) (0 : Int)))).bind fun w2 =>
    distribution_Smooth_j1 d w2
/-- awardingbody awardingbodyref32.Make -/
noncomputable def ref32_Make_j1 (scores : List Int) (w : List Int) : Option (api_Distribution × Int) :=
  bif (decide ((1048576 : Int) < (scores.length : Int))) then
    some ((api_Distribution.mk ([] : List Int)), (3 : Int))
  else
    some ((api_Distribution.mk w), (0 : Int))
noncomputable def ref32_Make_l2 (scores : List Int) (most : Int) : (Int × (List Int)) → Option ((Int × (List Int)) ⊕ ((List Int) ⊕ (api_Distribution × Int))) :=
  fun (i, w1) =>
    bif (decide (i < (scores.length : Int))) then
      req ((0 ≤ i ∧ i < (scores.length : Int)) ∧ ((!(decide ((ix scores i) < (0 : Int)))) = true → 0 ≤ i ∧ i < (scores.length : Int))) <|
      bif ((decide ((ix scores i) < (0 : Int))) || (decide (most < (ix scores i)))) then
        some (.inr (.inr ((api_Distribution.mk ([] : List Int)), (2 : Int))))
      else
        req ((0 ≤ i ∧ i < (scores.length : Int)) ∧ (0 ≤ (ix scores i) ∧ (ix scores i) < (w1.length : Int))) <|
        bindV (setI w1 (ix scores i) (IntKind.i64.wrap ((ix w1 (ix scores i)) + (1 : Int)))) fun w3 =>
        some (.inl ((IntKind.i64.wrap (i + (1 : Int))), w3))
    else
      some (.inr (.inl w1))
noncomputable def ref32_Make (scores : List Int) (most : Int) : Option (api_Distribution × Int) :=
  bif ((decide (most < (0 : Int))) || (decide ((200 : Int) < most))) then
    some ((api_Distribution.mk ([] : List Int)), (2 : Int))
  else
    req ((0 ≤ (IntKind.i64.wrap (most + (1 : Int))) ∧ (IntKind.i64.wrap (most + (1 : Int))) * 8 ≤ 140737488355328)) <|
    (iter (ref32_Make_l2 scores most) ((0 : Int), (rep (IntKind.i64.wrap (most + (1 : Int))) (0 : Int)))).bind fun x_ =>
    match x_ with
    | .inl w2 => ref32_Make_j1 scores w2
    | .inr t_ => some t_
/-- awardingbody awardingbodylaw32.odd -/
noncomputable def law32_odd_j1 (c : List Int) (d1 : List Int) (d2 : Int) : Option (api_Distribution × mark_Dice) :=
  some ((api_Distribution.mk c), (mark_Dice.mk d1 d2))
noncomputable def law32_odd_l2 (x : api_Distribution) : (Int × (List Int)) → Option ((Int × (List Int)) ⊕ (List Int)) :=
  fun (v, w) =>
    bif (decide (v < (x.Counts.length : Int))) then
      req ((0 ≤ v ∧ v < (w.length : Int))) <|
      some (.inl ((IntKind.i64.wrap (v + (1 : Int))), (setI w v (0 : Int))))
    else
      some (.inr w)
noncomputable def law32_odd (d : mark_Dice) (x : api_Distribution) : Option (api_Distribution × mark_Dice) :=
  req (x.Counts.length * 8 ≤ 140737488355328) <|
  (mark_Dice_Next d (4 : Int)).bind fun (y, y1) =>
  bif (y == (0 : Int)) then
    (mark_Dice_Next y1 (x.Counts.length : Int)).bind fun (y2, y3) =>
    (mark_Dice_Pick y3 ([(-1 : Int), (1048576 : Int), (1048577 : Int)])).bind fun (y4, y5) =>
    req ((0 ≤ y2 ∧ y2 < (x.Counts.length : Int))) <|
    law32_odd_j1 (setI x.Counts y2 y4) y5.L y5.At
  else
    bif (y == (1 : Int)) then
      law32_odd_j1 ([] : List Int) y1.L y1.At
    else
      bif (y == (2 : Int)) then
        (iter (law32_odd_l2 x) ((0 : Int), x.Counts)).bind fun w1 =>
        law32_odd_j1 w1 y1.L y1.At
      else
        (mark_Dice_Pick y1 ([(200 : Int), (201 : Int), (202 : Int)])).bind fun (y6, y7) =>
        req ((0 ≤ y6 ∧ y6 * 8 ≤ 140737488355328)) <|
        req ((0 ≤ (3 : Int) ∧ (3 : Int) < ((rep y6 (0 : Int)).length : Int))) <|
        law32_odd_j1 (setI (rep y6 (0 : Int)) (3 : Int) (5 : Int)) y7.L y7.At
/-- awardingbody awardingbodyref32.Valid -/
noncomputable def ref32_Valid_j1  : Option Bool :=
  some true
noncomputable def ref32_Valid_l2 (d : api_Distribution) : (Int × Int) → Option ((Int × Int) ⊕ (Unit ⊕ Bool)) :=
  fun (n, i) =>
    bif (decide (i < (d.Counts.length : Int))) then
      req ((0 ≤ i ∧ i < (d.Counts.length : Int)) ∧ ((!(decide ((ix d.Counts i) < (0 : Int)))) = true → 0 ≤ i ∧ i < (d.Counts.length : Int))) <|
      bif ((decide ((ix d.Counts i) < (0 : Int))) || (decide ((IntKind.i64.wrap ((1048576 : Int) - n)) < (ix d.Counts i)))) then
        some (.inr (.inr false))
      else
        req ((0 ≤ i ∧ i < (d.Counts.length : Int))) <|
        some (.inl ((IntKind.i64.wrap (n + (ix d.Counts i))), (IntKind.i64.wrap (i + (1 : Int)))))
    else
      some (.inr (.inl ()))
noncomputable def ref32_Valid (d : api_Distribution) : Option Bool :=
  bif ((decide ((d.Counts.length : Int) < (1 : Int))) || (decide ((201 : Int) < (d.Counts.length : Int)))) then
    some false
  else
    (iter (ref32_Valid_l2 d) ((0 : Int), (0 : Int))).bind fun x_ =>
    match x_ with
    | .inl () => ref32_Valid_j1
    | .inr t_ => some t_
/-- awardingbody awardingbodyref32.Below -/
noncomputable def ref32_Below_j1 (n : Int) : Option Int :=
  some n
noncomputable def ref32_Below_l2 (d : api_Distribution) (score : Int) : (Int × Int) → Option ((Int × Int) ⊕ Int) :=
  fun (n1, i) =>
    req ((((decide (i < (d.Counts.length : Int))) && (decide (i < score))) = true → (ref32_Valid d).isSome = true)) <|
    bif (((decide (i < (d.Counts.length : Int))) && (decide (i < score))) && ((ref32_Valid d).getD default)) then
      req ((0 ≤ i ∧ i < (d.Counts.length : Int))) <|
      some (.inl ((IntKind.i64.wrap (n1 + (ix d.Counts i))), (IntKind.i64.wrap (i + (1 : Int)))))
    else
      some (.inr n1)
noncomputable def ref32_Below (d : api_Distribution) (score : Int) : Option Int :=
  (iter (ref32_Below_l2 d score) ((0 : Int), (0 : Int))).bind fun n2 =>
  ref32_Below_j1 n2
/-- awardingbody awardingbodyref32.Count -/
noncomputable def ref32_Count (d : api_Distribution) : Option Int :=
  (ref32_Below d (d.Counts.length : Int)).bind fun y =>
  some y
/-- awardingbody awardingbodyref01.Twice -/
noncomputable def ref01_Twice (a : ref01_Wide) : Option ref01_Wide :=
  some (ref01_Wide.mk (bOr .u64 (bShl .u64 a.Hi (1 : Int)) (bShr .u64 a.Lo (63 : Int))) (bShl .u64 a.Lo (1 : Int)))
/-- awardingbody awardingbodyref01.Order -/
noncomputable def ref01_Order (a : ref01_Wide) (b : ref01_Wide) : Option Int :=
  bif ((decide (a.Hi < b.Hi)) || ((a.Hi == b.Hi) && (decide (a.Lo < b.Lo)))) then
    some (-1 : Int)
  else
    bif ((a.Hi == b.Hi) && (a.Lo == b.Lo)) then
      some (0 : Int)
    else
      some (1 : Int)
/-- awardingbody awardingbodyref01.Minus -/
noncomputable def ref01_Minus (a : ref01_Wide) (b : ref01_Wide) : Option ref01_Wide :=
  (bits_Sub64 a.Lo b.Lo (0 : Int)).bind fun (y, y1) =>
  (bits_Sub64 a.Hi b.Hi y1).bind fun (y2, y3) =>
  some (ref01_Wide.mk y2 y)
/-- awardingbody awardingbodyref01.Divide -/
noncomputable def ref01_Divide_j1 (q : Int) (q1 : Int) (r : Int) (r1 : Int) : Option (ref01_Wide × ref01_Wide) :=
  some ((ref01_Wide.mk q q1), (ref01_Wide.mk r r1))
noncomputable def ref01_Divide_j2 (i : Int) (q6 : Int) (q7 : Int) (r6 : Int) (r7 : Int) : Option ((Int × Int × Int × Int × Int) ⊕ (Int × Int × Int × Int)) :=
  some (.inl ((IntKind.i64.wrap (i - (1 : Int))), q6, q7, r6, r7))
noncomputable def ref01_Divide_j3 (b : ref01_Wide) (i : Int) (q2 : Int) (q3 : Int) (r2 : Int) (r3 : Int) (bit1 : Int) : Option ((Int × Int × Int × Int × Int) ⊕ (Int × Int × Int × Int)) :=
  (ref01_Twice (ref01_Wide.mk r2 r3)).bind fun y =>
  (ref01_Twice (ref01_Wide.mk q2 q3)).bind fun y1 =>
  req (((!((bShr .u64 r2 (63 : Int)) == (1 : Int))) = true → (ref01_Order (ref01_Wide.mk y.Hi (bOr .u64 y.Lo bit1)) b).isSome = true)) <|
  bif (((bShr .u64 r2 (63 : Int)) == (1 : Int)) || (decide ((0 : Int) ≤ ((ref01_Order (ref01_Wide.mk y.Hi (bOr .u64 y.Lo bit1)) b).getD default)))) then
    (ref01_Minus (ref01_Wide.mk y.Hi (bOr .u64 y.Lo bit1)) b).bind fun y2 =>
    ref01_Divide_j2 i y1.Hi (bOr .u64 y1.Lo (1 : Int)) y2.Hi y2.Lo
  else
    ref01_Divide_j2 i y1.Hi y1.Lo y.Hi (bOr .u64 y.Lo bit1)
noncomputable def ref01_Divide_l4 (a : ref01_Wide) (b : ref01_Wide) : (Int × Int × Int × Int × Int) → Option ((Int × Int × Int × Int × Int) ⊕ (Int × Int × Int × Int)) :=
  fun (i, q2, q3, r2, r3) =>
    bif (decide ((0 : Int) ≤ i)) then
      req (0 ≤ (IntKind.u64.wrap (Int.tmod i (64 : Int)))) <|
      bindV (bAnd .u64 (bShr .u64 a.Lo (IntKind.u64.wrap (Int.tmod i (64 : Int)))) (1 : Int)) fun bit =>
      bif (decide ((64 : Int) ≤ i)) then
        req (0 ≤ (IntKind.u64.wrap (IntKind.i64.wrap (i - (64 : Int))))) <|
        bindV (bAnd .u64 (bShr .u64 a.Hi (IntKind.u64.wrap (IntKind.i64.wrap (i - (64 : Int))))) (1 : Int)) fun bit2 =>
        ref01_Divide_j3 b i q2 q3 r2 r3 bit2
      else
        ref01_Divide_j3 b i q2 q3 r2 r3 bit
    else
      some (.inr (q2, q3, r2, r3))
noncomputable def ref01_Divide (a : ref01_Wide) (b : ref01_Wide) : Option (ref01_Wide × ref01_Wide) :=
  bif ((a.Hi == (0 : Int)) && (b.Hi == (0 : Int))) then
    req (b.Lo ≠ 0) <|
    some ((ref01_Wide.mk (0 : Int) (IntKind.u64.wrap (Int.tdiv a.Lo b.Lo))), (ref01_Wide.mk (0 : Int) (Int.tmod a.Lo b.Lo)))
  else
    (iter (ref01_Divide_l4 a b) ((127 : Int), (0 : Int), (0 : Int), (0 : Int), (0 : Int))).bind fun (q4, q5, r4, r5) =>
    ref01_Divide_j1 q4 q5 r4 r5
/-- awardingbody awardingbodyref01.Divisor -/
noncomputable def ref01_Divisor_j1 (a1 : Int) (a2 : Int) : Option ref01_Wide :=
  some (ref01_Wide.mk a1 a2)
noncomputable def ref01_Divisor_l2  : (Int × Int × Int × Int) → Option ((Int × Int × Int × Int) ⊕ (Int × Int)) :=
  fun (a3, a4, b1, b2) =>
    bif (!((b1 == (0 : Int)) && (b2 == (0 : Int)))) then
      (ref01_Divide (ref01_Wide.mk a3 a4) (ref01_Wide.mk b1 b2)).bind fun (y, y1) =>
      some (.inl (b1, b2, y1.Hi, y1.Lo))
    else
      some (.inr (a3, a4))
noncomputable def ref01_Divisor (a : ref01_Wide) (b : ref01_Wide) : Option ref01_Wide :=
  (iter (ref01_Divisor_l2) (a.Hi, a.Lo, b.Hi, b.Lo)).bind fun (a5, a6) =>
  ref01_Divisor_j1 a5 a6
/-- awardingbody awardingbodyref01.Reduce -/
noncomputable def ref01_Reduce_j1 (y3 : ref01_Wide) (out : Int) : Option (api_Ratio × Int) :=
  some ((api_Ratio.mk out (IntKind.i64.wrap y3.Lo)), (0 : Int))
noncomputable def ref01_Reduce (negative : Bool) (num : ref01_Wide) (den : ref01_Wide) : Option (api_Ratio × Int) :=
  (ref01_Divisor num den).bind fun y =>
  (ref01_Divide num y).bind fun (y1, y2) =>
  (ref01_Divide den y).bind fun (y3, y4) =>
  bif ((((decide ((0 : Int) < y1.Hi)) || (decide ((0 : Int) < y3.Hi))) || (decide ((1152921504606846976 : Int) < y1.Lo))) || (decide ((1152921504606846976 : Int) < y3.Lo))) then
    some ((api_Ratio.mk (0 : Int) (0 : Int)), (6 : Int))
  else
    bif negative then
      ref01_Reduce_j1 y3 (IntKind.i64.wrap (0 - (IntKind.i64.wrap y1.Lo)))
    else
      ref01_Reduce_j1 y3 (IntKind.i64.wrap y1.Lo)
/-- awardingbody awardingbodyref01.Size -/
noncomputable def ref01_Size (n : Int) : Option Int :=
  bif (decide (n < (0 : Int))) then
    bindV (IntKind.u64.wrap ((IntKind.u64.wrap (IntKind.i64.wrap (0 - (IntKind.i64.wrap (n + (1 : Int)))))) + (1 : Int))) fun v =>
    some v
  else
    some (IntKind.u64.wrap n)
/-- awardingbody awardingbodyref01.New -/
noncomputable def ref01_New (num : Int) (den : Int) : Option (api_Ratio × Int) :=
  bif (den == (0 : Int)) then
    some ((api_Ratio.mk (0 : Int) (0 : Int)), (2 : Int))
  else
    (ref01_Size num).bind fun y =>
    (ref01_Size den).bind fun y1 =>
    (ref01_Reduce (!((decide (num < (0 : Int))) == (decide (den < (0 : Int))))) (ref01_Wide.mk (0 : Int) y) (ref01_Wide.mk (0 : Int) y1)).bind fun (y2, y3) =>
    some (y2, y3)
/-- awardingbody awardingbodyref32.wrong -/
noncomputable def ref32_wrong (d : api_Distribution) : Option Int :=
  (ref32_Valid d).bind fun y =>
  bif (!y) then
    some (1 : Int)
  else
    (ref32_Count d).bind fun y1 =>
    bif (y1 == (0 : Int)) then
      some (10 : Int)
    else
      some (0 : Int)
/-- awardingbody awardingbodyref32.Rank -/
noncomputable def ref32_Rank_j1 (d : api_Distribution) (score : Int) (own : Int) : Option (api_Ratio × Int) :=
  (ref32_Below d score).bind fun y1 =>
  (ref32_Count d).bind fun y2 =>
  (ref01_New (IntKind.i64.wrap ((IntKind.i64.wrap ((2 : Int) * y1)) + own)) (IntKind.i64.wrap ((2 : Int) * y2))).bind fun (y3, y4) =>
  some (y3, y4)
noncomputable def ref32_Rank (d : api_Distribution) (score : Int) : Option (api_Ratio × Int) :=
  (ref32_wrong d).bind fun y =>
  bif (y != (0 : Int)) then
    some ((api_Ratio.mk (0 : Int) (0 : Int)), y)
  else
    bif ((decide ((0 : Int) ≤ score)) && (decide (score < (d.Counts.length : Int)))) then
      req ((0 ≤ score ∧ score < (d.Counts.length : Int))) <|
      ref32_Rank_j1 d score (ix d.Counts score)
    else
      ref32_Rank_j1 d score (0 : Int)
/-- awardingbody awardingbodyref32.sum -/
noncomputable def ref32_sum_j1 (n : Int) : Option Int :=
  some n
noncomputable def ref32_sum_l2 (d : api_Distribution) : (Int × Int) → Option ((Int × Int) ⊕ Int) :=
  fun (n1, i) =>
    bif (decide (i < (d.Counts.length : Int))) then
      req ((0 ≤ i ∧ i < (d.Counts.length : Int))) <|
      some (.inl ((IntKind.i64.wrap (n1 + (IntKind.i64.wrap (i * (ix d.Counts i))))), (IntKind.i64.wrap (i + (1 : Int)))))
    else
      some (.inr n1)
noncomputable def ref32_sum (d : api_Distribution) : Option Int :=
  (iter (ref32_sum_l2 d) ((0 : Int), (0 : Int))).bind fun n2 =>
  ref32_sum_j1 n2
/-- awardingbody awardingbodyref32.Mean -/
noncomputable def ref32_Mean (d : api_Distribution) : Option (api_Ratio × Int) :=
  (ref32_wrong d).bind fun y =>
  bif (y != (0 : Int)) then
    some ((api_Ratio.mk (0 : Int) (0 : Int)), y)
  else
    (ref32_sum d).bind fun y1 =>
    (ref32_Count d).bind fun y2 =>
    (ref01_New y1 y2).bind fun (y3, y4) =>
    some (y3, y4)
/-- awardingbody awardingbodyref32.Deviation -/
noncomputable def ref32_Deviation_j1 (y1 : Int) (out : Int) : Option (api_Ratio × Int) :=
  (ref01_New out (IntKind.i64.wrap (y1 * y1))).bind fun (y3, y4) =>
  some (y3, y4)
noncomputable def ref32_Deviation_l2 (d : api_Distribution) (y1 : Int) (y2 : Int) : (Int × Int) → Option ((Int × Int) ⊕ Int) :=
  fun (out1, i) =>
    bif (decide (i < (d.Counts.length : Int))) then
      req ((0 ≤ i ∧ i < (d.Counts.length : Int))) <|
      bindV (IntKind.i64.wrap (out1 + (IntKind.i64.wrap ((ix d.Counts i) * (imax (IntKind.i64.wrap ((IntKind.i64.wrap (i * y1)) - y2)) (IntKind.i64.wrap (0 - (IntKind.i64.wrap ((IntKind.i64.wrap (i * y1)) - y2))))))))) fun out3 =>
      some (.inl (out3, (IntKind.i64.wrap (i + (1 : Int)))))
    else
      some (.inr out1)
noncomputable def ref32_Deviation (d : api_Distribution) : Option (api_Ratio × Int) :=
  (ref32_wrong d).bind fun y =>
  bif (y != (0 : Int)) then
    some ((api_Ratio.mk (0 : Int) (0 : Int)), y)
  else
    (ref32_Count d).bind fun y1 =>
    (ref32_sum d).bind fun y2 =>
    (iter (ref32_Deviation_l2 d y1 y2) ((0 : Int), (0 : Int))).bind fun out2 =>
    ref32_Deviation_j1 y1 out2
/-- awardingbody awardingbodyref01.Valid -/
noncomputable def ref01_Valid (a : api_Ratio) : Option Bool :=
  bif ((((decide (a.Den < (1 : Int))) || (decide ((1152921504606846976 : Int) < a.Den))) || (decide (a.Num < (-1152921504606846976 : Int)))) || (decide ((1152921504606846976 : Int) < a.Num))) then
    some false
  else
    (ref01_Size a.Num).bind fun y =>
    (ref01_Size a.Den).bind fun y1 =>
    (ref01_Divisor (ref01_Wide.mk (0 : Int) y) (ref01_Wide.mk (0 : Int) y1)).bind fun y2 =>
    some ((y2.Hi == (0 : Int)) && (y2.Lo == (1 : Int)))
/-- awardingbody awardingbodyref32.Outside -/
noncomputable def ref32_Outside (share : api_Ratio) : Option Bool :=
  some ((decide (share.Num < (0 : Int))) || (decide (share.Den < share.Num)))
end Go.LS
