/-
  Plain functions that the program's functions compute. No condition: definitions, printed by dec.py.
-/
import Derived.Test.YtogfplnonlpmcaaD1
namespace Go.LS
set_option linter.all false
set_option linter.unusedSimpArgs false
set_option linter.unusedVariables false
set_option maxRecDepth 20000

/-- awardingbody ratio.New -/
noncomputable def ratio_New (num : Int) (den : Int) : Option (api_Ratio × Int) :=
  bif (den == (0 : Int)) then
    some ((api_Ratio.mk (0 : Int) (0 : Int)), (2 : Int))
  else
    (ratio_magnitude num).bind fun y =>
    (ratio_magnitude den).bind fun y1 =>
    (ratio_reduced (ratio_signed.mk (!((decide (num < (0 : Int))) == (decide (den < (0 : Int))))) (ratio_wide.mk (0 : Int) y)) y1).bind fun (y2, y3) =>
    some (y2, y3)
/-- (awardingbody ratio.wide).plus -/
noncomputable def ratio_wide_plus (a : ratio_wide) (b : ratio_wide) : Option ratio_wide :=
  (bits_Add64 a.lo b.lo (0 : Int)).bind fun (y, y1) =>
  (bits_Add64 a.hi b.hi y1).bind fun (y2, y3) =>
  some (ratio_wide.mk y2 y)
/-- (awardingbody ratio.wide).minus -/
noncomputable def ratio_wide_minus (a : ratio_wide) (b : ratio_wide) : Option ratio_wide :=
  (bits_Sub64 a.lo b.lo (0 : Int)).bind fun (y, y1) =>
  (bits_Sub64 a.hi b.hi y1).bind fun (y2, y3) =>
  some (ratio_wide.mk y2 y)
/-- (awardingbody ratio.signed).plus -/
noncomputable def ratio_signed_plus (a : ratio_signed) (b : ratio_signed) : Option ratio_signed :=
  bif (a.neg == b.neg) then
    (ratio_wide_plus a.abs b.abs).bind fun y =>
    some (ratio_signed.mk a.neg y)
  else
    (ratio_wide_compare a.abs b.abs).bind fun y1 =>
    bif (decide ((0 : Int) ≤ y1)) then
      (ratio_wide_minus a.abs b.abs).bind fun y2 =>
      some (ratio_signed.mk a.neg y2)
    else
      (ratio_wide_minus b.abs a.abs).bind fun y3 =>
      some (ratio_signed.mk b.neg y3)
/-- awardingbody ratio.Sum -/
noncomputable def ratio_Sum_j1 (common : Int) (sum : Bool) (sum1 : Int) (sum2 : Int) : Option (api_Ratio × Int) :=
  (ratio_reduced (ratio_signed.mk sum (ratio_wide.mk sum1 sum2)) common).bind fun (y, y1) =>
  some (y, y1)
noncomputable def ratio_Sum_l2 (l : List api_Ratio) (common : Int) : (Int × Bool × Int × Int) → Option ((Int × Bool × Int × Int) ⊕ (Bool × Int × Int)) :=
  fun (v, sum3, sum4, sum5) =>
    bif (decide (v < (l.length : Int))) then
      req ((0 ≤ v ∧ v < (l.length : Int))) <|
      req ((IntKind.u64.wrap ((ix l v).Den)) ≠ 0) <|
      (ratio_signedProduct ((ix l v).Num) (IntKind.u64.wrap (Int.tdiv common (IntKind.u64.wrap ((ix l v).Den))))).bind fun y2 =>
      (ratio_signed_plus (ratio_signed.mk sum3 (ratio_wide.mk sum4 sum5)) y2).bind fun y3 =>
      some (.inl ((IntKind.i64.wrap (v + (1 : Int))), y3.neg, y3.abs.hi, y3.abs.lo))
    else
      some (.inr (sum3, sum4, sum5))
noncomputable def ratio_Sum_j3 (l : List api_Ratio) (common : Int) : Option (api_Ratio × Int) :=
  (iter (ratio_Sum_l2 l common) ((0 : Int), false, (0 : Int), (0 : Int))).bind fun (sum6, sum7, sum8) =>
  ratio_Sum_j1 common sum6 sum7 sum8
noncomputable def ratio_Sum_l4 (l : List api_Ratio) : (Int × Int) → Option ((Int × Int) ⊕ (Int ⊕ (api_Ratio × Int))) :=
  fun (common1, v1) =>
    bif (decide (v1 < (l.length : Int))) then
      req ((0 ≤ v1 ∧ v1 < (l.length : Int))) <|
      (ratio_gcd common1 (IntKind.u64.wrap ((ix l v1).Den))).bind fun y4 =>
      req (y4 ≠ 0) <|
      (ratio_product common1 (IntKind.u64.wrap (Int.tdiv (IntKind.u64.wrap ((ix l v1).Den)) y4))).bind fun y5 =>
      bif ((y5.hi != (0 : Int)) || (decide ((1152921504606846976 : Int) < y5.lo))) then
        some (.inr (.inr ((api_Ratio.mk (0 : Int) (0 : Int)), (6 : Int))))
      else
        some (.inl (y5.lo, (IntKind.i64.wrap (v1 + (1 : Int)))))
    else
      some (.inr (.inl common1))
noncomputable def ratio_Sum_j5 (l : List api_Ratio) : Option (api_Ratio × Int) :=
  (iter (ratio_Sum_l4 l) ((1 : Int), (0 : Int))).bind fun x_ =>
  match x_ with
  | .inl common2 => ratio_Sum_j3 l common2
  | .inr t_ => some t_
noncomputable def ratio_Sum_l6 (l : List api_Ratio) : Int → Option (Int ⊕ (Unit ⊕ (api_Ratio × Int))) :=
  fun v2 =>
    bif (decide (v2 < (l.length : Int))) then
      req ((0 ≤ v2 ∧ v2 < (l.length : Int))) <|
      (ratio_Valid (ix l v2)).bind fun y6 =>
      bif (!y6) then
        some (.inr (.inr ((api_Ratio.mk (0 : Int) (0 : Int)), (1 : Int))))
      else
        some (.inl (IntKind.i64.wrap (v2 + (1 : Int))))
    else
      some (.inr (.inl ()))
noncomputable def ratio_Sum (l : List api_Ratio) : Option (api_Ratio × Int) :=
  bif (decide ((100 : Int) < (l.length : Int))) then
    some ((api_Ratio.mk (0 : Int) (0 : Int)), (3 : Int))
  else
    (iter (ratio_Sum_l6 l) (0 : Int)).bind fun x_ =>
    match x_ with
    | .inl () => ratio_Sum_j5 l
    | .inr t_ => some t_
/-- awardingbody ratio.Mul -/
noncomputable def ratio_Mul (a : api_Ratio) (b : api_Ratio) : Option (api_Ratio × Int) :=
  (ratio_Valid a).bind fun y =>
  req (((!(!y)) = true → (ratio_Valid b).isSome = true)) <|
  bif ((!y) || (!((ratio_Valid b).getD default))) then
    some ((api_Ratio.mk (0 : Int) (0 : Int)), (1 : Int))
  else
    (ratio_magnitude a.Num).bind fun y1 =>
    (ratio_magnitude b.Num).bind fun y2 =>
    (ratio_gcd y1 (IntKind.u64.wrap b.Den)).bind fun y3 =>
    (ratio_gcd y2 (IntKind.u64.wrap a.Den)).bind fun y4 =>
    req (y3 ≠ 0 ∧ y4 ≠ 0) <|
    (ratio_product (IntKind.u64.wrap (Int.tdiv y1 y3)) (IntKind.u64.wrap (Int.tdiv y2 y4))).bind fun y5 =>
    req (y4 ≠ 0 ∧ y3 ≠ 0) <|
    (ratio_product (IntKind.u64.wrap (Int.tdiv (IntKind.u64.wrap a.Den) y4)) (IntKind.u64.wrap (Int.tdiv (IntKind.u64.wrap b.Den) y3))).bind fun y6 =>
    (ratio_fitted (!((decide (a.Num < (0 : Int))) == (decide (b.Num < (0 : Int))))) y5 y6).bind fun (y7, y8) =>
    some (y7, y8)
/-- awardingbody aggregate.weighted -/
noncomputable def aggregate_weighted_j1 (weights : Int) (terms : List api_Ratio) : Option (api_Ratio × Int × Int) :=
  (ratio_Sum terms).bind fun (y, y1) =>
  some (y, weights, y1)
noncomputable def aggregate_weighted_j2 (v : Int) (weights3 : Int) (terms3 : List api_Ratio) : Option ((Int × Int × (List api_Ratio)) ⊕ ((Int × (List api_Ratio)) ⊕ (api_Ratio × Int × Int))) :=
  some (.inl (weights3, (IntKind.i64.wrap (v + (1 : Int))), terms3))
noncomputable def aggregate_weighted_l3 (a : api_Award) (l : List api_UnitMark) : (Int × Int × (List api_Ratio)) → Option ((Int × Int × (List api_Ratio)) ⊕ ((Int × (List api_Ratio)) ⊕ (api_Ratio × Int × Int))) :=
  fun (weights1, v, terms1) =>
    bif (decide (v < (l.length : Int))) then
      req ((0 ≤ v ∧ v < (l.length : Int))) <|
      bif (((ix l v).Kind != (0 : Int)) && ((ix l v).Kind != (1 : Int))) then
        aggregate_weighted_j2 v weights1 terms1
      else
        req ((0 ≤ v ∧ v < (a.Units.length : Int))) <|
        (ratio_New ((ix a.Units v).Weight) ((ix a.Units v).Max)).bind fun (y2, y3) =>
        bif (y3 != (0 : Int)) then
          some (.inr (.inr ((api_Ratio.mk (0 : Int) (0 : Int)), (0 : Int), y3)))
        else
          (ratio_Mul ((ix l v).Value) y2).bind fun (y4, y5) =>
          bif (y5 != (0 : Int)) then
            some (.inr (.inr ((api_Ratio.mk (0 : Int) (0 : Int)), (0 : Int), y5)))
          else
            req ((terms1.length + ([y4]).length) * 16 ≤ 140737488355328) <|
            aggregate_weighted_j2 v (IntKind.i64.wrap (weights1 + (ix a.Units v).Weight)) (terms1 ++ [y4])
    else
      some (.inr (.inl (weights1, terms1)))
noncomputable def aggregate_weighted (a : api_Award) (l : List api_UnitMark) : Option (api_Ratio × Int × Int) :=
  (iter (aggregate_weighted_l3 a l) ((0 : Int), (0 : Int), ([] : List api_Ratio))).bind fun x_ =>
  match x_ with
  | .inl (weights2, terms2) => aggregate_weighted_j1 weights2 terms2
  | .inr t_ => some t_
/-- awardingbody aggregate.scaled -/
noncomputable def aggregate_scaled (a : api_Award) (l : List api_UnitMark) (most : Int) : Option (api_Ratio × Int) :=
  (aggregate_weighted a l).bind fun (y, y1, y2) =>
  bif (y2 != (0 : Int)) then
    some ((api_Ratio.mk (0 : Int) (0 : Int)), y2)
  else
    (ratio_New most y1).bind fun (y3, y4) =>
    bif (y4 != (0 : Int)) then
      some ((api_Ratio.mk (0 : Int) (0 : Int)), y4)
    else
      (ratio_Mul y y3).bind fun (y5, y6) =>
      some (y5, y6)
/-- awardingbody ratio.Add -/
noncomputable def ratio_Add (a : api_Ratio) (b : api_Ratio) : Option (api_Ratio × Int) :=
  (ratio_Valid a).bind fun y =>
  req (((!(!y)) = true → (ratio_Valid b).isSome = true)) <|
  bif ((!y) || (!((ratio_Valid b).getD default))) then
    some ((api_Ratio.mk (0 : Int) (0 : Int)), (1 : Int))
  else
    (ratio_gcd (IntKind.u64.wrap a.Den) (IntKind.u64.wrap b.Den)).bind fun y1 =>
    req (y1 ≠ 0) <|
    (ratio_signedProduct a.Num (IntKind.u64.wrap (Int.tdiv (IntKind.u64.wrap b.Den) y1))).bind fun y2 =>
    req (y1 ≠ 0) <|
    (ratio_signedProduct b.Num (IntKind.u64.wrap (Int.tdiv (IntKind.u64.wrap a.Den) y1))).bind fun y3 =>
    (ratio_signed_plus y2 y3).bind fun y4 =>
    (ratio_wide_mod y4.abs y1).bind fun y5 =>
    (ratio_gcd y5 y1).bind fun y6 =>
    (ratio_wide_over y4.abs y6).bind fun y7 =>
    req (y1 ≠ 0 ∧ y6 ≠ 0) <|
    (ratio_product (IntKind.u64.wrap (Int.tdiv (IntKind.u64.wrap a.Den) y1)) (IntKind.u64.wrap (Int.tdiv (IntKind.u64.wrap b.Den) y6))).bind fun y8 =>
    (ratio_fitted y4.neg y7 y8).bind fun (y9, y10) =>
    some (y9, y10)
/-- awardingbody ratio.Less -/
noncomputable def ratio_Less (a : api_Ratio) (b : api_Ratio) : Option Bool :=
  (ratio_Compare a b).bind fun y =>
  some (y == (-1 : Int))
/-- awardingbody aggregate.Exact -/
noncomputable def aggregate_Exact (a : api_Award) (l : List api_UnitMark) (special : Int) : Option (api_Ratio × Int) :=
  (aggregate_checkMarks a l special).bind fun y =>
  bif (y != (0 : Int)) then
    some ((api_Ratio.mk (0 : Int) (0 : Int)), y)
  else
    (aggregate_has l (3 : Int)).bind fun y1 =>
    bif y1 then
      some ((api_Ratio.mk (0 : Int) (0 : Int)), (8 : Int))
    else
      (aggregate_has l (0 : Int)).bind fun y2 =>
      req (((!y2) = true → (aggregate_has l (1 : Int)).isSome = true)) <|
      bif ((!y2) && (!((aggregate_has l (1 : Int)).getD default))) then
        some ((api_Ratio.mk (0 : Int) (0 : Int)), (10 : Int))
      else
        (aggregate_scaled a l a.Max).bind fun (y3, y4) =>
        bif (y4 != (0 : Int)) then
          some ((api_Ratio.mk (0 : Int) (0 : Int)), y4)
        else
          (ratio_New (IntKind.i64.wrap (special * a.Max)) (1000 : Int)).bind fun (y5, y6) =>
          bif (y6 != (0 : Int)) then
            some ((api_Ratio.mk (0 : Int) (0 : Int)), y6)
          else
            (ratio_Add y3 y5).bind fun (y7, y8) =>
            bif (y8 != (0 : Int)) then
              some ((api_Ratio.mk (0 : Int) (0 : Int)), y8)
            else
              (ratio_Less (api_Ratio.mk a.Max (1 : Int)) y7).bind fun y9 =>
              bif y9 then
                some ((api_Ratio.mk a.Max (1 : Int)), (0 : Int))
              else
                some (y7, (0 : Int))
/-- awardingbody ratio.toRound -/
noncomputable def ratio_toRound (floor : Int) (rest : Int) (den : Int) : Option Int :=
  bif (decide ((IntKind.i64.wrap (den - rest)) ≤ rest)) then
    some (IntKind.i64.wrap (floor + (1 : Int)))
  else
    some floor
/-- awardingbody ratio.rounded -/
noncomputable def ratio_rounded_ratio_toRound_j1 (a : api_Ratio) (floor : Int) (rest : Int) : Option Int :=
  (ratio_toRound floor rest a.Den).bind fun y1 =>
  some y1
noncomputable def ratio_rounded_ratio_toRound (a : api_Ratio) : Option Int :=
  (ratio_Valid a).bind fun y =>
  bif (!y) then
    some (0 : Int)
  else
    req (a.Den ≠ 0) <|
    bif (decide ((Int.tmod a.Num a.Den) < (0 : Int))) then
      bindV (IntKind.i64.wrap ((IntKind.i64.wrap (Int.tdiv a.Num a.Den)) - (1 : Int))) fun floor1 =>
      ratio_rounded_ratio_toRound_j1 a floor1 (IntKind.i64.wrap ((Int.tmod a.Num a.Den) + a.Den))
    else
      ratio_rounded_ratio_toRound_j1 a (IntKind.i64.wrap (Int.tdiv a.Num a.Den)) (Int.tmod a.Num a.Den)
/-- awardingbody ratio.Round -/
noncomputable def ratio_Round (a : api_Ratio) : Option Int :=
  (ratio_rounded_ratio_toRound a).bind fun y =>
  some y
/-- awardingbody aggregate.Total -/
noncomputable def aggregate_Total (a : api_Award) (l : List api_UnitMark) (special : Int) : Option (Int × Int) :=
  (aggregate_Exact a l special).bind fun (y, y1) =>
  bif (y1 != (0 : Int)) then
    some ((0 : Int), y1)
  else
    (ratio_Round y).bind fun y2 =>
    some (y2, (0 : Int))
/-- awardingbody boundary.Grade -/
noncomputable def boundary_Grade_j1 (b : List Int) : Option Int :=
  some (b.length : Int)
noncomputable def boundary_Grade_l2 (b : List Int) (mark : Int) : Int → Option (Int ⊕ (Unit ⊕ Int)) :=
  fun v =>
    bif (decide (v < (b.length : Int))) then
      req ((0 ≤ v ∧ v < (b.length : Int))) <|
      bif (decide ((ix b v) ≤ mark)) then
        some (.inr (.inr v))
      else
        some (.inl (IntKind.i64.wrap (v + (1 : Int))))
    else
      some (.inr (.inl ()))
noncomputable def boundary_Grade (b : List Int) (mark : Int) : Option Int :=
  (iter (boundary_Grade_l2 b mark) (0 : Int)).bind fun x_ =>
  match x_ with
  | .inl () => boundary_Grade_j1 b
  | .inr t_ => some t_
/-- awardingbody aggregate.Decide -/
noncomputable def aggregate_Decide (a : api_Award) (l : List api_UnitMark) (special : Int) : Option (Int × Int × Int × Int) :=
  (aggregate_checkMarks a l special).bind fun y =>
  bif (y != (0 : Int)) then
    some ((0 : Int), (0 : Int), (0 : Int), y)
  else
    (aggregate_has l (3 : Int)).bind fun y1 =>
    bif y1 then
      some ((2 : Int), (0 : Int), (0 : Int), (0 : Int))
    else
      (aggregate_has l (0 : Int)).bind fun y2 =>
      bif (!y2) then
        some ((1 : Int), (0 : Int), (0 : Int), (0 : Int))
      else
        (aggregate_Total a l special).bind fun (y3, y4) =>
        bif (y4 != (0 : Int)) then
          some ((0 : Int), (0 : Int), (0 : Int), y4)
        else
          (boundary_Grade a.Bounds y3).bind fun y5 =>
          some ((0 : Int), y5, y3, (0 : Int))
/-- awardingbody aggregate.Estimate -/
noncomputable def aggregate_Estimate (a : api_Award) (l : List api_UnitMark) (unit : Int) : Option (api_Ratio × Int) :=
  bif ((decide (unit < (0 : Int))) || (decide ((a.Units.length : Int) ≤ unit))) then
    some ((api_Ratio.mk (0 : Int) (0 : Int)), (4 : Int))
  else
    (aggregate_Exact a l (0 : Int)).bind fun (y, y1) =>
    bif (y1 != (0 : Int)) then
      some ((api_Ratio.mk (0 : Int) (0 : Int)), y1)
    else
      req ((0 ≤ unit ∧ unit < (a.Units.length : Int))) <|
      (aggregate_scaled a l ((ix a.Units unit).Max)).bind fun (y2, y3) =>
      some (y2, y3)
/-- awardingbody awardingbodylaw36.sane -/
noncomputable def law36_sane  : Option Bool :=
  (law36_whole (25 : Int)).bind fun y =>
  (law36_whole (80 : Int)).bind fun y1 =>
  (aggregate_Total (api_Award.mk ([(api_Unit.mk (0 : Int) (60 : Int) (50 : Int)), (api_Unit.mk (1 : Int) (40 : Int) (100 : Int))]) ([(60 : Int), (50 : Int)]) (100 : Int)) ([(api_UnitMark.mk (0 : Int) y), (api_UnitMark.mk (0 : Int) y1)]) (0 : Int)).bind fun (y2, y3) =>
  req ((0 ≤ (0 : Int) ∧ (0 : Int) < (([(api_UnitMark.mk (0 : Int) y), (api_UnitMark.mk (0 : Int) y1)]).length : Int))) <|
  (law36_whole (0 : Int)).bind fun y4 =>
  (aggregate_Decide (api_Award.mk ([(api_Unit.mk (0 : Int) (60 : Int) (50 : Int)), (api_Unit.mk (1 : Int) (40 : Int) (100 : Int))]) ([(60 : Int), (50 : Int)]) (100 : Int)) ([(api_UnitMark.mk (0 : Int) y), (api_UnitMark.mk (2 : Int) y4)]) (0 : Int)).bind fun (y5, y6, y7, y8) =>
  req ((0 ≤ (0 : Int) ∧ (0 : Int) < (([(api_UnitMark.mk (0 : Int) y), (api_UnitMark.mk (0 : Int) y1)]).length : Int))) <|
  (law36_whole (0 : Int)).bind fun y9 =>
  (aggregate_Estimate (api_Award.mk ([(api_Unit.mk (0 : Int) (60 : Int) (50 : Int)), (api_Unit.mk (1 : Int) (40 : Int) (100 : Int))]) ([(60 : Int), (50 : Int)]) (100 : Int)) ([(api_UnitMark.mk (0 : Int) y), (api_UnitMark.mk (2 : Int) y9)]) (1 : Int)).bind fun (y10, y11) =>
  req (((((((((y3 == (0 : Int)) && (y8 == (0 : Int))) && (y11 == (0 : Int))) && (y2 == (62 : Int))) && (y5 == (0 : Int))) && (y6 == (1 : Int))) && (y7 == (50 : Int))) = true → (law36_whole (50 : Int)).isSome = true)) <|
  some ((((((((y3 == (0 : Int)) && (y8 == (0 : Int))) && (y11 == (0 : Int))) && (y2 == (62 : Int))) && (y5 == (0 : Int))) && (y6 == (1 : Int))) && (y7 == (50 : Int))) && ((y10.Num == ((law36_whole (50 : Int)).getD default).Num) && (y10.Den == ((law36_whole (50 : Int)).getD default).Den)))
/-- awardingbody awardingbodymark.Roll -/
noncomputable def mark_Roll (l : List Int) : Option mark_Dice :=
  some (mark_Dice.mk l (0 : Int))
/-- (ptr awardingbody awardingbodymark.Dice).Next -/
noncomputable def mark_Dice_Next_j1 (d : mark_Dice) (x : Int) : Option (Int × mark_Dice) :=
  some (x, (mark_Dice.mk d.L (IntKind.i64.wrap (d.At + (1 : Int)))))
noncomputable def mark_Dice_Next (d : mark_Dice) (n : Int) : Option (Int × mark_Dice) :=
  bif ((decide ((d.L.length : Int) ≤ d.At)) || (decide (n < (1 : Int)))) then
    some ((0 : Int), d)
  else
    req ((0 ≤ d.At ∧ d.At < (d.L.length : Int)) ∧ n ≠ 0) <|
    bif (decide ((Int.tmod (ix d.L d.At) n) < (0 : Int))) then
      mark_Dice_Next_j1 d (IntKind.i64.wrap ((Int.tmod (ix d.L d.At) n) + n))
    else
      mark_Dice_Next_j1 d (Int.tmod (ix d.L d.At) n)
/-- (ptr awardingbody awardingbodymark.Dice).Pick -/
noncomputable def mark_Dice_Pick (d : mark_Dice) (l : List Int) : Option (Int × mark_Dice) :=
  (mark_Dice_Next d (l.length : Int)).bind fun (y, y1) =>
  req ((0 ≤ y ∧ y < (l.length : Int))) <|
  some ((ix l y), y1)
/-- (ptr awardingbody awardingbodymark.Dice).Bounds -/
noncomputable def mark_Dice_Bounds_j1 (d1 : List Int) (d2 : Int) (out : List Int) : Option ((List Int) × mark_Dice) :=
  some (out, (mark_Dice.mk d1 d2))
noncomputable def mark_Dice_Bounds_l2  : (Int × Int × (List Int) × Int × (List Int)) → Option ((Int × Int × (List Int) × Int × (List Int)) ⊕ ((List Int) × Int × (List Int))) :=
  fun (b, i, d3, d4, out1) =>
    bif (decide ((0 : Int) < i)) then
      (mark_Dice_Next (mark_Dice.mk d3 d4) (IntKind.i64.wrap ((IntKind.i64.wrap (Int.tdiv b (2 : Int))) + (1 : Int)))).bind fun (y2, y3) =>
      req ((out1.length + ([(IntKind.i64.wrap (b - y2))]).length) * 8 ≤ 140737488355328) <|
      some (.inl ((IntKind.i64.wrap (b - y2)), (IntKind.i64.wrap (i - (1 : Int))), y3.L, y3.At, (out1 ++ [(IntKind.i64.wrap (b - y2))])))
    else
      some (.inr (d3, d4, out1))
noncomputable def mark_Dice_Bounds (d : mark_Dice) (most : Int) : Option ((List Int) × mark_Dice) :=
  (mark_Dice_Next d (4 : Int)).bind fun (y, y1) =>
  (iter (mark_Dice_Bounds_l2) ((IntKind.i64.wrap (most + (1 : Int))), (IntKind.i64.wrap ((1 : Int) + y)), y1.L, y1.At, ([] : List Int))).bind fun (d5, d6, out2) =>
  mark_Dice_Bounds_j1 d5 d6 out2
/-- (ptr awardingbody awardingbodymark.Dice).Award -/
noncomputable def mark_Dice_Award_j1 (y : Int) (d1 : List Int) (d2 : Int) (w : List api_Unit) : Option (api_Award × mark_Dice) :=
  (mark_Dice_Bounds (mark_Dice.mk d1 d2) y).bind fun (y2, y3) =>
  some ((api_Award.mk w y2 y), y3)
noncomputable def mark_Dice_Award_l2 (n : Int) : (Int × (List Int) × Int × (List api_Unit)) → Option ((Int × (List Int) × Int × (List api_Unit)) ⊕ ((List Int) × Int × (List api_Unit))) :=
  fun (i, d3, d4, w1) =>
    bif (decide (i < n)) then
      (mark_Dice_Pick (mark_Dice.mk d3 d4) ([(1 : Int), (2 : Int), (60 : Int), (40 : Int)])).bind fun (y4, y5) =>
      (mark_Dice_Pick y5 ([(10 : Int), (12 : Int), (50 : Int)])).bind fun (y6, y7) =>
      req ((w1.length + ([(api_Unit.mk i y4 y6)]).length) * 24 ≤ 140737488355328) <|
      some (.inl ((IntKind.i64.wrap (i + (1 : Int))), y7.L, y7.At, (w1 ++ [(api_Unit.mk i y4 y6)])))
    else
      some (.inr (d3, d4, w1))
noncomputable def mark_Dice_Award (d : mark_Dice) (n : Int) : Option (api_Award × mark_Dice) :=
  (mark_Dice_Pick d ([(100 : Int), (20 : Int), (60 : Int)])).bind fun (y, y1) =>
  (iter (mark_Dice_Award_l2 n) ((0 : Int), y1.L, y1.At, ([] : List api_Unit))).bind fun (d5, d6, w2) =>
  mark_Dice_Award_j1 y d5 d6 w2
/-- (ptr awardingbody awardingbodymark.Dice).Bool -/
noncomputable def mark_Dice_Bool (d : mark_Dice) (n : Int) : Option (Bool × mark_Dice) :=
  (mark_Dice_Next d n).bind fun (y, y1) =>
  some ((y == (IntKind.i64.wrap (n - (1 : Int)))), y1)
/-- (ptr awardingbody awardingbodymark.Dice).Marks -/
noncomputable def mark_Dice_Marks_j1 (d1 : List Int) (d2 : Int) (out : List api_UnitMark) : Option ((List api_UnitMark) × mark_Dice) :=
  some (out, (mark_Dice.mk d1 d2))
noncomputable def mark_Dice_Marks_j2 (i : Int) (out1 : List api_UnitMark) (y : Int) (d7 : List Int) (d8 : Int) (x : Int) (x1 : Int) : Option ((Int × (List Int) × Int × (List api_UnitMark)) ⊕ ((List Int) × Int × (List api_UnitMark))) :=
  req ((out1.length + ([(api_UnitMark.mk y (api_Ratio.mk x x1))]).length) * 24 ≤ 140737488355328) <|
  some (.inl ((IntKind.i64.wrap (i + (1 : Int))), d7, d8, (out1 ++ [(api_UnitMark.mk y (api_Ratio.mk x x1))])))
noncomputable def mark_Dice_Marks_l3 (a : api_Award) : (Int × (List Int) × Int × (List api_UnitMark)) → Option ((Int × (List Int) × Int × (List api_UnitMark)) ⊕ ((List Int) × Int × (List api_UnitMark))) :=
  fun (i, d3, d4, out1) =>
    bif (decide (i < (a.Units.length : Int))) then
      (mark_Dice_Pick (mark_Dice.mk d3 d4) ([(0 : Int), (0 : Int), (0 : Int), (1 : Int), (2 : Int), (3 : Int), (0 : Int), (0 : Int)])).bind fun (y, y1) =>
      bif (y == (0 : Int)) then
        req ((0 ≤ i ∧ i < (a.Units.length : Int))) <|
        (mark_Dice_Next y1 (IntKind.i64.wrap ((ix a.Units i).Max + (1 : Int)))).bind fun (y2, y3) =>
        req ((((Int.tmod y2 (2 : Int)) == (1 : Int)) = true → 0 ≤ i ∧ i < (a.Units.length : Int))) <|
        bif (((Int.tmod y2 (2 : Int)) == (1 : Int)) && (decide (y2 < (ix a.Units i).Max))) then
          (mark_Dice_Bool y3 (3 : Int)).bind fun (y4, y5) =>
          bif y4 then
            mark_Dice_Marks_j2 i out1 y y5.L y5.At y2 (2 : Int)
          else
            mark_Dice_Marks_j2 i out1 y y5.L y5.At y2 (1 : Int)
        else
          mark_Dice_Marks_j2 i out1 y y3.L y3.At y2 (1 : Int)
      else
        mark_Dice_Marks_j2 i out1 y y1.L y1.At (0 : Int) (1 : Int)
    else
      some (.inr (d3, d4, out1))
noncomputable def mark_Dice_Marks (d : mark_Dice) (a : api_Award) : Option ((List api_UnitMark) × mark_Dice) :=
  (iter (mark_Dice_Marks_l3 a) ((0 : Int), d.L, d.At, ([] : List api_UnitMark))).bind fun (d5, d6, out2) =>
  mark_Dice_Marks_j1 d5 d6 out2
/-- awardingbody awardingbodylaw36.odd -/
noncomputable def law36_odd_j1 (d1 : List Int) (d2 : Int) (a1 : List api_Unit) (a2 : List Int) (a3 : Int) : Option (api_Award × mark_Dice) :=
  some ((api_Award.mk a1 a2 a3), (mark_Dice.mk d1 d2))
noncomputable def law36_odd (d : mark_Dice) (a : api_Award) : Option (api_Award × mark_Dice) :=
  req (a.Units.length * 24 ≤ 140737488355328) <|
  (mark_Dice_Next d (a.Units.length : Int)).bind fun (y, y1) =>
  req ((0 ≤ y ∧ y < (a.Units.length : Int))) <|
  (mark_Dice_Next y1 (6 : Int)).bind fun (y2, y3) =>
  bif (y2 == (0 : Int)) then
    (mark_Dice_Pick y3 ([(-1 : Int), (0 : Int), (31 : Int), (32 : Int)])).bind fun (y4, y5) =>
    bindV (setI a.Units y (api_Unit.mk y4 ((ix a.Units y).Weight) ((ix a.Units y).Max))) fun w =>
    law36_odd_j1 y5.L y5.At w a.Bounds a.Max
  else
    bif (y2 == (1 : Int)) then
      (mark_Dice_Pick y3 ([(0 : Int), (1 : Int), (1000 : Int), (1001 : Int)])).bind fun (y6, y7) =>
      bindV (setI a.Units y (api_Unit.mk ((ix a.Units y).Paper) y6 ((ix a.Units y).Max))) fun w1 =>
      law36_odd_j1 y7.L y7.At w1 a.Bounds a.Max
    else
      bif (y2 == (2 : Int)) then
        (mark_Dice_Pick y3 ([(0 : Int), (1 : Int), (200 : Int), (201 : Int)])).bind fun (y8, y9) =>
        bindV (setI a.Units y (api_Unit.mk ((ix a.Units y).Paper) ((ix a.Units y).Weight) y8)) fun w2 =>
        law36_odd_j1 y9.L y9.At w2 a.Bounds a.Max
      else
        bif (y2 == (3 : Int)) then
          (mark_Dice_Pick y3 ([(0 : Int), (1 : Int), (200 : Int), (201 : Int)])).bind fun (y10, y11) =>
          law36_odd_j1 y11.L y11.At a.Units a.Bounds y10
        else
          bif (y2 == (4 : Int)) then
            (mark_Dice_Next y3 (5 : Int)).bind fun (y12, y13) =>
            req ((0 ≤ y12 ∧ y12 < (([([] : List Int), [(1 : Int), (2 : Int)], [(IntKind.i64.wrap (a.Max + (1 : Int)))], [(IntKind.i64.wrap (a.Max + (2 : Int)))], [(-1 : Int)]]).length : Int))) <|
            bindV (ix ([([] : List Int), [(1 : Int), (2 : Int)], [(IntKind.i64.wrap (a.Max + (1 : Int)))], [(IntKind.i64.wrap (a.Max + (2 : Int)))], [(-1 : Int)]]) y12) fun a4 =>
            law36_odd_j1 y13.L y13.At a.Units a4 a.Max
          else
            req ((0 ≤ (0 : Int) ∧ (0 : Int) ≤ (a.Units.length : Int))) <|
            law36_odd_j1 y3.L y3.At (List.take (0 : Int).toNat a.Units) a.Bounds a.Max
/-- awardingbody awardingbodyref36.in -/
noncomputable def ref36_in (n : Int) (lo : Int) (hi : Int) : Option Bool :=
  some ((decide (lo ≤ n)) && (decide (n ≤ hi)))
end Go.LS
