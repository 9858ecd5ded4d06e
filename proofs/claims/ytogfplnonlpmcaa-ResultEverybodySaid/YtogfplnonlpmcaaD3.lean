/-
  Plain functions that the program's functions compute. No condition: definitions, printed by dec.py.
-/
import Derived.Test.YtogfplnonlpmcaaD2
namespace Go.LS
set_option linter.all false
set_option linter.unusedSimpArgs false
set_option linter.unusedVariables false
set_option maxRecDepth 20000

/-- awardingbody aggregate.weighted -/
noncomputable def aggregate_weighted_j1 (weights : Int) (terms : List api_Ratio) : Option (api_Ratio × Int × Int) :=
  (ratio_Sum terms).bind fun (y, y1) =>
  some (y, weights, y1)
noncomputable def aggregate_weighted_j2 (v : Int) (weights3 : Int) (terms3 : List api_Ratio) : Option ((Int × Int × (List api_Ratio)) ⊕ ((Int × (List api_Ratio)) ⊕ (api_Ratio × Int × Int))) :=
  some (.inl (weights3, (IntKind.i64.wrap (v + (1 : Int))), terms3))
noncomputable def aggregate_weighted_l3 (a : api_Award) (l : List api_UnitMark) : (Int × Int × (List api_Ratio)) → Option ((Int × Int × (List api_Ratio)) ⊕ ((Int × (List api_Ratio)) ⊕ (api_Ratio × Int × Int))) :=
  fun (weights1, v, terms1) =>
    bif (decide (v < (l.length : Int))) then
      req ((0 ≤ v ∧ v < (l.length : Int))) <|
      bif (((ix l v).Kind != (0 : Int)) && ((ix l v).Kind != (1 : Int))) then
        aggregate_weighted_j2 v weights1 terms1
      else
        req ((0 ≤ v ∧ v < (a.Units.length : Int))) <|
        (ratio_New ((ix a.Units v).Weight) ((ix a.Units v).Max)).bind fun (y2, y3) =>
        bif (y3 != (0 : Int)) then
          some (.inr (.inr ((api_Ratio.mk (0 : Int) (0 : Int)), (0 : Int), y3)))
        else
          (ratio_Mul ((ix l v).Value) y2).bind fun (y4, y5) =>
          bif (y5 != (0 : Int)) then
            some (.inr (.inr ((api_Ratio.mk (0 : Int) (0 : Int)), (0 : Int), y5)))
          else
            req ((terms1.length + ([y4]).length) * 16 ≤ 140737488355328) <|
            aggregate_weighted_j2 v (IntKind.i64.wrap (weights1 + (ix a.Units v).Weight)) (terms1 ++ [y4])
    else
      some (.inr (.inl (weights1, terms1)))
noncomputable def aggregate_weighted (a : api_Award) (l : List api_UnitMark) : Option (api_Ratio × Int × Int) :=
  (iter (aggregate_weighted_l3 a l) ((0 : Int), (0 : Int), ([] : List api_Ratio))).bind fun x_ =>
  match x_ with
  | .inl (weights2, terms2) => aggregate_weighted_j1 weights2 terms2
  | .inr t_ => some t_
/-- awardingbody aggregate.scaled -/
noncomputable def aggregate_scaled (a : api_Award) (l : List api_UnitMark) (most : Int) : Option (api_Ratio × Int) :=
  (aggregate_weighted a l).bind fun (y, y1, y2) =>
  bif (y2 != (0 : Int)) then
    some ((api_Ratio.mk (0 : Int) (0 : Int)), y2)
  else
    (ratio_New most y1).bind fun (y3, y4) =>
    bif (y4 != (0 : Int)) then
      some ((api_Ratio.mk (0 : Int) (0 : Int)), y4)
    else
      (ratio_Mul y y3).bind fun (y5, y6) =>
      some (y5, y6)
/-- awardingbody ratio.Add -/
noncomputable def ratio_Add (a : api_Ratio) (b : api_Ratio) : Option (api_Ratio × Int) :=
  (ratio_Valid a).bind fun y =>
  req (((!(!y)) = true → (ratio_Valid b).isSome = true)) <|
  bif ((!y) || (!((ratio_Valid b).getD default))) then
    some ((api_Ratio.mk (0 : Int) (0 : Int)), (1 : Int))
  else
    (ratio_gcd (IntKind.u64.wrap a.Den) (IntKind.u64.wrap b.Den)).bind fun y1 =>
    req (y1 ≠ 0) <|
    (ratio_signedProduct a.Num (IntKind.u64.wrap (Int.tdiv (IntKind.u64.wrap b.Den) y1))).bind fun y2 =>
    req (y1 ≠ 0) <|
    (ratio_signedProduct b.Num (IntKind.u64.wrap (Int.tdiv (IntKind.u64.wrap a.Den) y1))).bind fun y3 =>
    (ratio_signed_plus y2 y3).bind fun y4 =>
    (ratio_wide_mod y4.abs y1).bind fun y5 =>
    (ratio_gcd y5 y1).bind fun y6 =>
    (ratio_wide_over y4.abs y6).bind fun y7 =>
    req (y1 ≠ 0 ∧ y6 ≠ 0) <|
    (ratio_product (IntKind.u64.wrap (Int.tdiv (IntKind.u64.wrap a.Den) y1)) (IntKind.u64.wrap (Int.tdiv (IntKind.u64.wrap b.Den) y6))).bind fun y8 =>
    (ratio_fitted y4.neg y7 y8).bind fun (y9, y10) =>
    some (y9, y10)
/-- awardingbody ratio.Less -/
noncomputable def ratio_Less (a : api_Ratio) (b : api_Ratio) : Option Bool :=
  (ratio_Compare a b).bind fun y =>
  some (y == (-1 : Int))
/-- awardingbody aggregate.Exact -/
noncomputable def aggregate_Exact (a : api_Award) (l : List api_UnitMark) (special : Int) : Option (api_Ratio × Int) :=
  (aggregate_checkMarks a l special).bind fun y =>
  bif (y != (0 : Int)) then
    some ((api_Ratio.mk (0 : Int) (0 : Int)), y)
  else
    (aggregate_has l (3 : Int)).bind fun y1 =>
    bif y1 then
      some ((api_Ratio.mk (0 : Int) (0 : Int)), (8 : Int))
    else
      (aggregate_has l (0 : Int)).bind fun y2 =>
      req (((!y2) = true → (aggregate_has l (1 : Int)).isSome = true)) <|
      bif ((!y2) && (!((aggregate_has l (1 : Int)).getD default))) then
        some ((api_Ratio.mk (0 : Int) (0 : Int)), (10 : Int))
      else
        (aggregate_scaled a l a.Max).bind fun (y3, y4) =>
        bif (y4 != (0 : Int)) then
          some ((api_Ratio.mk (0 : Int) (0 : Int)), y4)
        else
          (ratio_New (IntKind.i64.wrap (special * a.Max)) (1000 : Int)).bind fun (y5, y6) =>
          bif (y6 != (0 : Int)) then
            some ((api_Ratio.mk (0 : Int) (0 : Int)), y6)
          else
            (ratio_Add y3 y5).bind fun (y7, y8) =>
            bif (y8 != (0 : Int)) then
              some ((api_Ratio.mk (0 : Int) (0 : Int)), y8)
            else
              (ratio_Less (api_Ratio.mk a.Max (1 : Int)) y7).bind fun y9 =>
              bif y9 then
                some ((api_Ratio.mk a.Max (1 : Int)), (0 : Int))
              else
                some (y7, (0 : Int))
/-- awardingbody ratio.toRound -/
noncomputable def ratio_toRound (floor : Int) (rest : Int) (den : Int) : Option Int :=
  bif (decide ((IntKind.i64.wrap (den - rest)) ≤ rest)) then
    some (IntKind.i64.wrap (floor + (1 : Int)))
  else
    some floor
/-- awardingbody ratio.rounded -/
noncomputable def ratio_rounded_ratio_toRound_j1 (a : api_Ratio) (floor : Int) (rest : Int) : Option Int :=
  (ratio_toRound floor rest a.Den).bind fun y1 =>
  some y1
noncomputable def ratio_rounded_ratio_toRound (a : api_Ratio) : Option Int :=
  (ratio_Valid a).bind fun y =>
  bif (!y) then
    some (0 : Int)
  else
    req (a.Den ≠ 0) <|
    bif (decide ((Int.tmod a.Num a.Den) < (0 : Int))) then
      bindV (IntKind.i64.wrap ((IntKind.i64.wrap (Int.tdiv a.Num a.Den)) - (1 : Int))) fun floor1 =>
      ratio_rounded_ratio_toRound_j1 a floor1 (IntKind.i64.wrap ((Int.tmod a.Num a.Den) + a.Den))
    else
      ratio_rounded_ratio_toRound_j1 a (IntKind.i64.wrap (Int.tdiv a.Num a.Den)) (Int.tmod a.Num a.Den)
/-- awardingbody ratio.Round -/
noncomputable def ratio_Round (a : api_Ratio) : Option Int :=
  (ratio_rounded_ratio_toRound a).bind fun y =>
  some y
/-- awardingbody aggregate.Total -/
noncomputable def aggregate_Total (a : api_Award) (l : List api_UnitMark) (special : Int) : Option (Int × Int) :=
  (aggregate_Exact a l special).bind fun (y, y1) =>
  bif (y1 != (0 : Int)) then
    some ((0 : Int), y1)
  else
    (ratio_Round y).bind fun y2 =>
    some (y2, (0 : Int))
/-- awardingbody boundary.Grade -/
noncomputable def boundary_Grade_j1 (b : List Int) : Option Int :=
  some (b.length : Int)
noncomputable def boundary_Grade_l2 (b : List Int) (mark : Int) : Int → Option (Int ⊕ (Unit ⊕ Int)) :=
  fun v =>
    bif (decide (v < (b.length : Int))) then
      req ((0 ≤ v ∧ v < (b.length : Int))) <|
      bif (decide ((ix b v) ≤ mark)) then
        some (.inr (.inr v))
      else
        some (.inl (IntKind.i64.wrap (v + (1 : Int))))
    else
      some (.inr (.inl ()))
noncomputable def boundary_Grade (b : List Int) (mark : Int) : Option Int :=
  (iter (boundary_Grade_l2 b mark) (0 : Int)).bind fun x_ =>
  match x_ with
  | .inl () => boundary_Grade_j1 b
  | .inr t_ => some t_
/-- awardingbody aggregate.Decide -/
noncomputable def aggregate_Decide (a : api_Award) (l : List api_UnitMark) (special : Int) : Option (Int × Int × Int × Int) :=
  (aggregate_checkMarks a l special).bind fun y =>
  bif (y != (0 : Int)) then
    some ((0 : Int), (0 : Int), (0 : Int), y)
  else
    (aggregate_has l (3 : Int)).bind fun y1 =>
    bif y1 then
      some ((2 : Int), (0 : Int), (0 : Int), (0 : Int))
    else
      (aggregate_has l (0 : Int)).bind fun y2 =>
      bif (!y2) then
        some ((1 : Int), (0 : Int), (0 : Int), (0 : Int))
      else
        (aggregate_Total a l special).bind fun (y3, y4) =>
        bif (y4 != (0 : Int)) then
          some ((0 : Int), (0 : Int), (0 : Int), y4)
        else
          (boundary_Grade a.Bounds y3).bind fun y5 =>
          some ((0 : Int), y5, y3, (0 : Int))
/-- awardingbody result.Check -/
noncomputable def result_Check_j1  : Option Int :=
  some (0 : Int)
noncomputable def result_Check_l2 (a : api_Award) (l : List api_Standing) : Int → Option (Int ⊕ (Unit ⊕ Int)) :=
  fun v =>
    bif (decide (v < (l.length : Int))) then
      req ((0 ≤ v ∧ v < (l.length : Int))) <|
      bif ((decide ((ix l v).Candidate < (0 : Int))) || (decide ((9999 : Int) < (ix l v).Candidate))) then
        some (.inr (.inr (2 : Int)))
      else
        req (((decide ((0 : Int) < v)) = true → 0 ≤ (IntKind.i64.wrap (v - (1 : Int))) ∧ (IntKind.i64.wrap (v - (1 : Int))) < (l.length : Int))) <|
        bif ((decide ((0 : Int) < v)) && (decide ((ix l v).Candidate ≤ (ix l (IntKind.i64.wrap (v - (1 : Int)))).Candidate))) then
          some (.inr (.inr (43 : Int)))
        else
          (aggregate_Exact a ((ix l v).Units) (0 : Int)).bind fun (y1, y2) =>
          bif (y2 == (1 : Int)) then
            some (.inr (.inr (1 : Int)))
          else
            bif ((decide ((ix l v).Special < (0 : Int))) || (decide ((50 : Int) < (ix l v).Special))) then
              some (.inr (.inr (2 : Int)))
            else
              some (.inl (IntKind.i64.wrap (v + (1 : Int))))
    else
      some (.inr (.inl ()))
noncomputable def result_Check (a : api_Award) (l : List api_Standing) : Option Int :=
  (aggregate_Check a).bind fun y =>
  bif (y != (0 : Int)) then
    some (1 : Int)
  else
    bif (decide ((60 : Int) < (l.length : Int))) then
      some (3 : Int)
    else
      (iter (result_Check_l2 a l) (0 : Int)).bind fun x_ =>
      match x_ with
      | .inl () => result_Check_j1
      | .inr t_ => some t_
/-- awardingbody result.Compute -/
noncomputable def result_Compute_j1 (w : List api_Outcome) : Option ((List api_Outcome) × Int) :=
  some (w, (0 : Int))
noncomputable def result_Compute_j2 (l : List api_Standing) (v : Int) (w1 : List api_Outcome) (y1 : Int) (y2 : Int) (y3 : Int) (reason : Int) : Option ((Int × (List api_Outcome)) ⊕ ((List api_Outcome) ⊕ ((List api_Outcome) × Int))) :=
  req ((0 ≤ v ∧ v < (w1.length : Int))) <|
  some (.inl ((IntKind.i64.wrap (v + (1 : Int))), (setI w1 v (api_Outcome.mk ((ix l v).Candidate) y1 y2 y3 reason))))
noncomputable def result_Compute_l3 (a : api_Award) (l : List api_Standing) : (Int × (List api_Outcome)) → Option ((Int × (List api_Outcome)) ⊕ ((List api_Outcome) ⊕ ((List api_Outcome) × Int))) :=
  fun (v, w1) =>
    bif (decide (v < (l.length : Int))) then
      req ((0 ≤ v ∧ v < (l.length : Int))) <|
      (aggregate_Decide a ((ix l v).Units) ((ix l v).Special)).bind fun (y1, y2, y3, y4) =>
      bif (y4 != (0 : Int)) then
        some (.inr (.inr (([] : List api_Outcome), y4)))
      else
        bif (y1 == (2 : Int)) then
          result_Compute_j2 l v w1 y1 y2 y3 (2 : Int)
        else
          result_Compute_j2 l v w1 y1 y2 y3 (0 : Int)
    else
      some (.inr (.inl w1))
noncomputable def result_Compute (a : api_Award) (l : List api_Standing) : Option ((List api_Outcome) × Int) :=
  (result_Check a l).bind fun y =>
  bif (y != (0 : Int)) then
    some (([] : List api_Outcome), y)
  else
    req ((0 ≤ (l.length : Int) ∧ (l.length : Int) * 40 ≤ 140737488355328)) <|
    (iter (result_Compute_l3 a l) ((0 : Int), (rep (l.length : Int) (api_Outcome.mk (0 : Int) (0 : Int) (0 : Int) (0 : Int) (0 : Int))))).bind fun x_ =>
    match x_ with
    | .inl w2 => result_Compute_j1 w2
    | .inr t_ => some t_
/-- awardingbody result.Count -/
noncomputable def result_Count_j1 (count : Int) : Option Int :=
  some count
noncomputable def result_Count_j2 (v : Int) (count3 : Int) : Option ((Int × Int) ⊕ Int) :=
  some (.inl (count3, (IntKind.i64.wrap (v + (1 : Int)))))
noncomputable def result_Count_l3 (l : List api_Outcome) (kind : Int) : (Int × Int) → Option ((Int × Int) ⊕ Int) :=
  fun (count1, v) =>
    bif (decide (v < (l.length : Int))) then
      req ((0 ≤ v ∧ v < (l.length : Int))) <|
      bif ((ix l v).Kind == kind) then
        result_Count_j2 v (IntKind.i64.wrap (count1 + (1 : Int)))
      else
        result_Count_j2 v count1
    else
      some (.inr count1)
noncomputable def result_Count (l : List api_Outcome) (kind : Int) : Option Int :=
  (iter (result_Count_l3 l kind) ((0 : Int), (0 : Int))).bind fun count2 =>
  result_Count_j1 count2
/-- awardingbody result.pending$1 -/
noncomputable def result_pending_f1 (m : api_UnitMark) : Option Bool :=
  some (m.Kind == (3 : Int))
/-- slices.IndexFunc[[]awardingbody api.UnitMark,awardingbody api.UnitMark] -/
noncomputable def slices_IndexFunc_awardingbodyapiUnitMarkawardingbodyapiUnitMark_result_pending_f1_j1  : Option Int :=
  some (-1 : Int)
noncomputable def slices_IndexFunc_awardingbodyapiUnitMarkawardingbodyapiUnitMark_result_pending_f1_l2 (s : List api_UnitMark) : Int → Option (Int ⊕ (Unit ⊕ Int)) :=
  fun v =>
    bif (decide (v < (s.length : Int))) then
      req ((0 ≤ v ∧ v < (s.length : Int))) <|
      (result_pending_f1 (api_UnitMark.mk ((ix s v).Kind) ((ix s v).Value))).bind fun y =>
      bif y then
        some (.inr (.inr v))
      else
        some (.inl (IntKind.i64.wrap (v + (1 : Int))))
    else
      some (.inr (.inl ()))
noncomputable def slices_IndexFunc_awardingbodyapiUnitMarkawardingbodyapiUnitMark_result_pending_f1 (s : List api_UnitMark) : Option Int :=
  (iter (slices_IndexFunc_awardingbodyapiUnitMarkawardingbodyapiUnitMark_result_pending_f1_l2 s) (0 : Int)).bind fun x_ =>
  match x_ with
  | .inl () => slices_IndexFunc_awardingbodyapiUnitMarkawardingbodyapiUnitMark_result_pending_f1_j1
  | .inr t_ => some t_
/-- slices.ContainsFunc[[]awardingbody api.UnitMark,awardingbody api.UnitMark] -/
noncomputable def slices_ContainsFunc_awardingbodyapiUnitMarkawardingbodyapiUnitMark_result_pending_f1 (s : List api_UnitMark) : Option Bool :=
  (slices_IndexFunc_awardingbodyapiUnitMarkawardingbodyapiUnitMark_result_pending_f1 s).bind fun y =>
  some (decide ((0 : Int) ≤ y))
/-- awardingbody result.pending -/
noncomputable def result_pending (x : api_Standing) : Option Bool :=
  (slices_ContainsFunc_awardingbodyapiUnitMarkawardingbodyapiUnitMark_result_pending_f1 x.Units).bind fun y =>
  some y
/-- slices.Equal[[]awardingbody api.UnitMark,awardingbody api.UnitMark] -/
noncomputable def slices_Equal_awardingbodyapiUnitMarkawardingbodyapiUnitMark_j1  : Option Bool :=
  some true
noncomputable def slices_Equal_awardingbodyapiUnitMarkawardingbodyapiUnitMark_l2 (s1 : List api_UnitMark) (s2 : List api_UnitMark) : Int → Option (Int ⊕ (Unit ⊕ Bool)) :=
  fun v =>
    bif (decide (v < (s1.length : Int))) then
      req ((0 ≤ v ∧ v < (s1.length : Int)) ∧ (0 ≤ v ∧ v < (s2.length : Int))) <|
      bif (!(((ix s1 v).Kind == (ix s2 v).Kind) && ((((ix s1 v).Value).Num == ((ix s2 v).Value).Num) && (((ix s1 v).Value).Den == ((ix s2 v).Value).Den)))) then
        some (.inr (.inr false))
      else
        some (.inl (IntKind.i64.wrap (v + (1 : Int))))
    else
      some (.inr (.inl ()))
noncomputable def slices_Equal_awardingbodyapiUnitMarkawardingbodyapiUnitMark (s1 : List api_UnitMark) (s2 : List api_UnitMark) : Option Bool :=
  bif ((s1.length : Int) != (s2.length : Int)) then
    some false
  else
    (iter (slices_Equal_awardingbodyapiUnitMarkawardingbodyapiUnitMark_l2 s1 s2) (0 : Int)).bind fun x_ =>
    match x_ with
    | .inl () => slices_Equal_awardingbodyapiUnitMarkawardingbodyapiUnitMark_j1
    | .inr t_ => some t_
/-- slices.Equal[[]awardingbody api.Unit,awardingbody api.Unit] -/
noncomputable def slices_Equal_awardingbodyapiUnitawardingbodyapiUnit_j1  : Option Bool :=
  some true
noncomputable def slices_Equal_awardingbodyapiUnitawardingbodyapiUnit_l2 (s1 : List api_Unit) (s2 : List api_Unit) : Int → Option (Int ⊕ (Unit ⊕ Bool)) :=
  fun v =>
    bif (decide (v < (s1.length : Int))) then
      req ((0 ≤ v ∧ v < (s1.length : Int)) ∧ (0 ≤ v ∧ v < (s2.length : Int))) <|
      bif (!(((ix s1 v).Paper == (ix s2 v).Paper) && (((ix s1 v).Weight == (ix s2 v).Weight) && ((ix s1 v).Max == (ix s2 v).Max)))) then
        some (.inr (.inr false))
      else
        some (.inl (IntKind.i64.wrap (v + (1 : Int))))
    else
      some (.inr (.inl ()))
noncomputable def slices_Equal_awardingbodyapiUnitawardingbodyapiUnit (s1 : List api_Unit) (s2 : List api_Unit) : Option Bool :=
  bif ((s1.length : Int) != (s2.length : Int)) then
    some false
  else
    (iter (slices_Equal_awardingbodyapiUnitawardingbodyapiUnit_l2 s1 s2) (0 : Int)).bind fun x_ =>
    match x_ with
    | .inl () => slices_Equal_awardingbodyapiUnitawardingbodyapiUnit_j1
    | .inr t_ => some t_
/-- slices.Equal[[]int,int] -/
noncomputable def slices_Equal_intint_j1  : Option Bool :=
  some true
noncomputable def slices_Equal_intint_l2 (s1 : List Int) (s2 : List Int) : Int → Option (Int ⊕ (Unit ⊕ Bool)) :=
  fun v =>
    bif (decide (v < (s1.length : Int))) then
      req ((0 ≤ v ∧ v < (s1.length : Int)) ∧ (0 ≤ v ∧ v < (s2.length : Int))) <|
      bif ((ix s1 v) != (ix s2 v)) then
        some (.inr (.inr false))
      else
        some (.inl (IntKind.i64.wrap (v + (1 : Int))))
    else
      some (.inr (.inl ()))
noncomputable def slices_Equal_intint (s1 : List Int) (s2 : List Int) : Option Bool :=
  bif ((s1.length : Int) != (s2.length : Int)) then
    some false
  else
    (iter (slices_Equal_intint_l2 s1 s2) (0 : Int)).bind fun x_ =>
    match x_ with
    | .inl () => slices_Equal_intint_j1
    | .inr t_ => some t_
/-- awardingbody result.sameAward -/
noncomputable def result_sameAward (a : api_Award) (b : api_Award) : Option Bool :=
  (slices_Equal_awardingbodyapiUnitawardingbodyapiUnit a.Units b.Units).bind fun y =>
  req ((y = true → (slices_Equal_intint a.Bounds b.Bounds).isSome = true)) <|
  some ((y && ((slices_Equal_intint a.Bounds b.Bounds).getD default)) && (a.Max == b.Max))
/-- awardingbody result.Reason -/
noncomputable def result_Reason (a : api_Award) (x : api_Standing) (b : api_Award) (y : api_Standing) : Option Int :=
  (result_pending x).bind fun y1 =>
  (result_pending y).bind fun y2 =>
  bif (!(y1 == y2)) then
    some (9 : Int)
  else
    (slices_Equal_awardingbodyapiUnitMarkawardingbodyapiUnitMark x.Units y.Units).bind fun y3 =>
    bif (!y3) then
      some (5 : Int)
    else
      bif (x.Special != y.Special) then
        some (8 : Int)
      else
        (result_sameAward a b).bind fun y4 =>
        bif (!y4) then
          some (6 : Int)
        else
          some (0 : Int)
/-- awardingbody result.nothing -/
noncomputable def result_nothing (candidate : Int) : Option api_Outcome :=
  some (api_Outcome.mk candidate (1 : Int) (0 : Int) (0 : Int) (0 : Int))
/-- awardingbody result.Changes -/
noncomputable def result_Changes_j1 (changes : List api_Change) : Option ((List api_Change) × Int) :=
  some (changes, (0 : Int))
noncomputable def result_Changes_j2 (i : Int) (j : Int) (changes5 : List api_Change) : Option ((Int × Int × (List api_Change)) ⊕ (List api_Change)) :=
  some (.inl ((IntKind.i64.wrap (i + (1 : Int))), (IntKind.i64.wrap (j + (1 : Int))), changes5))
noncomputable def result_Changes_l3 (a : api_Award) (old : List api_Standing) (b : api_Award) (l : List api_Standing) (y : List api_Outcome) (y2 : List api_Outcome) : (Int × Int × (List api_Change)) → Option ((Int × Int × (List api_Change)) ⊕ (List api_Change)) :=
  fun (i, j, changes1) =>
    bif ((decide (i < (y.length : Int))) || (decide (j < (y2.length : Int)))) then
      req ((((!(j == (y2.length : Int))) && (decide (i < (y.length : Int)))) = true → 0 ≤ i ∧ i < (y.length : Int)) ∧ (((!(j == (y2.length : Int))) && (decide (i < (y.length : Int)))) = true → 0 ≤ j ∧ j < (y2.length : Int))) <|
      bif ((j == (y2.length : Int)) || ((decide (i < (y.length : Int))) && (decide ((ix y i).Candidate < (ix y2 j).Candidate)))) then
        req ((0 ≤ i ∧ i < (y.length : Int))) <|
        req ((0 ≤ i ∧ i < (y.length : Int))) <|
        (result_nothing ((ix y i).Candidate)).bind fun y4 =>
        req ((changes1.length + ([(api_Change.mk ((ix y i).Candidate) (7 : Int) (ix y i) y4)]).length) * 96 ≤ 140737488355328) <|
        bindV (changes1 ++ [(api_Change.mk ((ix y i).Candidate) (7 : Int) (ix y i) y4)]) fun changes3 =>
        some (.inl ((IntKind.i64.wrap (i + (1 : Int))), j, changes3))
      else
        req (((!(i == (y.length : Int))) = true → 0 ≤ j ∧ j < (y2.length : Int)) ∧ ((!(i == (y.length : Int))) = true → 0 ≤ i ∧ i < (y.length : Int))) <|
        bif ((i == (y.length : Int)) || (decide ((ix y2 j).Candidate < (ix y i).Candidate))) then
          req ((0 ≤ j ∧ j < (y2.length : Int))) <|
          (result_nothing ((ix y2 j).Candidate)).bind fun y5 =>
          req ((0 ≤ j ∧ j < (y2.length : Int)) ∧ (changes1.length + ([(api_Change.mk ((ix y2 j).Candidate) (7 : Int) y5 (ix y2 j))]).length) * 96 ≤ 140737488355328) <|
          bindV (changes1 ++ [(api_Change.mk ((ix y2 j).Candidate) (7 : Int) y5 (ix y2 j))]) fun changes4 =>
          some (.inl (i, (IntKind.i64.wrap (j + (1 : Int))), changes4))
        else
          req ((0 ≤ i ∧ i < (y.length : Int)) ∧ (0 ≤ j ∧ j < (y2.length : Int))) <|
          bif (!(((ix y i).Candidate == (ix y2 j).Candidate) && (((ix y i).Kind == (ix y2 j).Kind) && (((ix y i).Grade == (ix y2 j).Grade) && (((ix y i).Total == (ix y2 j).Total) && ((ix y i).Reason == (ix y2 j).Reason)))))) then
            req ((0 ≤ i ∧ i < (y.length : Int)) ∧ (0 ≤ i ∧ i < (old.length : Int)) ∧ (0 ≤ j ∧ j < (l.length : Int))) <|
            (result_Reason a (ix old i) b (ix l j)).bind fun y6 =>
            req ((0 ≤ i ∧ i < (y.length : Int)) ∧ (0 ≤ j ∧ j < (y2.length : Int)) ∧ (changes1.length + ([(api_Change.mk ((ix y i).Candidate) y6 (ix y i) (ix y2 j))]).length) * 96 ≤ 140737488355328) <|
            bindV (changes1 ++ [(api_Change.mk ((ix y i).Candidate) y6 (ix y i) (ix y2 j))]) fun changes6 =>
            result_Changes_j2 i j changes6
          else
            result_Changes_j2 i j changes1
    else
      some (.inr changes1)
noncomputable def result_Changes (a : api_Award) (old : List api_Standing) (b : api_Award) (l : List api_Standing) : Option ((List api_Change) × Int) :=
  (result_Compute a old).bind fun (y, y1) =>
  bif (y1 != (0 : Int)) then
    some (([] : List api_Change), y1)
  else
    (result_Compute b l).bind fun (y2, y3) =>
    bif (y3 != (0 : Int)) then
      some (([] : List api_Change), y3)
    else
      (iter (result_Changes_l3 a old b l y y2) ((0 : Int), (0 : Int), ([] : List api_Change))).bind fun changes2 =>
      result_Changes_j1 changes2
/-- awardingbody awardingbodylaw37.award -/
noncomputable def law37_award  : Option api_Award :=
  some (api_Award.mk ([(api_Unit.mk (0 : Int) (1 : Int) (50 : Int))]) ([(40 : Int), (20 : Int)]) (50 : Int))
/-- awardingbody awardingbodylaw37.one -/
noncomputable def law37_one (candidate : Int) (kind : Int) (value : Int) : Option api_Standing :=
  some (api_Standing.mk candidate ([(api_UnitMark.mk kind (api_Ratio.mk value (1 : Int)))]) (0 : Int))
/-- awardingbody awardingbodylaw37.sane -/
noncomputable def law37_sane  : Option Bool :=
  (law37_award).bind fun y =>
  (law37_one (1 : Int) (0 : Int) (25 : Int)).bind fun y1 =>
  (law37_one (2 : Int) (1 : Int) (0 : Int)).bind fun y2 =>
  (result_Compute y ([y1, y2])).bind fun (y3, y4) =>
  (law37_one (1 : Int) (3 : Int) (0 : Int)).bind fun y5 =>
  (law37_one (1 : Int) (0 : Int) (25 : Int)).bind fun y6 =>
  (result_Changes y ([y5]) y ([y6])).bind fun (y7, y8) =>
  req (((((y4 == (0 : Int)) && (y8 == (0 : Int))) && ((y3.length : Int) == (2 : Int))) = true → 0 ≤ (0 : Int) ∧ (0 : Int) < (y3.length : Int)) ∧ (((((y4 == (0 : Int)) && (y8 == (0 : Int))) && ((y3.length : Int) == (2 : Int))) && (((ix y3 (0 : Int)).Candidate == (1 : Int)) && (((ix y3 (0 : Int)).Kind == (0 : Int)) && (((ix y3 (0 : Int)).Grade == (1 : Int)) && (((ix y3 (0 : Int)).Total == (25 : Int)) && ((ix y3 (0 : Int)).Reason == (0 : Int))))))) = true → 0 ≤ (1 : Int) ∧ (1 : Int) < (y3.length : Int)) ∧ (((((((y4 == (0 : Int)) && (y8 == (0 : Int))) && ((y3.length : Int) == (2 : Int))) && (((ix y3 (0 : Int)).Candidate == (1 : Int)) && (((ix y3 (0 : Int)).Kind == (0 : Int)) && (((ix y3 (0 : Int)).Grade == (1 : Int)) && (((ix y3 (0 : Int)).Total == (25 : Int)) && ((ix y3 (0 : Int)).Reason == (0 : Int))))))) && ((ix y3 (1 : Int)).Kind == (1 : Int))) && ((y7.length : Int) == (1 : Int))) = true → 0 ≤ (0 : Int) ∧ (0 : Int) < (y7.length : Int)) ∧ ((((((((y4 == (0 : Int)) && (y8 == (0 : Int))) && ((y3.length : Int) == (2 : Int))) && (((ix y3 (0 : Int)).Candidate == (1 : Int)) && (((ix y3 (0 : Int)).Kind == (0 : Int)) && (((ix y3 (0 : Int)).Grade == (1 : Int)) && (((ix y3 (0 : Int)).Total == (25 : Int)) && ((ix y3 (0 : Int)).Reason == (0 : Int))))))) && ((ix y3 (1 : Int)).Kind == (1 : Int))) && ((y7.length : Int) == (1 : Int))) && ((ix y7 (0 : Int)).Reason == (9 : Int))) = true → (result_Count y3 (1 : Int)).isSome = true)) <|
  some ((((((((y4 == (0 : Int)) && (y8 == (0 : Int))) && ((y3.length : Int) == (2 : Int))) && (((ix y3 (0 : Int)).Candidate == (1 : Int)) && (((ix y3 (0 : Int)).Kind == (0 : Int)) && (((ix y3 (0 : Int)).Grade == (1 : Int)) && (((ix y3 (0 : Int)).Total == (25 : Int)) && ((ix y3 (0 : Int)).Reason == (0 : Int))))))) && ((ix y3 (1 : Int)).Kind == (1 : Int))) && ((y7.length : Int) == (1 : Int))) && ((ix y7 (0 : Int)).Reason == (9 : Int))) && (((result_Count y3 (1 : Int)).getD default) == (1 : Int)))
/-- (ptr awardingbody awardingbodymark.Dice).Bool -/
noncomputable def mark_Dice_Bool (d : mark_Dice) (n : Int) : Option (Bool × mark_Dice) :=
  (mark_Dice_Next d n).bind fun (y, y1) =>
  some ((y == (IntKind.i64.wrap (n - (1 : Int)))), y1)
/-- (ptr awardingbody awardingbodymark.Dice).Marks -/
noncomputable def mark_Dice_Marks_j1 (d1 : List Int) (d2 : Int) (out : List api_UnitMark) : Option ((List api_UnitMark) × mark_Dice) :=
  some (out, (mark_Dice.mk d1 d2))
noncomputable def mark_Dice_Marks_j2 (i : Int) (out1 : List api_UnitMark) (y : Int) (d7 : List Int) (d8 : Int) (x : Int) (x1 : Int) : Option ((Int × (List Int) × Int × (List api_UnitMark)) ⊕ ((List Int) × Int × (List api_UnitMark))) :=
  req ((out1.length + ([(api_UnitMark.mk y (api_Ratio.mk x x1))]).length) * 24 ≤ 140737488355328) <|
  some (.inl ((IntKind.i64.wrap (i + (1 : Int))), d7, d8, (out1 ++ [(api_UnitMark.mk y (api_Ratio.mk x x1))])))
noncomputable def mark_Dice_Marks_l3 (a : api_Award) : (Int × (List Int) × Int × (List api_UnitMark)) → Option ((Int × (List Int) × Int × (List api_UnitMark)) ⊕ ((List Int) × Int × (List api_UnitMark))) :=
  fun (i, d3, d4, out1) =>
    bif (decide (i < (a.Units.length : Int))) then
      (mark_Dice_Pick (mark_Dice.mk d3 d4) ([(0 : Int), (0 : Int), (0 : Int), (1 : Int), (2 : Int), (3 : Int), (0 : Int), (0 : Int)])).bind fun (y, y1) =>
      bif (y == (0 : Int)) then
        req ((0 ≤ i ∧ i < (a.Units.length : Int))) <|
        (mark_Dice_Next y1 (IntKind.i64.wrap ((ix a.Units i).Max + (1 : Int)))).bind fun (y2, y3) =>
        req ((((Int.tmod y2 (2 : Int)) == (1 : Int)) = true → 0 ≤ i ∧ i < (a.Units.length : Int))) <|
        bif (((Int.tmod y2 (2 : Int)) == (1 : Int)) && (decide (y2 < (ix a.Units i).Max))) then
          (mark_Dice_Bool y3 (3 : Int)).bind fun (y4, y5) =>
          bif y4 then
            mark_Dice_Marks_j2 i out1 y y5.L y5.At y2 (2 : Int)
          else
            mark_Dice_Marks_j2 i out1 y y5.L y5.At y2 (1 : Int)
        else
          mark_Dice_Marks_j2 i out1 y y3.L y3.At y2 (1 : Int)
      else
        mark_Dice_Marks_j2 i out1 y y1.L y1.At (0 : Int) (1 : Int)
    else
      some (.inr (d3, d4, out1))
noncomputable def mark_Dice_Marks (d : mark_Dice) (a : api_Award) : Option ((List api_UnitMark) × mark_Dice) :=
  (iter (mark_Dice_Marks_l3 a) ((0 : Int), d.L, d.At, ([] : List api_UnitMark))).bind fun (d5, d6, out2) =>
  mark_Dice_Marks_j1 d5 d6 out2
/-- (ptr awardingbody awardingbodymark.Dice).Standings -/
noncomputable def mark_Dice_Standings_j1 (d1 : List Int) (d2 : Int) (out : List api_Standing) : Option ((List api_Standing) × mark_Dice) :=
  some (out, (mark_Dice.mk d1 d2))
noncomputable def mark_Dice_Standings_j2 (c : Int) (d7 : List Int) (d8 : Int) (out3 : List api_Standing) : Option ((Int × (List Int) × Int × (List api_Standing)) ⊕ ((List Int) × Int × (List api_Standing))) :=
  some (.inl ((IntKind.i64.wrap (c + (1 : Int))), d7, d8, out3))
noncomputable def mark_Dice_Standings_l3 (a : api_Award) (n : Int) : (Int × (List Int) × Int × (List api_Standing)) → Option ((Int × (List Int) × Int × (List api_Standing)) ⊕ ((List Int) × Int × (List api_Standing))) :=
  fun (c, d3, d4, out1) =>
    bif (decide (c ≤ n)) then
      (mark_Dice_Next (mark_Dice.mk d3 d4) (5 : Int)).bind fun (y, y1) =>
      bif (decide ((0 : Int) < y)) then
        (mark_Dice_Marks y1 a).bind fun (y2, y3) =>
        (mark_Dice_Pick y3 ([(0 : Int), (0 : Int), (20 : Int), (50 : Int)])).bind fun (y4, y5) =>
        req ((out1.length + ([(api_Standing.mk c y2 y4)]).length) * 40 ≤ 140737488355328) <|
        mark_Dice_Standings_j2 c y5.L y5.At (out1 ++ [(api_Standing.mk c y2 y4)])
      else
        mark_Dice_Standings_j2 c y1.L y1.At out1
    else
      some (.inr (d3, d4, out1))
noncomputable def mark_Dice_Standings (d : mark_Dice) (a : api_Award) (n : Int) : Option ((List api_Standing) × mark_Dice) :=
  (iter (mark_Dice_Standings_l3 a n) ((1 : Int), d.L, d.At, ([] : List api_Standing))).bind fun (d5, d6, out2) =>
  mark_Dice_Standings_j1 d5 d6 out2
/-- awardingbody awardingbodylaw37.ResultEverybody -/
noncomputable def law37_ResultEverybody_j1 (y7 : List api_Standing) (y9 : List api_Outcome) : Option Bool :=
  (result_Count y9 (0 : Int)).bind fun y11 =>
  (result_Count y9 (1 : Int)).bind fun y12 =>
  (result_Count y9 (2 : Int)).bind fun y13 =>
  req ((((IntKind.i64.wrap ((IntKind.i64.wrap (y11 + y12)) + y13)) == (y7.length : Int)) = true → (law37_sane).isSome = true)) <|
  some (((IntKind.i64.wrap ((IntKind.i64.wrap (y11 + y12)) + y13)) == (y7.length : Int)) && ((law37_sane).getD default))
noncomputable def law37_ResultEverybody_l2 (y5 : api_Award) (y7 : List api_Standing) (y9 : List api_Outcome) : Int → Option (Int ⊕ (Unit ⊕ Bool)) :=
  fun v =>
    bif (decide (v < (y9.length : Int))) then
      req ((0 ≤ v ∧ v < (y9.length : Int))) <|
      req ((0 ≤ v ∧ v < (y7.length : Int))) <|
      (ref36_Decide y5 ((ix y7 v).Units) ((ix y7 v).Special)).bind fun (y14, y15, y16, y17) =>
      req (((!(y17 != (0 : Int))) = true → 0 ≤ v ∧ v < (y7.length : Int))) <|
      bif ((((((y17 != (0 : Int)) || ((ix y9 v).Candidate != (ix y7 v).Candidate)) || ((ix y9 v).Kind != y14)) || ((ix y9 v).Grade != y15)) || ((ix y9 v).Total != y16)) || (!(((ix y9 v).Reason == (2 : Int)) == (y14 == (2 : Int))))) then
        some (.inr (.inr false))
      else
        some (.inl (IntKind.i64.wrap (v + (1 : Int))))
    else
      some (.inr (.inl ()))
noncomputable def law37_ResultEverybody (t : List Int) : Option Bool :=
  (mark_Light t).bind fun y =>
  bif (!y) then
    (law37_sane).bind fun y1 =>
    some y1
  else
    (mark_Roll t).bind fun y2 =>
    (mark_Dice_Next y2 (3 : Int)).bind fun (y3, y4) =>
    (mark_Dice_Award y4 (IntKind.i64.wrap ((1 : Int) + y3))).bind fun (y5, y6) =>
    (mark_Dice_Standings y6 y5 (6 : Int)).bind fun (y7, y8) =>
    (result_Compute y5 y7).bind fun (y9, y10) =>
    bif ((y10 != (0 : Int)) || ((y9.length : Int) != (y7.length : Int))) then
      some false
    else
      (iter (law37_ResultEverybody_l2 y5 y7 y9) (0 : Int)).bind fun x_ =>
      match x_ with
      | .inl () => law37_ResultEverybody_j1 y7 y9
      | .inr t_ => some t_
end Go.LS
