/-
  Plain functions that the program's functions compute. No condition: definitions, printed by dec.py.
-/
import Derived.Test.YtogfplnonlpmcaaD2
namespace Go.LS
set_option linter.all false
set_option linter.unusedSimpArgs false
set_option linter.unusedVariables false
set_option maxRecDepth 20000

/-- awardingbody aggregate.Decide -/
noncomputable def aggregate_Decide (a : api_Award) (l : List api_UnitMark) (special : Int) : Option (Int × Int × Int × Int) :=
  (aggregate_checkMarks a l special).bind fun y =>
  bif (y != (0 : Int)) then
    some ((0 : Int), (0 : Int), (0 : Int), y)
  else
    (aggregate_has l (3 : Int)).bind fun y1 =>
    bif y1 then
      some ((2 : Int), (0 : Int), (0 : Int), (0 : Int))
    else
      (aggregate_has l (0 : Int)).bind fun y2 =>
      bif (!y2) then
        some ((1 : Int), (0 : Int), (0 : Int), (0 : Int))
      else
        (aggregate_Total a l special).bind fun (y3, y4) =>
        bif (y4 != (0 : Int)) then
          some ((0 : Int), (0 : Int), (0 : Int), y4)
        else
          (boundary_Grade a.Bounds y3).bind fun y5 =>
          some ((0 : Int), y5, y3, (0 : Int))
/-- awardingbody result.Check -/
noncomputable def result_Check_j1  : Option Int :=
  some (0 : Int)
noncomputable def result_Check_l2 (a : api_Award) (l : List api_Standing) : Int → Option (Int ⊕ (Unit ⊕ Int)) :=
  fun v =>
    bif (decide (v < (l.length : Int))) then
      req ((0 ≤ v ∧ v < (l.length : Int))) <|
      bif ((decide ((ix l v).Candidate < (0 : Int))) || (decide ((9999 : Int) < (ix l v).Candidate))) then
        some (.inr (.inr (2 : Int)))
      else
        req (((decide ((0 : Int) < v)) = true → 0 ≤ (IntKind.i64.wrap (v - (1 : Int))) ∧ (IntKind.i64.wrap (v - (1 : Int))) < (l.length : Int))) <|
        bif ((decide ((0 : Int) < v)) && (decide ((ix l v).Candidate ≤ (ix l (IntKind.i64.wrap (v - (1 : Int)))).Candidate))) then
          some (.inr (.inr (43 : Int)))
        else
          (aggregate_Exact a ((ix l v).Units) (0 : Int)).bind fun (y1, y2) =>
          bif (y2 == (1 : Int)) then
            some (.inr (.inr (1 : Int)))
          else
            bif ((decide ((ix l v).Special < (0 : Int))) || (decide ((50 : Int) < (ix l v).Special))) then
              some (.inr (.inr (2 : Int)))
            else
              some (.inl (IntKind.i64.wrap (v + (1 : Int))))
    else
      some (.inr (.inl ()))
noncomputable def result_Check (a : api_Award) (l : List api_Standing) : Option Int :=
  (aggregate_Check a).bind fun y =>
  bif (y != (0 : Int)) then
    some (1 : Int)
  else
    bif (decide ((60 : Int) < (l.length : Int))) then
      some (3 : Int)
    else
      (iter (result_Check_l2 a l) (0 : Int)).bind fun x_ =>
      match x_ with
      | .inl () => result_Check_j1
      | .inr t_ => some t_
/-- awardingbody result.Compute -/
noncomputable def result_Compute_j1 (w : List api_Outcome) : Option ((List api_Outcome) × Int) :=
  some (w, (0 : Int))
noncomputable def result_Compute_j2 (l : List api_Standing) (v : Int) (w1 : List api_Outcome) (y1 : Int) (y2 : Int) (y3 : Int) (reason : Int) : Option ((Int × (List api_Outcome)) ⊕ ((List api_Outcome) ⊕ ((List api_Outcome) × Int))) :=
  req ((0 ≤ v ∧ v < (w1.length : Int))) <|
  some (.inl ((IntKind.i64.wrap (v + (1 : Int))), (setI w1 v (api_Outcome.mk ((ix l v).Candidate) y1 y2 y3 reason))))
noncomputable def result_Compute_l3 (a : api_Award) (l : List api_Standing) : (Int × (List api_Outcome)) → Option ((Int × (List api_Outcome)) ⊕ ((List api_Outcome) ⊕ ((List api_Outcome) × Int))) :=
  fun (v, w1) =>
    bif (decide (v < (l.length : Int))) then
      req ((0 ≤ v ∧ v < (l.length : Int))) <|
      (aggregate_Decide a ((ix l v).Units) ((ix l v).Special)).bind fun (y1, y2, y3, y4) =>
      bif (y4 != (0 : Int)) then
        some (.inr (.inr (([] : List api_Outcome), y4)))
      else
        bif (y1 == (2 : Int)) then
          result_Compute_j2 l v w1 y1 y2 y3 (2 : Int)
        else
          result_Compute_j2 l v w1 y1 y2 y3 (0 : Int)
    else
      some (.inr (.inl w1))
noncomputable def result_Compute (a : api_Award) (l : List api_Standing) : Option ((List api_Outcome) × Int) :=
  (result_Check a l).bind fun y =>
  bif (y != (0 : Int)) then
    some (([] : List api_Outcome), y)
  else
    req ((0 ≤ (l.length : Int) ∧ (l.length : Int) * 40 ≤ 140737488355328)) <|
    (iter (result_Compute_l3 a l) ((0 : Int), (rep (l.length : Int) (api_Outcome.mk (0 : Int) (0 : Int) (0 : Int) (0 : Int) (0 : Int))))).bind fun x_ =>
    match x_ with
    | .inl w2 => result_Compute_j1 w2
    | .inr t_ => some t_
/-- awardingbody result.Count -/
noncomputable def result_Count_j1 (count : Int) : Option Int :=
  some count
noncomputable def result_Count_j2 (v : Int) (count3 : Int) : Option ((Int × Int) ⊕ Int) :=
  some (.inl (count3, (IntKind.i64.wrap (v + (1 : Int)))))
noncomputable def result_Count_l3 (l : List api_Outcome) (kind : Int) : (Int × Int) → Option ((Int × Int) ⊕ Int) :=
  fun (count1, v) =>
    bif (decide (v < (l.length : Int))) then
      req ((0 ≤ v ∧ v < (l.length : Int))) <|
      bif ((ix l v).Kind == kind) then
        result_Count_j2 v (IntKind.i64.wrap (count1 + (1 : Int)))
      else
        result_Count_j2 v count1
    else
      some (.inr count1)
noncomputable def result_Count (l : List api_Outcome) (kind : Int) : Option Int :=
  (iter (result_Count_l3 l kind) ((0 : Int), (0 : Int))).bind fun count2 =>
  result_Count_j1 count2
/-- awardingbody result.pending$1 -/
noncomputable def result_pending_f1 (m : api_UnitMark) : Option Bool :=
  some (m.Kind == (3 : Int))
/-- slices.IndexFunc[[]awardingbody api.UnitMark,awardingbody api.UnitMark] -/
noncomputable def slices_IndexFunc_awardingbodyapiUnitMarkawardingbodyapiUnitMark_result_pending_f1_j1  : Option Int :=
  some (-1 : Int)
noncomputable def slices_IndexFunc_awardingbodyapiUnitMarkawardingbodyapiUnitMark_result_pending_f1_l2 (s : List api_UnitMark) : Int → Option (Int ⊕ (Unit ⊕ Int)) :=
  fun v =>
    bif (decide (v < (s.length : Int))) then
      req ((0 ≤ v ∧ v < (s.length : Int))) <|
      (result_pending_f1 (api_UnitMark.mk ((ix s v).Kind) ((ix s v).Value))).bind fun y =>
      bif y then
        some (.inr (.inr v))
      else
        some (.inl (IntKind.i64.wrap (v + (1 : Int))))
    else
      some (.inr (.inl ()))
noncomputable def slices_IndexFunc_awardingbodyapiUnitMarkawardingbodyapiUnitMark_result_pending_f1 (s : List api_UnitMark) : Option Int :=
  (iter (slices_IndexFunc_awardingbodyapiUnitMarkawardingbodyapiUnitMark_result_pending_f1_l2 s) (0 : Int)).bind fun x_ =>
  match x_ with
  | .inl () => slices_IndexFunc_awardingbodyapiUnitMarkawardingbodyapiUnitMark_result_pending_f1_j1
  | .inr t_ => some t_
/-- slices.ContainsFunc[[]awardingbody api.UnitMark,awardingbody api.UnitMark] -/
noncomputable def slices_ContainsFunc_awardingbodyapiUnitMarkawardingbodyapiUnitMark_result_pending_f1 (s : List api_UnitMark) : Option Bool :=
  (slices_IndexFunc_awardingbodyapiUnitMarkawardingbodyapiUnitMark_result_pending_f1 s).bind fun y =>
  some (decide ((0 : Int) ≤ y))
/-- awardingbody result.pending -/
noncomputable def result_pending (x : api_Standing) : Option Bool :=
  (slices_ContainsFunc_awardingbodyapiUnitMarkawardingbodyapiUnitMark_result_pending_f1 x.Units).bind fun y =>
  some y
/-- slices.Equal[[]awardingbody api.UnitMark,awardingbody api.UnitMark] -/
noncomputable def slices_Equal_awardingbodyapiUnitMarkawardingbodyapiUnitMark_j1  : Option Bool :=
  some true
noncomputable def slices_Equal_awardingbodyapiUnitMarkawardingbodyapiUnitMark_l2 (s1 : List api_UnitMark) (s2 : List api_UnitMark) : Int → Option (Int ⊕ (Unit ⊕ Bool)) :=
  fun v =>
    bif (decide (v < (s1.length : Int))) then
      req ((0 ≤ v ∧ v < (s1.length : Int)) ∧ (0 ≤ v ∧ v < (s2.length : Int))) <|
      bif (!(((ix s1 v).Kind == (ix s2 v).Kind) && ((((ix s1 v).Value).Num == ((ix s2 v).Value).Num) && (((ix s1 v).Value).Den == ((ix s2 v).Value).Den)))) then
        some (.inr (.inr false))
      else
        some (.inl (IntKind.i64.wrap (v + (1 : Int))))
    else
      some (.inr (.inl ()))
noncomputable def slices_Equal_awardingbodyapiUnitMarkawardingbodyapiUnitMark (s1 : List api_UnitMark) (s2 : List api_UnitMark) : Option Bool :=
  bif ((s1.length : Int) != (s2.length : Int)) then
    some false
  else
    (iter (slices_Equal_awardingbodyapiUnitMarkawardingbodyapiUnitMark_l2 s1 s2) (0 : Int)).bind fun x_ =>
    match x_ with
    | .inl () => slices_Equal_awardingbodyapiUnitMarkawardingbodyapiUnitMark_j1
    | .inr t_ => some t_
/-- slices.Equal[[]awardingbody api.Unit,awardingbody api.Unit] -/
noncomputable def slices_Equal_awardingbodyapiUnitawardingbodyapiUnit_j1  : Option Bool :=
  some true
noncomputable def slices_Equal_awardingbodyapiUnitawardingbodyapiUnit_l2 (s1 : List api_Unit) (s2 : List api_Unit) : Int → Option (Int ⊕ (Unit ⊕ Bool)) :=
  fun v =>
    bif (decide (v < (s1.length : Int))) then
      req ((0 ≤ v ∧ v < (s1.length : Int)) ∧ (0 ≤ v ∧ v < (s2.length : Int))) <|
      bif (!(((ix s1 v).Paper == (ix s2 v).Paper) && (((ix s1 v).Weight == (ix s2 v).Weight) && ((ix s1 v).Max == (ix s2 v).Max)))) then
        some (.inr (.inr false))
      else
        some (.inl (IntKind.i64.wrap (v + (1 : Int))))
    else
      some (.inr (.inl ()))
noncomputable def slices_Equal_awardingbodyapiUnitawardingbodyapiUnit (s1 : List api_Unit) (s2 : List api_Unit) : Option Bool :=
  bif ((s1.length : Int) != (s2.length : Int)) then
    some false
  else
    (iter (slices_Equal_awardingbodyapiUnitawardingbodyapiUnit_l2 s1 s2) (0 : Int)).bind fun x_ =>
    match x_ with
    | .inl () => slices_Equal_awardingbodyapiUnitawardingbodyapiUnit_j1
    | .inr t_ => some t_
/-- slices.Equal[[]int,int] -/
noncomputable def slices_Equal_intint_j1  : Option Bool :=
  some true
noncomputable def slices_Equal_intint_l2 (s1 : List Int) (s2 : List Int) : Int → Option (Int ⊕ (Unit ⊕ Bool)) :=
  fun v =>
    bif (decide (v < (s1.length : Int))) then
      req ((0 ≤ v ∧ v < (s1.length : Int)) ∧ (0 ≤ v ∧ v < (s2.length : Int))) <|
      bif ((ix s1 v) != (ix s2 v)) then
        some (.inr (.inr false))
      else
        some (.inl (IntKind.i64.wrap (v + (1 : Int))))
    else
      some (.inr (.inl ()))
noncomputable def slices_Equal_intint (s1 : List Int) (s2 : List Int) : Option Bool :=
  bif ((s1.length : Int) != (s2.length : Int)) then
    some false
  else
    (iter (slices_Equal_intint_l2 s1 s2) (0 : Int)).bind fun x_ =>
    match x_ with
    | .inl () => slices_Equal_intint_j1
    | .inr t_ => some t_
/-- awardingbody result.sameAward -/
noncomputable def result_sameAward (a : api_Award) (b : api_Award) : Option Bool :=
  (slices_Equal_awardingbodyapiUnitawardingbodyapiUnit a.Units b.Units).bind fun y =>
  req ((y = true → (slices_Equal_intint a.Bounds b.Bounds).isSome = true)) <|
  some ((y && ((slices_Equal_intint a.Bounds b.Bounds).getD default)) && (a.Max == b.Max))
/-- awardingbody result.Reason -/
noncomputable def result_Reason (a : api_Award) (x : api_Standing) (b : api_Award) (y : api_Standing) : Option Int :=
  (result_pending x).bind fun y1 =>
  (result_pending y).bind fun y2 =>
  bif (!(y1 == y2)) then
    some (9 : Int)
  else
    (slices_Equal_awardingbodyapiUnitMarkawardingbodyapiUnitMark x.Units y.Units).bind fun y3 =>
    bif (!y3) then
      some (5 : Int)
    else
      bif (x.Special != y.Special) then
        some (8 : Int)
      else
        (result_sameAward a b).bind fun y4 =>
        bif (!y4) then
          some (6 : Int)
        else
          some (0 : Int)
/-- awardingbody result.nothing -/
noncomputable def result_nothing (candidate : Int) : Option api_Outcome :=
  some (api_Outcome.mk candidate (1 : Int) (0 : Int) (0 : Int) (0 : Int))
/-- awardingbody result.Changes -/
noncomputable def result_Changes_j1 (changes : List api_Change) : Option ((List api_Change) × Int) :=
  some (changes, (0 : Int))
noncomputable def result_Changes_j2 (i : Int) (j : Int) (changes5 : List api_Change) : Option ((Int × Int × (List api_Change)) ⊕ (List api_Change)) :=
  some (.inl ((IntKind.i64.wrap (i + (1 : Int))), (IntKind.i64.wrap (j + (1 : Int))), changes5))
noncomputable def result_Changes_l3 (a : api_Award) (old : List api_Standing) (b : api_Award) (l : List api_Standing) (y : List api_Outcome) (y2 : List api_Outcome) : (Int × Int × (List api_Change)) → Option ((Int × Int × (List api_Change)) ⊕ (List api_Change)) :=
  fun (i, j, changes1) =>
    bif ((decide (i < (y.length : Int))) || (decide (j < (y2.length : Int)))) then
      req ((((!(j == (y2.length : Int))) && (decide (i < (y.length : Int)))) = true → 0 ≤ i ∧ i < (y.length : Int)) ∧ (((!(j == (y2.length : Int))) && (decide (i < (y.length : Int)))) = true → 0 ≤ j ∧ j < (y2.length : Int))) <|
      bif ((j == (y2.length : Int)) || ((decide (i < (y.length : Int))) && (decide ((ix y i).Candidate < (ix y2 j).Candidate)))) then
        req ((0 ≤ i ∧ i < (y.length : Int))) <|
        req ((0 ≤ i ∧ i < (y.length : Int))) <|
        (result_nothing ((ix y i).Candidate)).bind fun y4 =>
        req ((changes1.length + ([(api_Change.mk ((ix y i).Candidate) (7 : Int) (ix y i) y4)]).length) * 96 ≤ 140737488355328) <|
        bindV (changes1 ++ [(api_Change.mk ((ix y i).Candidate) (7 : Int) (ix y i) y4)]) fun changes3 =>
        some (.inl ((IntKind.i64.wrap (i + (1 : Int))), j, changes3))
      else
        req (((!(i == (y.length : Int))) = true → 0 ≤ j ∧ j < (y2.length : Int)) ∧ ((!(i == (y.length : Int))) = true → 0 ≤ i ∧ i < (y.length : Int))) <|
        bif ((i == (y.length : Int)) || (decide ((ix y2 j).Candidate < (ix y i).Candidate))) then
          req ((0 ≤ j ∧ j < (y2.length : Int))) <|
          (result_nothing ((ix y2 j).Candidate)).bind fun y5 =>
          req ((0 ≤ j ∧ j < (y2.length : Int)) ∧ (changes1.length + ([(api_Change.mk ((ix y2 j).Candidate) (7 : Int) y5 (ix y2 j))]).length) * 96 ≤ 140737488355328) <|
          bindV (changes1 ++ [(api_Change.mk ((ix y2 j).Candidate) (7 : Int) y5 (ix y2 j))]) fun changes4 =>
          some (.inl (i, (IntKind.i64.wrap (j + (1 : Int))), changes4))
        else
          req ((0 ≤ i ∧ i < (y.length : Int)) ∧ (0 ≤ j ∧ j < (y2.length : Int))) <|
          bif (!(((ix y i).Candidate == (ix y2 j).Candidate) && (((ix y i).Kind == (ix y2 j).Kind) && (((ix y i).Grade == (ix y2 j).Grade) && (((ix y i).Total == (ix y2 j).Total) && ((ix y i).Reason == (ix y2 j).Reason)))))) then
            req ((0 ≤ i ∧ i < (y.length : Int)) ∧ (0 ≤ i ∧ i < (old.length : Int)) ∧ (0 ≤ j ∧ j < (l.length : Int))) <|
            (result_Reason a (ix old i) b (ix l j)).bind fun y6 =>
            req ((0 ≤ i ∧ i < (y.length : Int)) ∧ (0 ≤ j ∧ j < (y2.length : Int)) ∧ (changes1.length + ([(api_Change.mk ((ix y i).Candidate) y6 (ix y i) (ix y2 j))]).length) * 96 ≤ 140737488355328) <|
            bindV (changes1 ++ [(api_Change.mk ((ix y i).Candidate) y6 (ix y i) (ix y2 j))]) fun changes6 =>
            result_Changes_j2 i j changes6
          else
            result_Changes_j2 i j changes1
    else
      some (.inr changes1)
noncomputable def result_Changes (a : api_Award) (old : List api_Standing) (b : api_Award) (l : List api_Standing) : Option ((List api_Change) × Int) :=
  (result_Compute a old).bind fun (y, y1) =>
  bif (y1 != (0 : Int)) then
    some (([] : List api_Change), y1)
  else
    (result_Compute b l).bind fun (y2, y3) =>
    bif (y3 != (0 : Int)) then
      some (([] : List api_Change), y3)
    else
      (iter (result_Changes_l3 a old b l y y2) ((0 : Int), (0 : Int), ([] : List api_Change))).bind fun changes2 =>
      result_Changes_j1 changes2
/-- awardingbody awardingbodylaw37.award -/
noncomputable def law37_award  : Option api_Award :=
  some (api_Award.mk ([(api_Unit.mk (0 : Int) (1 : Int) (50 : Int))]) ([(40 : Int), (20 : Int)]) (50 : Int))
/-- awardingbody awardingbodylaw37.one -/
noncomputable def law37_one (candidate : Int) (kind : Int) (value : Int) : Option api_Standing :=
  some (api_Standing.mk candidate ([(api_UnitMark.mk kind (api_Ratio.mk value (1 : Int)))]) (0 : Int))
/-- awardingbody awardingbodylaw37.sane -/
noncomputable def law37_sane  : Option Bool :=
  (law37_award).bind fun y =>
  (law37_one (1 : Int) (0 : Int) (25 : Int)).bind fun y1 =>
  (law37_one (2 : Int) (1 : Int) (0 : Int)).bind fun y2 =>
  (result_Compute y ([y1, y2])).bind fun (y3, y4) =>
  (law37_one (1 : Int) (3 : Int) (0 : Int)).bind fun y5 =>
  (law37_one (1 : Int) (0 : Int) (25 : Int)).bind fun y6 =>
  (result_Changes y ([y5]) y ([y6])).bind fun (y7, y8) =>
  req (((((y4 == (0 : Int)) && (y8 == (0 : Int))) && ((y3.length : Int) == (2 : Int))) = true → 0 ≤ (0 : Int) ∧ (0 : Int) < (y3.length : Int)) ∧ (((((y4 == (0 : Int)) && (y8 == (0 : Int))) && ((y3.length : Int) == (2 : Int))) && (((ix y3 (0 : Int)).Candidate == (1 : Int)) && (((ix y3 (0 : Int)).Kind == (0 : Int)) && (((ix y3 (0 : Int)).Grade == (1 : Int)) && (((ix y3 (0 : Int)).Total == (25 : Int)) && ((ix y3 (0 : Int)).Reason == (0 : Int))))))) = true → 0 ≤ (1 : Int) ∧ (1 : Int) < (y3.length : Int)) ∧ (((((((y4 == (0 : Int)) && (y8 == (0 : Int))) && ((y3.length : Int) == (2 : Int))) && (((ix y3 (0 : Int)).Candidate == (1 : Int)) && (((ix y3 (0 : Int)).Kind == (0 : Int)) && (((ix y3 (0 : Int)).Grade == (1 : Int)) && (((ix y3 (0 : Int)).Total == (25 : Int)) && ((ix y3 (0 : Int)).Reason == (0 : Int))))))) && ((ix y3 (1 : Int)).Kind == (1 : Int))) && ((y7.length : Int) == (1 : Int))) = true → 0 ≤ (0 : Int) ∧ (0 : Int) < (y7.length : Int)) ∧ ((((((((y4 == (0 : Int)) && (y8 == (0 : Int))) && ((y3.length : Int) == (2 : Int))) && (((ix y3 (0 : Int)).Candidate == (1 : Int)) && (((ix y3 (0 : Int)).Kind == (0 : Int)) && (((ix y3 (0 : Int)).Grade == (1 : Int)) && (((ix y3 (0 : Int)).Total == (25 : Int)) && ((ix y3 (0 : Int)).Reason == (0 : Int))))))) && ((ix y3 (1 : Int)).Kind == (1 : Int))) && ((y7.length : Int) == (1 : Int))) && ((ix y7 (0 : Int)).Reason == (9 : Int))) = true → (result_Count y3 (1 : Int)).isSome = true)) <|
  some ((((((((y4 == (0 : Int)) && (y8 == (0 : Int))) && ((y3.length : Int) == (2 : Int))) && (((ix y3 (0 : Int)).Candidate == (1 : Int)) && (((ix y3 (0 : Int)).Kind == (0 : Int)) && (((ix y3 (0 : Int)).Grade == (1 : Int)) && (((ix y3 (0 : Int)).Total == (25 : Int)) && ((ix y3 (0 : Int)).Reason == (0 : Int))))))) && ((ix y3 (1 : Int)).Kind == (1 : Int))) && ((y7.length : Int) == (1 : Int))) && ((ix y7 (0 : Int)).Reason == (9 : Int))) && (((result_Count y3 (1 : Int)).getD default) == (1 : Int)))
/-- awardingbody awardingbodylaw37.ResultReasons -/
noncomputable def law37_ResultReasons_j1 (y3 : api_Award) (y5 : List api_UnitMark) (w : List api_UnitMark) : Option Bool :=
  (result_Reason y3 (api_Standing.mk (1 : Int) y5 (5 : Int)) y3 (api_Standing.mk (1 : Int) y5 (5 : Int))).bind fun y7 =>
  req (((y7 == (0 : Int)) = true → (result_Reason y3 (api_Standing.mk (1 : Int) y5 (5 : Int)) (api_Award.mk y3.Units y3.Bounds (IntKind.i64.wrap (y3.Max + (1 : Int)))) (api_Standing.mk (1 : Int) y5 (5 : Int))).isSome = true) ∧ (((y7 == (0 : Int)) && (((result_Reason y3 (api_Standing.mk (1 : Int) y5 (5 : Int)) (api_Award.mk y3.Units y3.Bounds (IntKind.i64.wrap (y3.Max + (1 : Int)))) (api_Standing.mk (1 : Int) y5 (5 : Int))).getD default) == (6 : Int))) = true → (result_Reason y3 (api_Standing.mk (1 : Int) y5 (5 : Int)) (api_Award.mk y3.Units y3.Bounds (IntKind.i64.wrap (y3.Max + (1 : Int)))) (api_Standing.mk (1 : Int) y5 (6 : Int))).isSome = true) ∧ ((((y7 == (0 : Int)) && (((result_Reason y3 (api_Standing.mk (1 : Int) y5 (5 : Int)) (api_Award.mk y3.Units y3.Bounds (IntKind.i64.wrap (y3.Max + (1 : Int)))) (api_Standing.mk (1 : Int) y5 (5 : Int))).getD default) == (6 : Int))) && (((result_Reason y3 (api_Standing.mk (1 : Int) y5 (5 : Int)) (api_Award.mk y3.Units y3.Bounds (IntKind.i64.wrap (y3.Max + (1 : Int)))) (api_Standing.mk (1 : Int) y5 (6 : Int))).getD default) == (8 : Int))) = true → (result_Reason y3 (api_Standing.mk (1 : Int) y5 (5 : Int)) (api_Award.mk y3.Units y3.Bounds (IntKind.i64.wrap (y3.Max + (1 : Int)))) (api_Standing.mk (1 : Int) w (5 : Int))).isSome = true) ∧ (((((y7 == (0 : Int)) && (((result_Reason y3 (api_Standing.mk (1 : Int) y5 (5 : Int)) (api_Award.mk y3.Units y3.Bounds (IntKind.i64.wrap (y3.Max + (1 : Int)))) (api_Standing.mk (1 : Int) y5 (5 : Int))).getD default) == (6 : Int))) && (((result_Reason y3 (api_Standing.mk (1 : Int) y5 (5 : Int)) (api_Award.mk y3.Units y3.Bounds (IntKind.i64.wrap (y3.Max + (1 : Int)))) (api_Standing.mk (1 : Int) y5 (6 : Int))).getD default) == (8 : Int))) && (((result_Reason y3 (api_Standing.mk (1 : Int) y5 (5 : Int)) (api_Award.mk y3.Units y3.Bounds (IntKind.i64.wrap (y3.Max + (1 : Int)))) (api_Standing.mk (1 : Int) w (5 : Int))).getD default) == (9 : Int))) = true → (result_Reason (api_Award.mk y3.Units y3.Bounds (IntKind.i64.wrap (y3.Max + (1 : Int)))) (api_Standing.mk (1 : Int) w (5 : Int)) y3 (api_Standing.mk (1 : Int) y5 (6 : Int))).isSome = true) ∧ ((((((y7 == (0 : Int)) && (((result_Reason y3 (api_Standing.mk (1 : Int) y5 (5 : Int)) (api_Award.mk y3.Units y3.Bounds (IntKind.i64.wrap (y3.Max + (1 : Int)))) (api_Standing.mk (1 : Int) y5 (5 : Int))).getD default) == (6 : Int))) && (((result_Reason y3 (api_Standing.mk (1 : Int) y5 (5 : Int)) (api_Award.mk y3.Units y3.Bounds (IntKind.i64.wrap (y3.Max + (1 : Int)))) (api_Standing.mk (1 : Int) y5 (6 : Int))).getD default) == (8 : Int))) && (((result_Reason y3 (api_Standing.mk (1 : Int) y5 (5 : Int)) (api_Award.mk y3.Units y3.Bounds (IntKind.i64.wrap (y3.Max + (1 : Int)))) (api_Standing.mk (1 : Int) w (5 : Int))).getD default) == (9 : Int))) && (((result_Reason (api_Award.mk y3.Units y3.Bounds (IntKind.i64.wrap (y3.Max + (1 : Int)))) (api_Standing.mk (1 : Int) w (5 : Int)) y3 (api_Standing.mk (1 : Int) y5 (6 : Int))).getD default) == (9 : Int))) = true → (law37_sane).isSome = true)) <|
  some ((((((y7 == (0 : Int)) && (((result_Reason y3 (api_Standing.mk (1 : Int) y5 (5 : Int)) (api_Award.mk y3.Units y3.Bounds (IntKind.i64.wrap (y3.Max + (1 : Int)))) (api_Standing.mk (1 : Int) y5 (5 : Int))).getD default) == (6 : Int))) && (((result_Reason y3 (api_Standing.mk (1 : Int) y5 (5 : Int)) (api_Award.mk y3.Units y3.Bounds (IntKind.i64.wrap (y3.Max + (1 : Int)))) (api_Standing.mk (1 : Int) y5 (6 : Int))).getD default) == (8 : Int))) && (((result_Reason y3 (api_Standing.mk (1 : Int) y5 (5 : Int)) (api_Award.mk y3.Units y3.Bounds (IntKind.i64.wrap (y3.Max + (1 : Int)))) (api_Standing.mk (1 : Int) w (5 : Int))).getD default) == (9 : Int))) && (((result_Reason (api_Award.mk y3.Units y3.Bounds (IntKind.i64.wrap (y3.Max + (1 : Int)))) (api_Standing.mk (1 : Int) w (5 : Int)) y3 (api_Standing.mk (1 : Int) y5 (6 : Int))).getD default) == (9 : Int))) && ((law37_sane).getD default))
noncomputable def law37_ResultReasons (t : List Int) : Option Bool :=
  (mark_Light t).bind fun y =>
  bif (!y) then
    (law37_sane).bind fun y1 =>
    some y1
  else
    (mark_Roll t).bind fun y2 =>
    (mark_Dice_Award y2 (2 : Int)).bind fun (y3, y4) =>
    (mark_Dice_Marks y4 y3).bind fun (y5, y6) =>
    req (y5.length * 24 ≤ 140737488355328) <|
    req ((0 ≤ (0 : Int) ∧ (0 : Int) < (y5.length : Int)) ∧ ((!((ix y5 (0 : Int)).Kind == (3 : Int))) = true → 0 ≤ (1 : Int) ∧ (1 : Int) < (y5.length : Int))) <|
    req ((0 ≤ (0 : Int) ∧ (0 : Int) < (y5.length : Int))) <|
    bindV (setI y5 (0 : Int) (api_UnitMark.mk (3 : Int) ((ix y5 (0 : Int)).Value))) fun w1 =>
    bif (((ix y5 (0 : Int)).Kind == (3 : Int)) || ((ix y5 (1 : Int)).Kind == (3 : Int))) then
      req ((0 ≤ (0 : Int) ∧ (0 : Int) < (w1.length : Int)) ∧ (0 ≤ (1 : Int) ∧ (1 : Int) < (w1.length : Int))) <|
      bindV (setI (setI w1 (0 : Int) (api_UnitMark.mk (1 : Int) ((ix w1 (0 : Int)).Value))) (1 : Int) (api_UnitMark.mk (1 : Int) ((ix (setI w1 (0 : Int) (api_UnitMark.mk (1 : Int) ((ix w1 (0 : Int)).Value))) (1 : Int)).Value))) fun w2 =>
      law37_ResultReasons_j1 y3 y5 w2
    else
      law37_ResultReasons_j1 y3 y5 w1
/-- (ptr awardingbody awardingbodymark.Dice).Standings -/
noncomputable def mark_Dice_Standings_j1 (d1 : List Int) (d2 : Int) (out : List api_Standing) : Option ((List api_Standing) × mark_Dice) :=
  some (out, (mark_Dice.mk d1 d2))
noncomputable def mark_Dice_Standings_j2 (c : Int) (d7 : List Int) (d8 : Int) (out3 : List api_Standing) : Option ((Int × (List Int) × Int × (List api_Standing)) ⊕ ((List Int) × Int × (List api_Standing))) :=
  some (.inl ((IntKind.i64.wrap (c + (1 : Int))), d7, d8, out3))
noncomputable def mark_Dice_Standings_l3 (a : api_Award) (n : Int) : (Int × (List Int) × Int × (List api_Standing)) → Option ((Int × (List Int) × Int × (List api_Standing)) ⊕ ((List Int) × Int × (List api_Standing))) :=
  fun (c, d3, d4, out1) =>
    bif (decide (c ≤ n)) then
      (mark_Dice_Next (mark_Dice.mk d3 d4) (5 : Int)).bind fun (y, y1) =>
      bif (decide ((0 : Int) < y)) then
        (mark_Dice_Marks y1 a).bind fun (y2, y3) =>
        (mark_Dice_Pick y3 ([(0 : Int), (0 : Int), (20 : Int), (50 : Int)])).bind fun (y4, y5) =>
        req ((out1.length + ([(api_Standing.mk c y2 y4)]).length) * 40 ≤ 140737488355328) <|
        mark_Dice_Standings_j2 c y5.L y5.At (out1 ++ [(api_Standing.mk c y2 y4)])
      else
        mark_Dice_Standings_j2 c y1.L y1.At out1
    else
      some (.inr (d3, d4, out1))
noncomputable def mark_Dice_Standings (d : mark_Dice) (a : api_Award) (n : Int) : Option ((List api_Standing) × mark_Dice) :=
  (iter (mark_Dice_Standings_l3 a n) ((1 : Int), d.L, d.At, ([] : List api_Standing))).bind fun (d5, d6, out2) =>
  mark_Dice_Standings_j1 d5 d6 out2
/-- awardingbody result.ascend -/
noncomputable def result_ascend_j1  : Option Bool :=
  some true
noncomputable def result_ascend_l2 (l : List api_Change) : Int → Option (Int ⊕ (Unit ⊕ Bool)) :=
  fun i =>
    bif (decide (i < (l.length : Int))) then
      req ((0 ≤ (IntKind.i64.wrap (i - (1 : Int))) ∧ (IntKind.i64.wrap (i - (1 : Int))) < (l.length : Int)) ∧ (0 ≤ i ∧ i < (l.length : Int))) <|
      bif (decide ((ix l i).Candidate ≤ (ix l (IntKind.i64.wrap (i - (1 : Int)))).Candidate)) then
        some (.inr (.inr false))
      else
        some (.inl (IntKind.i64.wrap (i + (1 : Int))))
    else
      some (.inr (.inl ()))
noncomputable def result_ascend_j3 (l : List api_Change) : Option Bool :=
  (iter (result_ascend_l2 l) (1 : Int)).bind fun x_ =>
  match x_ with
  | .inl () => result_ascend_j1
  | .inr t_ => some t_
noncomputable def result_ascend_l4 (old : List api_Outcome) : Int → Option (Int ⊕ (Unit ⊕ Bool)) :=
  fun i1 =>
    bif (decide (i1 < (old.length : Int))) then
      req ((0 ≤ (IntKind.i64.wrap (i1 - (1 : Int))) ∧ (IntKind.i64.wrap (i1 - (1 : Int))) < (old.length : Int)) ∧ (0 ≤ i1 ∧ i1 < (old.length : Int))) <|
      bif (decide ((ix old i1).Candidate ≤ (ix old (IntKind.i64.wrap (i1 - (1 : Int)))).Candidate)) then
        some (.inr (.inr false))
      else
        some (.inl (IntKind.i64.wrap (i1 + (1 : Int))))
    else
      some (.inr (.inl ()))
noncomputable def result_ascend (old : List api_Outcome) (l : List api_Change) : Option Bool :=
  (iter (result_ascend_l4 old) (1 : Int)).bind fun x_ =>
  match x_ with
  | .inl () => result_ascend_j3 l
  | .inr t_ => some t_
/-- awardingbody result.Apply -/
noncomputable def result_Apply_j1 (old : List api_Outcome) (i : Int) (outcomes : List api_Outcome) : Option ((List api_Outcome) × Int) :=
  req ((0 ≤ i ∧ i ≤ (old.length : Int)) ∧ (outcomes.length + (List.drop i.toNat old).length) * 40 ≤ 140737488355328) <|
  some ((outcomes ++ (List.drop i.toNat old)), (0 : Int))
noncomputable def result_Apply_j2 (v : Int) (i3 : Int) (outcomes3 : List api_Outcome) : Option ((Int × Int × (List api_Outcome)) ⊕ ((Int × (List api_Outcome)) ⊕ ((List api_Outcome) × Int))) :=
  some (.inl (i3, (IntKind.i64.wrap (v + (1 : Int))), outcomes3))
noncomputable def result_Apply_j3 (old : List api_Outcome) (l : List api_Change) (v : Int) (i4 : Int) (outcomes5 : List api_Outcome) : Option ((Int × Int × (List api_Outcome)) ⊕ ((Int × (List api_Outcome)) ⊕ ((List api_Outcome) × Int))) :=
  bif ((decide (i4 < (old.length : Int))) && ((ix old i4).Candidate == (ix l v).Candidate)) then
    result_Apply_j2 v (IntKind.i64.wrap (i4 + (1 : Int))) outcomes5
  else
    result_Apply_j2 v i4 outcomes5
noncomputable def result_Apply_j4 (old : List api_Outcome) (l : List api_Change) (v : Int) (i4 : Int) (outcomes4 : List api_Outcome) : Option ((Int × Int × (List api_Outcome)) ⊕ ((Int × (List api_Outcome)) ⊕ ((List api_Outcome) × Int))) :=
  req (((decide (i4 < (old.length : Int))) = true → 0 ≤ i4 ∧ i4 < (old.length : Int))) <|
  bif ((ix l v).Reason == (0 : Int)) then
    some (.inr (.inr (([] : List api_Outcome), (47 : Int))))
  else
    req ((((decide (i4 < (old.length : Int))) && ((ix old i4).Candidate == (ix l v).Candidate)) = true → 0 ≤ i4 ∧ i4 < (old.length : Int))) <|
    bif (((decide (i4 < (old.length : Int))) && ((ix old i4).Candidate == (ix l v).Candidate)) && (!((((ix l v).Old).Candidate == (ix old i4).Candidate) && ((((ix l v).Old).Kind == (ix old i4).Kind) && ((((ix l v).Old).Grade == (ix old i4).Grade) && ((((ix l v).Old).Total == (ix old i4).Total) && (((ix l v).Old).Reason == (ix old i4).Reason))))))) then
      some (.inr (.inr (([] : List api_Outcome), (9 : Int))))
    else
      req ((((!((decide (i4 < (old.length : Int))) && ((ix old i4).Candidate == (ix l v).Candidate))) && (!(!((ix l v).Reason == (7 : Int))))) = true → (result_nothing ((ix l v).Candidate)).isSome = true)) <|
      bif ((!((decide (i4 < (old.length : Int))) && ((ix old i4).Candidate == (ix l v).Candidate))) && ((!((ix l v).Reason == (7 : Int))) || (!((((ix l v).Old).Candidate == ((result_nothing ((ix l v).Candidate)).getD default).Candidate) && ((((ix l v).Old).Kind == ((result_nothing ((ix l v).Candidate)).getD default).Kind) && ((((ix l v).Old).Grade == ((result_nothing ((ix l v).Candidate)).getD default).Grade) && ((((ix l v).Old).Total == ((result_nothing ((ix l v).Candidate)).getD default).Total) && (((ix l v).Old).Reason == ((result_nothing ((ix l v).Candidate)).getD default).Reason)))))))) then
        some (.inr (.inr (([] : List api_Outcome), (9 : Int))))
      else
        bif ((!((decide (i4 < (old.length : Int))) && ((ix old i4).Candidate == (ix l v).Candidate))) || (!((ix l v).Reason == (7 : Int)))) then
          req ((outcomes4.length + ([((ix l v).New)]).length) * 40 ≤ 140737488355328) <|
          result_Apply_j3 old l v i4 (outcomes4 ++ [((ix l v).New)])
        else
          result_Apply_j3 old l v i4 outcomes4
noncomputable def result_Apply_l5 (old : List api_Outcome) (l : List api_Change) (v : Int) : (Int × (List api_Outcome)) → Option ((Int × (List api_Outcome)) ⊕ (Int × (List api_Outcome))) :=
  fun (i5, outcomes6) =>
    req (((decide (i5 < (old.length : Int))) = true → 0 ≤ i5 ∧ i5 < (old.length : Int))) <|
    bif ((decide (i5 < (old.length : Int))) && (decide ((ix old i5).Candidate < (ix l v).Candidate))) then
      req ((0 ≤ i5 ∧ i5 < (old.length : Int)) ∧ (outcomes6.length + ([(ix old i5)]).length) * 40 ≤ 140737488355328) <|
      some (.inl ((IntKind.i64.wrap (i5 + (1 : Int))), (outcomes6 ++ [(ix old i5)])))
    else
      some (.inr (i5, outcomes6))
noncomputable def result_Apply_l6 (old : List api_Outcome) (l : List api_Change) : (Int × Int × (List api_Outcome)) → Option ((Int × Int × (List api_Outcome)) ⊕ ((Int × (List api_Outcome)) ⊕ ((List api_Outcome) × Int))) :=
  fun (i1, v, outcomes1) =>
    bif (decide (v < (l.length : Int))) then
      req ((0 ≤ v ∧ v < (l.length : Int))) <|
      (iter (result_Apply_l5 old l v) (i1, outcomes1)).bind fun (i6, outcomes7) =>
      result_Apply_j4 old l v i6 outcomes7
    else
      some (.inr (.inl (i1, outcomes1)))
noncomputable def result_Apply (old : List api_Outcome) (l : List api_Change) : Option ((List api_Outcome) × Int) :=
  (result_ascend old l).bind fun y =>
  bif (!y) then
    some (([] : List api_Outcome), (43 : Int))
  else
    (iter (result_Apply_l6 old l) ((0 : Int), (0 : Int), ([] : List api_Outcome))).bind fun x_ =>
    match x_ with
    | .inl (i2, outcomes2) => result_Apply_j1 old i2 outcomes2
    | .inr t_ => some t_
/-- awardingbody awardingbodyref37.Same -/
noncomputable def ref37_Same_j1  : Option Bool :=
  some true
noncomputable def ref37_Same_l2 (a : List api_Outcome) (b : List api_Outcome) : Int → Option (Int ⊕ (Unit ⊕ Bool)) :=
  fun i =>
    bif (decide (i < (a.length : Int))) then
      req ((0 ≤ i ∧ i < (a.length : Int)) ∧ (0 ≤ i ∧ i < (b.length : Int))) <|
      bif (!(((ix a i).Candidate == (ix b i).Candidate) && (((ix a i).Kind == (ix b i).Kind) && (((ix a i).Grade == (ix b i).Grade) && (((ix a i).Total == (ix b i).Total) && ((ix a i).Reason == (ix b i).Reason)))))) then
        some (.inr (.inr false))
      else
        some (.inl (IntKind.i64.wrap (i + (1 : Int))))
    else
      some (.inr (.inl ()))
noncomputable def ref37_Same (a : List api_Outcome) (b : List api_Outcome) : Option Bool :=
  bif ((a.length : Int) != (b.length : Int)) then
    some false
  else
    (iter (ref37_Same_l2 a b) (0 : Int)).bind fun x_ =>
    match x_ with
    | .inl () => ref37_Same_j1
    | .inr t_ => some t_
/-- awardingbody awardingbodylaw37.ResultRestates -/
noncomputable def law37_ResultRestates_j1 (y12 : Int) (y13 : List api_Outcome) (y14 : Int) (y16 : Int) (y17 : List api_Outcome) (y18 : Int) (y19 : List api_Change) (y20 : Int) : Option Bool :=
  req ((((((((y12 == (0 : Int)) && (y14 == (0 : Int))) && (y16 == (0 : Int))) && (y18 == (0 : Int))) && (y20 == (0 : Int))) && ((y19.length : Int) == (0 : Int))) = true → (ref37_Same y17 y13).isSome = true) ∧ ((((((((y12 == (0 : Int)) && (y14 == (0 : Int))) && (y16 == (0 : Int))) && (y18 == (0 : Int))) && (y20 == (0 : Int))) && ((y19.length : Int) == (0 : Int))) && ((ref37_Same y17 y13).getD default)) = true → (law37_sane).isSome = true)) <|
  some ((((((((y12 == (0 : Int)) && (y14 == (0 : Int))) && (y16 == (0 : Int))) && (y18 == (0 : Int))) && (y20 == (0 : Int))) && ((y19.length : Int) == (0 : Int))) && ((ref37_Same y17 y13).getD default)) && ((law37_sane).getD default))
noncomputable def law37_ResultRestates_l2 (y15 : List api_Change) : Int → Option (Int ⊕ (Unit ⊕ Bool)) :=
  fun v =>
    bif (decide (v < (y15.length : Int))) then
      req ((0 ≤ v ∧ v < (y15.length : Int)) ∧ (((!((ix y15 v).Reason == (0 : Int))) && (decide ((0 : Int) < v))) = true → 0 ≤ v ∧ v < (y15.length : Int)) ∧ (((!((ix y15 v).Reason == (0 : Int))) && (decide ((0 : Int) < v))) = true → 0 ≤ (IntKind.i64.wrap (v - (1 : Int))) ∧ (IntKind.i64.wrap (v - (1 : Int))) < (y15.length : Int))) <|
      bif (((ix y15 v).Reason == (0 : Int)) || ((decide ((0 : Int) < v)) && (decide ((ix y15 v).Candidate ≤ (ix y15 (IntKind.i64.wrap (v - (1 : Int)))).Candidate)))) then
        some (.inr (.inr false))
      else
        some (.inl (IntKind.i64.wrap (v + (1 : Int))))
    else
      some (.inr (.inl ()))
noncomputable def law37_ResultRestates_j3 (y5 : api_Award) (b : List Int) (w : List Int) (w1 : Int) : Option Bool :=
  (mark_Dice_Standings (mark_Dice.mk w w1) y5 (6 : Int)).bind fun (y7, y8) =>
  (mark_Dice_Standings y8 y5 (6 : Int)).bind fun (y9, y10) =>
  (result_Compute y5 y7).bind fun (y11, y12) =>
  (result_Compute (api_Award.mk y5.Units b y5.Max) y9).bind fun (y13, y14) =>
  (result_Changes y5 y7 (api_Award.mk y5.Units b y5.Max) y9).bind fun (y15, y16) =>
  (result_Apply y11 y15).bind fun (y17, y18) =>
  (result_Changes y5 y7 y5 y7).bind fun (y19, y20) =>
  (iter (law37_ResultRestates_l2 y15) (0 : Int)).bind fun x_ =>
  match x_ with
  | .inl () => law37_ResultRestates_j1 y12 y13 y14 y16 y17 y18 y19 y20
  | .inr t_ => some t_
noncomputable def law37_ResultRestates (t : List Int) : Option Bool :=
  (mark_Light t).bind fun y =>
  bif (!y) then
    (law37_sane).bind fun y1 =>
    some y1
  else
    (mark_Roll t).bind fun y2 =>
    (mark_Dice_Next y2 (3 : Int)).bind fun (y3, y4) =>
    (mark_Dice_Award y4 (IntKind.i64.wrap ((1 : Int) + y3))).bind fun (y5, y6) =>
    (mark_Dice_Bool y6 (2 : Int)).bind fun (y21, y22) =>
    bif y21 then
      (mark_Dice_Bounds y22 y5.Max).bind fun (y23, y24) =>
      law37_ResultRestates_j3 y5 y23 y24.L y24.At
    else
      law37_ResultRestates_j3 y5 y5.Bounds y22.L y22.At
end Go.LS
