/-
  Plain functions that the program's functions compute. No condition: definitions, printed by dec.py.
-/
import Derived.Test.YtdfbbiahpcelmaaD2
namespace Go.LS
set_option linter.all false
set_option linter.unusedSimpArgs false
set_option linter.unusedVariables false
set_option maxRecDepth 20000

/-- awardingbody awardingbodyref01.Plus -/
noncomputable def ref01_Plus (a : ref01_Wide) (b : ref01_Wide) : Option ref01_Wide :=
  (bits_Add64 a.Lo b.Lo (0 : Int)).bind fun (y, y1) =>
  (bits_Add64 a.Hi b.Hi y1).bind fun (y2, y3) =>
  some (ref01_Wide.mk y2 y)
/-- awardingbody awardingbodyref01.total -/
noncomputable def ref01_total (x : Bool) (a : ref01_Wide) (y : Bool) (b : ref01_Wide) : Option (Bool × ref01_Wide) :=
  bif (x == y) then
    (ref01_Plus a b).bind fun y1 =>
    some (x, y1)
  else
    (ref01_Order a b).bind fun y2 =>
    bif (decide ((0 : Int) ≤ y2)) then
      (ref01_Minus a b).bind fun y3 =>
      some (x, y3)
    else
      (ref01_Minus b a).bind fun y4 =>
      some (y, y4)
/-- awardingbody awardingbodyref01.Product -/
noncomputable def ref01_Product (a : Int) (b : Int) : Option ref01_Wide :=
  (bits_Mul64 a b).bind fun (y, y1) =>
  some (ref01_Wide.mk y y1)
/-- awardingbody awardingbodyref01.Compare -/
noncomputable def ref01_Compare (a : api_Ratio) (b : api_Ratio) : Option Int :=
  (ref01_Valid a).bind fun y =>
  req (((!(!y)) = true → (ref01_Valid b).isSome = true)) <|
  bif ((!y) || (!((ref01_Valid b).getD default))) then
    some (0 : Int)
  else
    (ref01_Size a.Num).bind fun y1 =>
    (ref01_Size b.Den).bind fun y2 =>
    (ref01_Product y1 y2).bind fun y3 =>
    (ref01_Size b.Num).bind fun y4 =>
    (ref01_Size a.Den).bind fun y5 =>
    (ref01_Product y4 y5).bind fun y6 =>
    (ref01_total (decide (a.Num < (0 : Int))) y3 (decide ((0 : Int) < b.Num)) y6).bind fun (y7, y8) =>
    bif ((y8.Hi == (0 : Int)) && (y8.Lo == (0 : Int))) then
      some (0 : Int)
    else
      bif y7 then
        some (-1 : Int)
      else
        some (1 : Int)
/-- awardingbody awardingbodyref01.Less -/
noncomputable def ref01_Less (a : api_Ratio) (b : api_Ratio) : Option Bool :=
  (ref01_Compare a b).bind fun y =>
  some (decide (y < (0 : Int)))
/-- awardingbody awardingbodyref32.Reaches -/
noncomputable def ref32_Reaches (n : Int) (m : Int) (share : api_Ratio) : Option Bool :=
  (ref01_New n m).bind fun (y, y1) =>
  (ref01_Less y share).bind fun y2 =>
  some (!y2)
/-- awardingbody awardingbodyref32.Quantile -/
noncomputable def ref32_Quantile_j1 (s : Int) : Option (Int × Int) :=
  some (s, (0 : Int))
noncomputable def ref32_Quantile_l2 (d : api_Distribution) (share : api_Ratio) : Int → Option (Int ⊕ Int) :=
  fun s1 =>
    (ref32_Below d (IntKind.i64.wrap (s1 + (1 : Int)))).bind fun y3 =>
    (ref32_Count d).bind fun y4 =>
    (ref32_Reaches y3 y4 share).bind fun y5 =>
    bif (!y5) then
      some (.inl (IntKind.i64.wrap (s1 + (1 : Int))))
    else
      some (.inr s1)
noncomputable def ref32_Quantile (d : api_Distribution) (share : api_Ratio) : Option (Int × Int) :=
  (ref32_Valid d).bind fun y =>
  req (((!(!y)) = true → (ref01_Valid share).isSome = true)) <|
  bif ((!y) || (!((ref01_Valid share).getD default))) then
    some ((0 : Int), (1 : Int))
  else
    (ref32_Count d).bind fun y1 =>
    bif (y1 == (0 : Int)) then
      some ((0 : Int), (10 : Int))
    else
      (ref32_Outside share).bind fun y2 =>
      bif y2 then
        some ((0 : Int), (2 : Int))
      else
        (iter (ref32_Quantile_l2 d share) (0 : Int)).bind fun s2 =>
        ref32_Quantile_j1 s2
/-- awardingbody awardingbodyref32.Add -/
noncomputable def ref32_Add_j1 (w1 : List Int) : Option (api_Distribution × Int) :=
  some ((api_Distribution.mk w1), (0 : Int))
noncomputable def ref32_Add_l2 (b : api_Distribution) : (Int × (List Int)) → Option ((Int × (List Int)) ⊕ (List Int)) :=
  fun (i, w2) =>
    bif (decide (i < (b.Counts.length : Int))) then
      req ((0 ≤ i ∧ i < (w2.length : Int)) ∧ (0 ≤ i ∧ i < (b.Counts.length : Int))) <|
      some (.inl ((IntKind.i64.wrap (i + (1 : Int))), (setI w2 i (IntKind.i64.wrap ((ix w2 i) + (ix b.Counts i))))))
    else
      some (.inr w2)
noncomputable def ref32_Add_j3 (b : api_Distribution) (w : List Int) : Option (api_Distribution × Int) :=
  (iter (ref32_Add_l2 b) ((0 : Int), w)).bind fun w3 =>
  ref32_Add_j1 w3
noncomputable def ref32_Add_l4 (a : api_Distribution) : (Int × (List Int)) → Option ((Int × (List Int)) ⊕ (List Int)) :=
  fun (i1, w4) =>
    bif (decide (i1 < (a.Counts.length : Int))) then
      req ((0 ≤ i1 ∧ i1 < (w4.length : Int)) ∧ (0 ≤ i1 ∧ i1 < (a.Counts.length : Int))) <|
      some (.inl ((IntKind.i64.wrap (i1 + (1 : Int))), (setI w4 i1 (IntKind.i64.wrap ((ix w4 i1) + (ix a.Counts i1))))))
    else
      some (.inr w4)
noncomputable def ref32_Add (a : api_Distribution) (b : api_Distribution) : Option (api_Distribution × Int) :=
  (ref32_Valid a).bind fun y =>
  req (((!(!y)) = true → (ref32_Valid b).isSome = true)) <|
  bif ((!y) || (!((ref32_Valid b).getD default))) then
    some ((api_Distribution.mk ([] : List Int)), (1 : Int))
  else
    (ref32_Count a).bind fun y1 =>
    (ref32_Count b).bind fun y2 =>
    bif (decide ((1048576 : Int) < (IntKind.i64.wrap (y1 + y2)))) then
      some ((api_Distribution.mk ([] : List Int)), (3 : Int))
    else
      req ((0 ≤ (imax (a.Counts.length : Int) (b.Counts.length : Int)) ∧ (imax (a.Counts.length : Int) (b.Counts.length : Int)) * 8 ≤ 140737488355328)) <|
      (iter (ref32_Add_l4 a) ((0 : Int), (rep (imax (a.Counts.length : Int) (b.Counts.length : Int)) (0 : Int)))).bind fun w5 =>
      ref32_Add_j3 b w5
/-- awardingbody awardingbodyref32.Smooth -/
noncomputable def ref32_Smooth_j1 (d : api_Distribution) (w : List Int) : Option (api_Distribution × Int) :=
  (ref32_Add d (api_Distribution.mk w)).bind fun (y1, y2) =>
  some (y1, y2)
noncomputable def ref32_Smooth_l2  : (Int × (List Int)) → Option ((Int × (List Int)) ⊕ (List Int)) :=
  fun (i, w1) =>
    bif (decide (i < (w1.length : Int))) then
      req ((0 ≤ i ∧ i < (w1.length : Int))) <|
      some (.inl ((IntKind.i64.wrap (i + (1 : Int))), (setI w1 i (1 : Int))))
    else
      some (.inr w1)
noncomputable def ref32_Smooth (d : api_Distribution) : Option (api_Distribution × Int) :=
  (ref32_Valid d).bind fun y =>
  bif (!y) then
    some ((api_Distribution.mk ([] : List Int)), (1 : Int))
  else
    req ((0 ≤ (d.Counts.length : Int) ∧ (d.Counts.length : Int) * 8 ≤ 140737488355328)) <|
    (iter (ref32_Smooth_l2) ((0 : Int), (rep (d.Counts.length : Int) (0 : Int)))).bind fun w2 =>
    ref32_Smooth_j1 d w2
/-- awardingbody awardingbodyref32.Dominates -/
noncomputable def ref32_Dominates_j1  : Option Bool :=
  some true
noncomputable def ref32_Dominates_l2 (a : api_Distribution) (b : api_Distribution) : Int → Option (Int ⊕ (Unit ⊕ Bool)) :=
  fun i =>
    bif (decide (i ≤ (imax (a.Counts.length : Int) (b.Counts.length : Int)))) then
      (ref32_Below a i).bind fun y1 =>
      (ref32_Count b).bind fun y2 =>
      (ref32_Below b i).bind fun y3 =>
      (ref32_Count a).bind fun y4 =>
      bif (decide ((IntKind.i64.wrap (y3 * y4)) < (IntKind.i64.wrap (y1 * y2)))) then
        some (.inr (.inr false))
      else
        some (.inl (IntKind.i64.wrap (i + (1 : Int))))
    else
      some (.inr (.inl ()))
noncomputable def ref32_Dominates (a : api_Distribution) (b : api_Distribution) : Option Bool :=
  (ref32_wrong a).bind fun y =>
  req (((!(y != (0 : Int))) = true → (ref32_wrong b).isSome = true)) <|
  bif ((y != (0 : Int)) || (((ref32_wrong b).getD default) != (0 : Int))) then
    some false
  else
    (iter (ref32_Dominates_l2 a b) (0 : Int)).bind fun x_ =>
    match x_ with
    | .inl () => ref32_Dominates_j1
    | .inr t_ => some t_
/-- awardingbody awardingbodymark.Light -/
noncomputable def mark_Light (l : List Int) : Option Bool :=
  some (decide ((l.length : Int) ≤ (600 : Int)))
/-- awardingbody awardingbodylaw32.DistributionExact -/
noncomputable def law32_DistributionExact_j1  : Option Bool :=
  (law32_sane).bind fun y12 =>
  some y12
noncomputable def law32_DistributionExact_j2 (v : Int) (w2 : List Int) (w3 : Int) : Option ((Int × (List Int) × Int) ⊕ (Unit ⊕ Bool)) :=
  some (.inl ((IntKind.i64.wrap (v + (1 : Int))), w2, w3))
noncomputable def law32_DistributionExact_j3 (raw : api_Distribution) (y3 : api_Distribution) (y7 : api_Distribution) (y13 : api_Distribution) (v : Int) (w4 : List Int) (w5 : Int) : Option ((Int × (List Int) × Int) ⊕ (Unit ⊕ Bool)) :=
  (distribution_Add (ix [y3, y13, raw, y7] v) y3).bind fun (y25, y26) =>
  (ref32_Add (ix [y3, y13, raw, y7] v) y3).bind fun (y27, y28) =>
  (distribution_Smooth (ix [y3, y13, raw, y7] v)).bind fun (y29, y30) =>
  (ref32_Smooth (ix [y3, y13, raw, y7] v)).bind fun (y31, y32) =>
  (ref32_Same y25 y27).bind fun y33 =>
  req (((!((!y33) || (y26 != y28))) = true → (ref32_Same y29 y31).isSome = true) ∧ ((!((((!y33) || (y26 != y28)) || (!((ref32_Same y29 y31).getD default))) || (y30 != y32))) = true → (distribution_Dominates (ix [y3, y13, raw, y7] v) y3).isSome = true) ∧ ((!((((!y33) || (y26 != y28)) || (!((ref32_Same y29 y31).getD default))) || (y30 != y32))) = true → (ref32_Dominates (ix [y3, y13, raw, y7] v) y3).isSome = true) ∧ ((!(((((!y33) || (y26 != y28)) || (!((ref32_Same y29 y31).getD default))) || (y30 != y32)) || (!(((distribution_Dominates (ix [y3, y13, raw, y7] v) y3).getD default) == ((ref32_Dominates (ix [y3, y13, raw, y7] v) y3).getD default))))) = true → (distribution_Dominates y3 (ix [y3, y13, raw, y7] v)).isSome = true) ∧ ((!(((((!y33) || (y26 != y28)) || (!((ref32_Same y29 y31).getD default))) || (y30 != y32)) || (!(((distribution_Dominates (ix [y3, y13, raw, y7] v) y3).getD default) == ((ref32_Dominates (ix [y3, y13, raw, y7] v) y3).getD default))))) = true → (ref32_Dominates y3 (ix [y3, y13, raw, y7] v)).isSome = true)) <|
  bif ((((((!y33) || (y26 != y28)) || (!((ref32_Same y29 y31).getD default))) || (y30 != y32)) || (!(((distribution_Dominates (ix [y3, y13, raw, y7] v) y3).getD default) == ((ref32_Dominates (ix [y3, y13, raw, y7] v) y3).getD default)))) || (!(((distribution_Dominates y3 (ix [y3, y13, raw, y7] v)).getD default) == ((ref32_Dominates y3 (ix [y3, y13, raw, y7] v)).getD default)))) then
    some (.inr (.inr false))
  else
    law32_DistributionExact_j2 v w4 w5
noncomputable def law32_DistributionExact_l4 (raw : api_Distribution) (share : api_Ratio) (y3 : api_Distribution) (y7 : api_Distribution) (y10 : Int) (y13 : api_Distribution) (v : Int) : Int → Option (Int ⊕ (Unit ⊕ ((Int × (List Int) × Int) ⊕ (Unit ⊕ Bool)))) :=
  fun v1 =>
    bif (decide (v1 < (4 : Int))) then
      req ((0 ≤ v1 ∧ v1 < 4)) <|
      bindV ((ix [share, (api_Ratio.mk y10 (4 : Int)), (api_Ratio.mk (1 : Int) (3 : Int)), (api_Ratio.mk (-1 : Int) (2 : Int))] v1).Num) fun s =>
      bindV ((ix [share, (api_Ratio.mk y10 (4 : Int)), (api_Ratio.mk (1 : Int) (3 : Int)), (api_Ratio.mk (-1 : Int) (2 : Int))] v1).Den) fun s1 =>
      (distribution_Quantile (ix [y3, y13, raw, y7] v) (api_Ratio.mk s s1)).bind fun (y34, y35) =>
      (ref32_Quantile (ix [y3, y13, raw, y7] v) (api_Ratio.mk s s1)).bind fun (y36, y37) =>
      bif ((y34 != y36) || (y35 != y37)) then
        some (.inr (.inr (.inr (.inr false))))
      else
        some (.inl (IntKind.i64.wrap (v1 + (1 : Int))))
    else
      some (.inr (.inl ()))
noncomputable def law32_DistributionExact_j5 (raw : api_Distribution) (share : api_Ratio) (y3 : api_Distribution) (y7 : api_Distribution) (y10 : Int) (y13 : api_Distribution) (v : Int) (w4 : List Int) (w5 : Int) : Option ((Int × (List Int) × Int) ⊕ (Unit ⊕ Bool)) :=
  (distribution_Mean (ix [y3, y13, raw, y7] v)).bind fun (y17, y18) =>
  (ref32_Mean (ix [y3, y13, raw, y7] v)).bind fun (y19, y20) =>
  (distribution_Deviation (ix [y3, y13, raw, y7] v)).bind fun (y21, y22) =>
  (ref32_Deviation (ix [y3, y13, raw, y7] v)).bind fun (y23, y24) =>
  bif ((((!((y17.Num == y19.Num) && (y17.Den == y19.Den))) || (y18 != y20)) || (!((y21.Num == y23.Num) && (y21.Den == y23.Den)))) || (y22 != y24)) then
    some (.inr (.inr false))
  else
    (iter (law32_DistributionExact_l4 raw share y3 y7 y10 y13 v) (0 : Int)).bind fun x_ =>
    match x_ with
    | .inl () => law32_DistributionExact_j3 raw y3 y7 y13 v w4 w5
    | .inr t_ => some t_
noncomputable def law32_DistributionExact_l6 (raw : api_Distribution) (score : Int) (y3 : api_Distribution) (y7 : api_Distribution) (y13 : api_Distribution) (v : Int) (y38 : Int) : Int → Option (Int ⊕ (Unit ⊕ ((Int × (List Int) × Int) ⊕ (Unit ⊕ Bool)))) :=
  fun v2 =>
    bif (decide (v2 < (4 : Int))) then
      req ((0 ≤ v2 ∧ v2 < 4)) <|
      bindV (ix [score, (IntKind.i64.wrap (y38 - (1 : Int))), (0 : Int), (200 : Int)] v2) fun s2 =>
      (distribution_Rank (ix [y3, y13, raw, y7] v) s2).bind fun (y40, y41) =>
      (ref32_Rank (ix [y3, y13, raw, y7] v) s2).bind fun (y42, y43) =>
      (distribution_Below (ix [y3, y13, raw, y7] v) s2).bind fun y44 =>
      (ref32_Below (ix [y3, y13, raw, y7] v) s2).bind fun y45 =>
      bif (((y44 != y45) || (!((y40.Num == y42.Num) && (y40.Den == y42.Den)))) || (y41 != y43)) then
        some (.inr (.inr (.inr (.inr false))))
      else
        some (.inl (IntKind.i64.wrap (v2 + (1 : Int))))
    else
      some (.inr (.inl ()))
noncomputable def law32_DistributionExact_l7 (raw : api_Distribution) (score : Int) (share : api_Ratio) (y3 : api_Distribution) (y7 : api_Distribution) (y10 : Int) (y13 : api_Distribution) : (Int × (List Int) × Int) → Option ((Int × (List Int) × Int) ⊕ (Unit ⊕ Bool)) :=
  fun (v, w, w1) =>
    bif (decide (v < (4 : Int))) then
      req ((0 ≤ v ∧ v < 4)) <|
      (distribution_Valid (ix [y3, y13, raw, y7] v)).bind fun y15 =>
      (ref32_Valid (ix [y3, y13, raw, y7] v)).bind fun y16 =>
      req (((!(!(y15 == y16))) = true → (distribution_Count (ix [y3, y13, raw, y7] v)).isSome = true) ∧ ((!(!(y15 == y16))) = true → (ref32_Count (ix [y3, y13, raw, y7] v)).isSome = true)) <|
      bif ((!(y15 == y16)) || (((distribution_Count (ix [y3, y13, raw, y7] v)).getD default) != ((ref32_Count (ix [y3, y13, raw, y7] v)).getD default))) then
        some (.inr (.inr false))
      else
        (mark_Dice_Next (mark_Dice.mk w w1) (12 : Int)).bind fun (y38, y39) =>
        (iter (law32_DistributionExact_l6 raw score y3 y7 y13 v y38) (0 : Int)).bind fun x_ =>
        match x_ with
        | .inl () => law32_DistributionExact_j5 raw share y3 y7 y10 y13 v y39.L y39.At
        | .inr t_ => some t_
    else
      some (.inr (.inl ()))
noncomputable def law32_DistributionExact (t : List Int) (raw : api_Distribution) (scores : List Int) (score : Int) (most : Int) (share : api_Ratio) : Option Bool :=
  (mark_Light t).bind fun y =>
  bif (((!y) || (decide ((60 : Int) < (scores.length : Int)))) || (decide ((210 : Int) < (raw.Counts.length : Int)))) then
    (law32_sane).bind fun y1 =>
    some y1
  else
    (mark_Roll t).bind fun y2 =>
    (mark_Dice_Distribution y2 (8 : Int) false).bind fun (y3, y4) =>
    (distribution_Make scores most).bind fun (y5, y6) =>
    (ref32_Make scores most).bind fun (y7, y8) =>
    (ref32_Same y5 y7).bind fun y9 =>
    bif ((!y9) || (y6 != y8)) then
      some false
    else
      (mark_Dice_Next y4 (5 : Int)).bind fun (y10, y11) =>
      (law32_odd y11 y3).bind fun (y13, y14) =>
      (iter (law32_DistributionExact_l7 raw score share y3 y7 y10 y13) ((0 : Int), y14.L, y14.At)).bind fun x_ =>
      match x_ with
      | .inl () => law32_DistributionExact_j1
      | .inr t_ => some t_
end Go.LS
