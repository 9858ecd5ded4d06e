/-
  Plain functions that the program's functions compute. No condition: definitions, printed by dec.py.
-/
import Derived.Test.YtdfbbiahpcelmaaD2
namespace Go.LS
set_option linter.all false
set_option linter.unusedSimpArgs false
set_option linter.unusedVariables false
set_option maxRecDepth 20000

/-- awardingbody distribution.Deviation -/
noncomputable def distribution_Deviation_j1 (y : Int) (distances : Int) : Option (api_Ratio × Int) :=
  (ratio_New distances (IntKind.i64.wrap (y * y))).bind fun (y3, y4) =>
  some (y3, y4)
noncomputable def distribution_Deviation_l2 (d : api_Distribution) (y : Int) (y2 : Int) : (Int × Int) → Option ((Int × Int) ⊕ Int) :=
  fun (distances1, v) =>
    bif (decide (v < (d.Counts.length : Int))) then
      req ((0 ≤ v ∧ v < (d.Counts.length : Int))) <|
      bindV (IntKind.i64.wrap (distances1 + (IntKind.i64.wrap ((ix d.Counts v) * (imax (IntKind.i64.wrap ((IntKind.i64.wrap (v * y)) - y2)) (IntKind.i64.wrap (0 - (IntKind.i64.wrap ((IntKind.i64.wrap (v * y)) - y2))))))))) fun distances3 =>
      some (.inl (distances3, (IntKind.i64.wrap (v + (1 : Int)))))
    else
      some (.inr distances1)
noncomputable def distribution_Deviation (d : api_Distribution) : Option (api_Ratio × Int) :=
  (distribution_check d).bind fun (y, y1) =>
  bif (y1 != (0 : Int)) then
    some ((api_Ratio.mk (0 : Int) (0 : Int)), y1)
  else
    (distribution_sumOfScores d).bind fun y2 =>
    (iter (distribution_Deviation_l2 d y y2) ((0 : Int), (0 : Int))).bind fun distances2 =>
    distribution_Deviation_j1 y distances2
/-- awardingbody awardingbodylaw32.sane -/
noncomputable def law32_sane  : Option Bool :=
  (distribution_Mean (api_Distribution.mk ([(1 : Int), (2 : Int), (1 : Int)]))).bind fun (y, y1) =>
  (distribution_Deviation (api_Distribution.mk ([(1 : Int), (2 : Int), (1 : Int)]))).bind fun (y2, y3) =>
  (distribution_Rank (api_Distribution.mk ([(1 : Int), (2 : Int), (1 : Int)])) (1 : Int)).bind fun (y4, y5) =>
  (distribution_Quantile (api_Distribution.mk ([(1 : Int), (2 : Int), (1 : Int)])) (api_Ratio.mk (1 : Int) (4 : Int))).bind fun (y6, y7) =>
  (distribution_Quantile (api_Distribution.mk ([(1 : Int), (2 : Int), (1 : Int)])) (api_Ratio.mk (1 : Int) (2 : Int))).bind fun (y8, y9) =>
  some ((((((((((y1 == (0 : Int)) && (y3 == (0 : Int))) && (y5 == (0 : Int))) && (y7 == (0 : Int))) && (y9 == (0 : Int))) && ((y.Num == (1 : Int)) && (y.Den == (1 : Int)))) && ((y2.Num == (1 : Int)) && (y2.Den == (2 : Int)))) && ((y4.Num == (1 : Int)) && (y4.Den == (2 : Int)))) && (y6 == (0 : Int))) && (y8 == (1 : Int)))
/-- awardingbody awardingbodymark.Roll -/
noncomputable def mark_Roll (l : List Int) : Option mark_Dice :=
  some (mark_Dice.mk l (0 : Int))
/-- (ptr awardingbody awardingbodymark.Dice).Next -/
noncomputable def mark_Dice_Next_j1 (d : mark_Dice) (x : Int) : Option (Int × mark_Dice) :=
  some (x, (mark_Dice.mk d.L (IntKind.i64.wrap (d.At + (1 : Int)))))
noncomputable def mark_Dice_Next (d : mark_Dice) (n : Int) : Option (Int × mark_Dice) :=
  bif ((decide ((d.L.length : Int) ≤ d.At)) || (decide (n < (1 : Int)))) then
    some ((0 : Int), d)
  else
    req ((0 ≤ d.At ∧ d.At < (d.L.length : Int)) ∧ n ≠ 0) <|
    bif (decide ((Int.tmod (ix d.L d.At) n) < (0 : Int))) then
      mark_Dice_Next_j1 d (IntKind.i64.wrap ((Int.tmod (ix d.L d.At) n) + n))
    else
      mark_Dice_Next_j1 d (Int.tmod (ix d.L d.At) n)
/-- (ptr awardingbody awardingbodymark.Dice).Pick -/
noncomputable def mark_Dice_Pick (d : mark_Dice) (l : List Int) : Option (Int × mark_Dice) :=
  (mark_Dice_Next d (l.length : Int)).bind fun (y, y1) =>
  req ((0 ≤ y ∧ y < (l.length : Int))) <|
  some ((ix l y), y1)
/-- (ptr awardingbody awardingbodymark.Dice).Distribution -/
noncomputable def mark_Dice_Distribution_j1 (d1 : List Int) (d2 : Int) (w : List Int) : Option (api_Distribution × mark_Dice) :=
  some ((api_Distribution.mk w), (mark_Dice.mk d1 d2))
noncomputable def mark_Dice_Distribution_l2 (least : Int) : (Int × (List Int) × Int × (List Int)) → Option ((Int × (List Int) × Int × (List Int)) ⊕ ((List Int) × Int × (List Int))) :=
  fun (i, d3, d4, w1) =>
    bif (decide ((0 : Int) < i)) then
      (mark_Dice_Pick (mark_Dice.mk d3 d4) ([(0 : Int), (1 : Int), (2 : Int), (5 : Int), (0 : Int)])).bind fun (y2, y3) =>
      req ((w1.length + ([(IntKind.i64.wrap (least + y2))]).length) * 8 ≤ 140737488355328) <|
      some (.inl ((IntKind.i64.wrap (i - (1 : Int))), y3.L, y3.At, (w1 ++ [(IntKind.i64.wrap (least + y2))])))
    else
      some (.inr (d3, d4, w1))
noncomputable def mark_Dice_Distribution_j3 (d : mark_Dice) (n : Int) (least : Int) : Option (api_Distribution × mark_Dice) :=
  (mark_Dice_Next d (IntKind.i64.wrap (n + (1 : Int)))).bind fun (y, y1) =>
  (iter (mark_Dice_Distribution_l2 least) ((IntKind.i64.wrap ((1 : Int) + y)), y1.L, y1.At, ([] : List Int))).bind fun (d5, d6, w2) =>
  mark_Dice_Distribution_j1 d5 d6 w2
noncomputable def mark_Dice_Distribution (d : mark_Dice) (n : Int) (full : Bool) : Option (api_Distribution × mark_Dice) :=
  bif full then
    mark_Dice_Distribution_j3 d n (1 : Int)
  else
    mark_Dice_Distribution_j3 d n (0 : Int)
/-- awardingbody awardingbodyref01.Twice -/
noncomputable def ref01_Twice (a : ref01_Wide) : Option ref01_Wide :=
  some (ref01_Wide.mk (bOr .u64 (bShl .u64 a.Hi (1 : Int)) (bShr .u64 a.Lo (63 : Int))) (bShl .u64 a.Lo (1 : Int)))
/-- awardingbody awardingbodyref01.Order -/
noncomputable def ref01_Order (a : ref01_Wide) (b : ref01_Wide) : Option Int :=
  bif ((decide (a.Hi < b.Hi)) || ((a.Hi == b.Hi) && (decide (a.Lo < b.Lo)))) then
    some (-1 : Int)
  else
    bif ((a.Hi == b.Hi) && (a.Lo == b.Lo)) then
      some (0 : Int)
    else
      some (1 : Int)
/-- awardingbody awardingbodyref01.Minus -/
noncomputable def ref01_Minus (a : ref01_Wide) (b : ref01_Wide) : Option ref01_Wide :=
  (bits_Sub64 a.Lo b.Lo (0 : Int)).bind fun (y, y1) =>
  (bits_Sub64 a.Hi b.Hi y1).bind fun (y2, y3) =>
  some (ref01_Wide.mk y2 y)
/-- awardingbody awardingbodyref01.Divide -/
noncomputable def ref01_Divide_j1 (q : Int) (q1 : Int) (r : Int) (r1 : Int) : Option (ref01_Wide × ref01_Wide) :=
  some ((ref01_Wide.mk q q1), (ref01_Wide.mk r r1))
noncomputable def ref01_Divide_j2 (i : Int) (q6 : Int) (q7 : Int) (r6 : Int) (r7 : Int) : Option ((Int × Int × Int × Int × Int) ⊕ (Int × Int × Int × Int)) :=
  some (.inl ((IntKind.i64.wrap (i - (1 : Int))), q6, q7, r6, r7))
noncomputable def ref01_Divide_j3 (b : ref01_Wide) (i : Int) (q2 : Int) (q3 : Int) (r2 : Int) (r3 : Int) (bit1 : Int) : Option ((Int × Int × Int × Int × Int) ⊕ (Int × Int × Int × Int)) :=
  (ref01_Twice (ref01_Wide.mk r2 r3)).bind fun y =>
  (ref01_Twice (ref01_Wide.mk q2 q3)).bind fun y1 =>
  req (((!((bShr .u64 r2 (63 : Int)) == (1 : Int))) = true → (ref01_Order (ref01_Wide.mk y.Hi (bOr .u64 y.Lo bit1)) b).isSome = true)) <|
  bif (((bShr .u64 r2 (63 : Int)) == (1 : Int)) || (decide ((0 : Int) ≤ ((ref01_Order (ref01_Wide.mk y.Hi (bOr .u64 y.Lo bit1)) b).getD default)))) then
    (ref01_Minus (ref01_Wide.mk y.Hi (bOr .u64 y.Lo bit1)) b).bind fun y2 =>
    ref01_Divide_j2 i y1.Hi (bOr .u64 y1.Lo (1 : Int)) y2.Hi y2.Lo
  else
    ref01_Divide_j2 i y1.Hi y1.Lo y.Hi (bOr .u64 y.Lo bit1)
noncomputable def ref01_Divide_l4 (a : ref01_Wide) (b : ref01_Wide) : (Int × Int × Int × Int × Int) → Option ((Int × Int × Int × Int × Int) ⊕ (Int × Int × Int × Int)) :=
  fun (i, q2, q3, r2, r3) =>
    bif (decide ((0 : Int) ≤ i)) then
      req (0 ≤ (IntKind.u64.wrap (Int.tmod i (64 : Int)))) <|
      bindV (bAnd .u64 (bShr .u64 a.Lo (IntKind.u64.wrap (Int.tmod i (64 : Int)))) (1 : Int)) fun bit =>
      bif (decide ((64 : Int) ≤ i)) then
        req (0 ≤ (IntKind.u64.wrap (IntKind.i64.wrap (i - (64 : Int))))) <|
        bindV (bAnd .u64 (bShr .u64 a.Hi (IntKind.u64.wrap (IntKind.i64.wrap (i - (64 : Int))))) (1 : Int)) fun bit2 =>
        ref01_Divide_j3 b i q2 q3 r2 r3 bit2
      else
        ref01_Divide_j3 b i q2 q3 r2 r3 bit
    else
      some (.inr (q2, q3, r2, r3))
noncomputable def ref01_Divide (a : ref01_Wide) (b : ref01_Wide) : Option (ref01_Wide × ref01_Wide) :=
  bif ((a.Hi == (0 : Int)) && (b.Hi == (0 : Int))) then
    req (b.Lo ≠ 0) <|
    some ((ref01_Wide.mk (0 : Int) (IntKind.u64.wrap (Int.tdiv a.Lo b.Lo))), (ref01_Wide.mk (0 : Int) (Int.tmod a.Lo b.Lo)))
  else
    (iter (ref01_Divide_l4 a b) ((127 : Int), (0 : Int), (0 : Int), (0 : Int), (0 : Int))).bind fun (q4, q5, r4, r5) =>
    ref01_Divide_j1 q4 q5 r4 r5
/-- awardingbody awardingbodyref01.Divisor -/
noncomputable def ref01_Divisor_j1 (a1 : Int) (a2 : Int) : Option ref01_Wide :=
  some (ref01_Wide.mk a1 a2)
noncomputable def ref01_Divisor_l2  : (Int × Int × Int × Int) → Option ((Int × Int × Int × Int) ⊕ (Int × Int)) :=
  fun (a3, a4, b1, b2) =>
    bif (!((b1 == (0 : Int)) && (b2 == (0 : Int)))) then
      (ref01_Divide (ref01_Wide.mk a3 a4) (ref01_Wide.mk b1 b2)).bind fun (y, y1) =>
      some (.inl (b1, b2, y1.Hi, y1.Lo))
    else
      some (.inr (a3, a4))
noncomputable def ref01_Divisor (a : ref01_Wide) (b : ref01_Wide) : Option ref01_Wide :=
  (iter (ref01_Divisor_l2) (a.Hi, a.Lo, b.Hi, b.Lo)).bind fun (a5, a6) =>
  ref01_Divisor_j1 a5 a6
/-- awardingbody awardingbodyref01.Reduce -/
noncomputable def ref01_Reduce_j1 (y3 : ref01_Wide) (out : Int) : Option (api_Ratio × Int) :=
  some ((api_Ratio.mk out (IntKind.i64.wrap y3.Lo)), (0 : Int))
noncomputable def ref01_Reduce (negative : Bool) (num : ref01_Wide) (den : ref01_Wide) : Option (api_Ratio × Int) :=
  (ref01_Divisor num den).bind fun y =>
  (ref01_Divide num y).bind fun (y1, y2) =>
  (ref01_Divide den y).bind fun (y3, y4) =>
  bif ((((decide ((0 : Int) < y1.Hi)) || (decide ((0 : Int) < y3.Hi))) || (decide ((1152921504606846976 : Int) < y1.Lo))) || (decide ((1152921504606846976 : Int) < y3.Lo))) then
    some ((api_Ratio.mk (0 : Int) (0 : Int)), (6 : Int))
  else
    bif negative then
      ref01_Reduce_j1 y3 (IntKind.i64.wrap (0 - (IntKind.i64.wrap y1.Lo)))
    else
      ref01_Reduce_j1 y3 (IntKind.i64.wrap y1.Lo)
/-- awardingbody awardingbodyref01.Size -/
noncomputable def ref01_Size (n : Int) : Option Int :=
  bif (decide (n < (0 : Int))) then
    bindV (IntKind.u64.wrap ((IntKind.u64.wrap (IntKind.i64.wrap (0 - (IntKind.i64.wrap (n + (1 : Int)))))) + (1 : Int))) fun v =>
    some v
  else
    some (IntKind.u64.wrap n)
end Go.LS
