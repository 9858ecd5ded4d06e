/-
  Plain functions that the program's functions compute. No condition: definitions, printed by dec.py.
-/
import Derived.Test.YtogfplnonlpmcaaD1
namespace Go.LS
set_option linter.all false
set_option linter.unusedSimpArgs false
set_option linter.unusedVariables false
set_option maxRecDepth 20000

/-- awardingbody ratio.Add -/
noncomputable def ratio_Add (a : api_Ratio) (b : api_Ratio) : Option (api_Ratio × Int) :=
  (ratio_Valid a).bind fun y =>
  req (((!(!y)) = true → (ratio_Valid b).isSome = true)) <|
  bif ((!y) || (!((ratio_Valid b).getD default))) then
    some ((api_Ratio.mk (0 : Int) (0 : Int)), (1 : Int))
  else
    (ratio_gcd (IntKind.u64.wrap a.Den) (IntKind.u64.wrap b.Den)).bind fun y1 =>
    req (y1 ≠ 0) <|
    (ratio_signedProduct a.Num (IntKind.u64.wrap (Int.tdiv (IntKind.u64.wrap b.Den) y1))).bind fun y2 =>
    req (y1 ≠ 0) <|
    (ratio_signedProduct b.Num (IntKind.u64.wrap (Int.tdiv (IntKind.u64.wrap a.Den) y1))).bind fun y3 =>
    (ratio_signed_plus y2 y3).bind fun y4 =>
    (ratio_wide_mod y4.abs y1).bind fun y5 =>
    (ratio_gcd y5 y1).bind fun y6 =>
    (ratio_wide_over y4.abs y6).bind fun y7 =>
    req (y1 ≠ 0 ∧ y6 ≠ 0) <|
    (ratio_product (IntKind.u64.wrap (Int.tdiv (IntKind.u64.wrap a.Den) y1)) (IntKind.u64.wrap (Int.tdiv (IntKind.u64.wrap b.Den) y6))).bind fun y8 =>
    (ratio_fitted y4.neg y7 y8).bind fun (y9, y10) =>
    some (y9, y10)
/-- awardingbody ratio.Less -/
noncomputable def ratio_Less (a : api_Ratio) (b : api_Ratio) : Option Bool :=
  (ratio_Compare a b).bind fun y =>
  some (y == (-1 : Int))
/-- awardingbody aggregate.Exact -/
noncomputable def aggregate_Exact (a : api_Award) (l : List api_UnitMark) (special : Int) : Option (api_Ratio × Int) :=
  (aggregate_checkMarks a l special).bind fun y =>
  bif (y != (0 : Int)) then
    some ((api_Ratio.mk (0 : Int) (0 : Int)), y)
  else
    (aggregate_has l (3 : Int)).bind fun y1 =>
    bif y1 then
      some ((api_Ratio.mk (0 : Int) (0 : Int)), (8 : Int))
    else
      (aggregate_has l (0 : Int)).bind fun y2 =>
      req (((!y2) = true → (aggregate_has l (1 : Int)).isSome = true)) <|
      bif ((!y2) && (!((aggregate_has l (1 : Int)).getD default))) then
        some ((api_Ratio.mk (0 : Int) (0 : Int)), (10 : Int))
      else
        (aggregate_scaled a l a.Max).bind fun (y3, y4) =>
        bif (y4 != (0 : Int)) then
          some ((api_Ratio.mk (0 : Int) (0 : Int)), y4)
        else
          (ratio_New (IntKind.i64.wrap (special * a.Max)) (1000 : Int)).bind fun (y5, y6) =>
          bif (y6 != (0 : Int)) then
            some ((api_Ratio.mk (0 : Int) (0 : Int)), y6)
          else
            (ratio_Add y3 y5).bind fun (y7, y8) =>
            bif (y8 != (0 : Int)) then
              some ((api_Ratio.mk (0 : Int) (0 : Int)), y8)
            else
              (ratio_Less (api_Ratio.mk a.Max (1 : Int)) y7).bind fun y9 =>
              bif y9 then
                some ((api_Ratio.mk a.Max (1 : Int)), (0 : Int))
              else
                some (y7, (0 : Int))
/-- awardingbody ratio.toRound -/
noncomputable def ratio_toRound (floor : Int) (rest : Int) (den : Int) : Option Int :=
  bif (decide ((IntKind.i64.wrap (den - rest)) ≤ rest)) then
    some (IntKind.i64.wrap (floor + (1 : Int)))
  else
    some floor
/-- awardingbody ratio.rounded -/
noncomputable def ratio_rounded_ratio_toRound_j1 (a : api_Ratio) (floor : Int) (rest : Int) : Option Int :=
  (ratio_toRound floor rest a.Den).bind fun y1 =>
  some y1
noncomputable def ratio_rounded_ratio_toRound (a : api_Ratio) : Option Int :=
  (ratio_Valid a).bind fun y =>
  bif (!y) then
    some (0 : Int)
  else
    req (a.Den ≠ 0) <|
    bif (decide ((Int.tmod a.Num a.Den) < (0 : Int))) then
      bindV (IntKind.i64.wrap ((IntKind.i64.wrap (Int.tdiv a.Num a.Den)) - (1 : Int))) fun floor1 =>
      ratio_rounded_ratio_toRound_j1 a floor1 (IntKind.i64.wrap ((Int.tmod a.Num a.Den) + a.Den))
    else
      ratio_rounded_ratio_toRound_j1 a (IntKind.i64.wrap (Int.tdiv a.Num a.Den)) (Int.tmod a.Num a.Den)
/-- awardingbody ratio.Round -/
noncomputable def ratio_Round (a : api_Ratio) : Option Int :=
  (ratio_rounded_ratio_toRound a).bind fun y =>
  some y
/-- awardingbody aggregate.Total -/
noncomputable def aggregate_Total (a : api_Award) (l : List api_UnitMark) (special : Int) : Option (Int × Int) :=
  (aggregate_Exact a l special).bind fun (y, y1) =>
  bif (y1 != (0 : Int)) then
    some ((0 : Int), y1)
  else
    (ratio_Round y).bind fun y2 =>
    some (y2, (0 : Int))
/-- awardingbody boundary.Grade -/
noncomputable def boundary_Grade_j1 (b : List Int) : Option Int :=
  some (b.length : Int)
noncomputable def boundary_Grade_l2 (b : List Int) (mark : Int) : Int → Option (Int ⊕ (Unit ⊕ Int)) :=
  fun v =>
    bif (decide (v < (b.length : Int))) then
      req ((0 ≤ v ∧ v < (b.length : Int))) <|
      bif (decide ((ix b v) ≤ mark)) then
        some (.inr (.inr v))
      else
        some (.inl (IntKind.i64.wrap (v + (1 : Int))))
    else
      some (.inr (.inl ()))
noncomputable def boundary_Grade (b : List Int) (mark : Int) : Option Int :=
  (iter (boundary_Grade_l2 b mark) (0 : Int)).bind fun x_ =>
  match x_ with
  | .inl () => boundary_Grade_j1 b
  | .inr t_ => some t_
/-- awardingbody aggregate.Decide -/
noncomputable def aggregate_Decide (a : api_Award) (l : List api_UnitMark) (special : Int) : Option (Int × Int × Int × Int) :=
  (aggregate_checkMarks a l special).bind fun y =>
  bif (y != (0 : Int)) then
    some ((0 : Int), (0 : Int), (0 : Int), y)
  else
    (aggregate_has l (3 : Int)).bind fun y1 =>
    bif y1 then
      some ((2 : Int), (0 : Int), (0 : Int), (0 : Int))
    else
      (aggregate_has l (0 : Int)).bind fun y2 =>
      bif (!y2) then
        some ((1 : Int), (0 : Int), (0 : Int), (0 : Int))
      else
        (aggregate_Total a l special).bind fun (y3, y4) =>
        bif (y4 != (0 : Int)) then
          some ((0 : Int), (0 : Int), (0 : Int), y4)
        else
          (boundary_Grade a.Bounds y3).bind fun y5 =>
          some ((0 : Int), y5, y3, (0 : Int))
/-- awardingbody aggregate.Estimate -/
noncomputable def aggregate_Estimate (a : api_Award) (l : List api_UnitMark) (unit : Int) : Option (api_Ratio × Int) :=
  bif ((decide (unit < (0 : Int))) || (decide ((a.Units.length : Int) ≤ unit))) then
    some ((api_Ratio.mk (0 : Int) (0 : Int)), (4 : Int))
  else
    (aggregate_Exact a l (0 : Int)).bind fun (y, y1) =>
    bif (y1 != (0 : Int)) then
      some ((api_Ratio.mk (0 : Int) (0 : Int)), y1)
    else
      req ((0 ≤ unit ∧ unit < (a.Units.length : Int))) <|
      (aggregate_scaled a l ((ix a.Units unit).Max)).bind fun (y2, y3) =>
      some (y2, y3)
/-- awardingbody awardingbodylaw36.sane -/
noncomputable def law36_sane  : Option Bool :=
  (law36_whole (25 : Int)).bind fun y =>
  (law36_whole (80 : Int)).bind fun y1 =>
  (aggregate_Total (api_Award.mk ([(api_Unit.mk (0 : Int) (60 : Int) (50 : Int)), (api_Unit.mk (1 : Int) (40 : Int) (100 : Int))]) ([(60 : Int), (50 : Int)]) (100 : Int)) ([(api_UnitMark.mk (0 : Int) y), (api_UnitMark.mk (0 : Int) y1)]) (0 : Int)).bind fun (y2, y3) =>
  req ((0 ≤ (0 : Int) ∧ (0 : Int) < (([(api_UnitMark.mk (0 : Int) y), (api_UnitMark.mk (0 : Int) y1)]).length : Int))) <|
  (law36_whole (0 : Int)).bind fun y4 =>
  (aggregate_Decide (api_Award.mk ([(api_Unit.mk (0 : Int) (60 : Int) (50 : Int)), (api_Unit.mk (1 : Int) (40 : Int) (100 : Int))]) ([(60 : Int), (50 : Int)]) (100 : Int)) ([(api_UnitMark.mk (0 : Int) y), (api_UnitMark.mk (2 : Int) y4)]) (0 : Int)).bind fun (y5, y6, y7, y8) =>
  req ((0 ≤ (0 : Int) ∧ (0 : Int) < (([(api_UnitMark.mk (0 : Int) y), (api_UnitMark.mk (0 : Int) y1)]).length : Int))) <|
  (law36_whole (0 : Int)).bind fun y9 =>
  (aggregate_Estimate (api_Award.mk ([(api_Unit.mk (0 : Int) (60 : Int) (50 : Int)), (api_Unit.mk (1 : Int) (40 : Int) (100 : Int))]) ([(60 : Int), (50 : Int)]) (100 : Int)) ([(api_UnitMark.mk (0 : Int) y), (api_UnitMark.mk (2 : Int) y9)]) (1 : Int)).bind fun (y10, y11) =>
  req (((((((((y3 == (0 : Int)) && (y8 == (0 : Int))) && (y11 == (0 : Int))) && (y2 == (62 : Int))) && (y5 == (0 : Int))) && (y6 == (1 : Int))) && (y7 == (50 : Int))) = true → (law36_whole (50 : Int)).isSome = true)) <|
  some ((((((((y3 == (0 : Int)) && (y8 == (0 : Int))) && (y11 == (0 : Int))) && (y2 == (62 : Int))) && (y5 == (0 : Int))) && (y6 == (1 : Int))) && (y7 == (50 : Int))) && ((y10.Num == ((law36_whole (50 : Int)).getD default).Num) && (y10.Den == ((law36_whole (50 : Int)).getD default).Den)))
/-- awardingbody awardingbodymark.Roll -/
noncomputable def mark_Roll (l : List Int) : Option mark_Dice :=
  some (mark_Dice.mk l (0 : Int))
/-- (ptr awardingbody awardingbodymark.Dice).Next -/
noncomputable def mark_Dice_Next_j1 (d : mark_Dice) (x : Int) : Option (Int × mark_Dice) :=
  some (x, (mark_Dice.mk d.L (IntKind.i64.wrap (d.At + (1 : Int)))))
noncomputable def mark_Dice_Next (d : mark_Dice) (n : Int) : Option (Int × mark_Dice) :=
  bif ((decide ((d.L.length : Int) ≤ d.At)) || (decide (n < (1 : Int)))) then
    some ((0 : Int), d)
  else
    req ((0 ≤ d.At ∧ d.At < (d.L.length : Int)) ∧ n ≠ 0) <|
    bif (decide ((Int.tmod (ix d.L d.At) n) < (0 : Int))) then
      mark_Dice_Next_j1 d (IntKind.i64.wrap ((Int.tmod (ix d.L d.At) n) + n))
    else
      mark_Dice_Next_j1 d (Int.tmod (ix d.L d.At) n)
/-- (ptr awardingbody awardingbodymark.Dice).Pick -/
noncomputable def mark_Dice_Pick (d : mark_Dice) (l : List Int) : Option (Int × mark_Dice) :=
  (mark_Dice_Next d (l.length : Int)).bind fun (y, y1) =>
  req ((0 ≤ y ∧ y < (l.length : Int))) <|
  some ((ix l y), y1)
/-- (ptr awardingbody awardingbodymark.Dice).Bounds -/
noncomputable def mark_Dice_Bounds_j1 (d1 : List Int) (d2 : Int) (out : List Int) : Option ((List Int) × mark_Dice) :=
  some (out, (mark_Dice.mk d1 d2))
noncomputable def mark_Dice_Bounds_l2  : (Int × Int × (List Int) × Int × (List Int)) → Option ((Int × Int × (List Int) × Int × (List Int)) ⊕ ((List Int) × Int × (List Int))) :=
  fun (b, i, d3, d4, out1) =>
    bif (decide ((0 : Int) < i)) then
      (mark_Dice_Next (mark_Dice.mk d3 d4) (IntKind.i64.wrap ((IntKind.i64.wrap (Int.tdiv b (2 : Int))) + (1 : Int)))).bind fun (y2, y3) =>
      req ((out1.length + ([(IntKind.i64.wrap (b - y2))]).length) * 8 ≤ 140737488355328) <|
      some (.inl ((IntKind.i64.wrap (b - y2)), (IntKind.i64.wrap (i - (1 : Int))), y3.L, y3.At, (out1 ++ [(IntKind.i64.wrap (b - y2))])))
    else
      some (.inr (d3, d4, out1))
noncomputable def mark_Dice_Bounds (d : mark_Dice) (most : Int) : Option ((List Int) × mark_Dice) :=
  (mark_Dice_Next d (4 : Int)).bind fun (y, y1) =>
  (iter (mark_Dice_Bounds_l2) ((IntKind.i64.wrap (most + (1 : Int))), (IntKind.i64.wrap ((1 : Int) + y)), y1.L, y1.At, ([] : List Int))).bind fun (d5, d6, out2) =>
  mark_Dice_Bounds_j1 d5 d6 out2
/-- (ptr awardingbody awardingbodymark.Dice).Award -/
noncomputable def mark_Dice_Award_j1 (y : Int) (d1 : List Int) (d2 : Int) (w : List api_Unit) : Option (api_Award × mark_Dice) :=
  (mark_Dice_Bounds (mark_Dice.mk d1 d2) y).bind fun (y2, y3) =>
  some ((api_Award.mk w y2 y), y3)
noncomputable def mark_Dice_Award_l2 (n : Int) : (Int × (List Int) × Int × (List api_Unit)) → Option ((Int × (List Int) × Int × (List api_Unit)) ⊕ ((List Int) × Int × (List api_Unit))) :=
  fun (i, d3, d4, w1) =>
    bif (decide (i < n)) then
      (mark_Dice_Pick (mark_Dice.mk d3 d4) ([(1 : Int), (2 : Int), (60 : Int), (40 : Int)])).bind fun (y4, y5) =>
      (mark_Dice_Pick y5 ([(10 : Int), (12 : Int), (50 : Int)])).bind fun (y6, y7) =>
      req ((w1.length + ([(api_Unit.mk i y4 y6)]).length) * 24 ≤ 140737488355328) <|
      some (.inl ((IntKind.i64.wrap (i + (1 : Int))), y7.L, y7.At, (w1 ++ [(api_Unit.mk i y4 y6)])))
    else
      some (.inr (d3, d4, w1))
noncomputable def mark_Dice_Award (d : mark_Dice) (n : Int) : Option (api_Award × mark_Dice) :=
  (mark_Dice_Pick d ([(100 : Int), (20 : Int), (60 : Int)])).bind fun (y, y1) =>
  (iter (mark_Dice_Award_l2 n) ((0 : Int), y1.L, y1.At, ([] : List api_Unit))).bind fun (d5, d6, w2) =>
  mark_Dice_Award_j1 y d5 d6 w2
/-- (ptr awardingbody awardingbodymark.Dice).Bool -/
noncomputable def mark_Dice_Bool (d : mark_Dice) (n : Int) : Option (Bool × mark_Dice) :=
  (mark_Dice_Next d n).bind fun (y, y1) =>
  some ((y == (IntKind.i64.wrap (n - (1 : Int)))), y1)
/-- (ptr awardingbody awardingbodymark.Dice).Marks -/
noncomputable def mark_Dice_Marks_j1 (d1 : List Int) (d2 : Int) (out : List api_UnitMark) : Option ((List api_UnitMark) × mark_Dice) :=
  some (out, (mark_Dice.mk d1 d2))
noncomputable def mark_Dice_Marks_j2 (i : Int) (out1 : List api_UnitMark) (y : Int) (d7 : List Int) (d8 : Int) (x : Int) (x1 : Int) : Option ((Int × (List Int) × Int × (List api_UnitMark)) ⊕ ((List Int) × Int × (List api_UnitMark))) :=
  req ((out1.length + ([(api_UnitMark.mk y (api_Ratio.mk x x1))]).length) * 24 ≤ 140737488355328) <|
  some (.inl ((IntKind.i64.wrap (i + (1 : Int))), d7, d8, (out1 ++ [(api_UnitMark.mk y (api_Ratio.mk x x1))])))
noncomputable def mark_Dice_Marks_l3 (a : api_Award) : (Int × (List Int) × Int × (List api_UnitMark)) → Option ((Int × (List Int) × Int × (List api_UnitMark)) ⊕ ((List Int) × Int × (List api_UnitMark))) :=
  fun (i, d3, d4, out1) =>
    bif (decide (i < (a.Units.length : Int))) then
      (mark_Dice_Pick (mark_Dice.mk d3 d4) ([(0 : Int), (0 : Int), (0 : Int), (1 : Int), (2 : Int), (3 : Int), (0 : Int), (0 : Int)])).bind fun (y, y1) =>
      bif (y == (0 : Int)) then
        req ((0 ≤ i ∧ i < (a.Units.length : Int))) <|
        (mark_Dice_Next y1 (IntKind.i64.wrap ((ix a.Units i).Max + (1 : Int)))).bind fun (y2, y3) =>
        bif (((Int.tmod y2 (2 : Int)) == (1 : Int)) && (decide (y2 < (ix a.Units i).Max))) then
          req ((((Int.tmod y2 (2 : Int)) == (1 : Int)) = true → 0 ≤ i ∧ i < (a.Units.length : Int))) <|
          (mark_Dice_Bool y3 (3 : Int)).bind fun (y4, y5) =>
          bif y4 then
            mark_Dice_Marks_j2 i out1 y y5.L y5.At y2 (2 : Int)
          else
            mark_Dice_Marks_j2 i out1 y y5.L y5.At y2 (1 : Int)
        else
          req ((((Int.tmod y2 (2 : Int)) == (1 : Int)) = true → 0 ≤ i ∧ i < (a.Units.length : Int))) <|
          mark_Dice_Marks_j2 i out1 y y3.L y3.At y2 (1 : Int)
      else
        mark_Dice_Marks_j2 i out1 y y1.L y1.At (0 : Int) (1 : Int)
    else
      some (.inr (d3, d4, out1))
noncomputable def mark_Dice_Marks (d : mark_Dice) (a : api_Award) : Option ((List api_UnitMark) × mark_Dice) :=
  (iter (mark_Dice_Marks_l3 a) ((0 : Int), d.L, d.At, ([] : List api_UnitMark))).bind fun (d5, d6, out2) =>
  mark_Dice_Marks_j1 d5 d6 out2
/-- awardingbody awardingbodyref01.Size -/
noncomputable def ref01_Size (n : Int) : Option Int :=
  bif (decide (n < (0 : Int))) then
    bindV (IntKind.u64.wrap ((IntKind.u64.wrap (IntKind.i64.wrap (0 - (IntKind.i64.wrap (n + (1 : Int)))))) + (1 : Int))) fun v =>
    some v
  else
    some (IntKind.u64.wrap n)
/-- awardingbody awardingbodyref01.Order -/
noncomputable def ref01_Order (a : ref01_Wide) (b : ref01_Wide) : Option Int :=
  bif ((decide (a.Hi < b.Hi)) || ((a.Hi == b.Hi) && (decide (a.Lo < b.Lo)))) then
    some (-1 : Int)
  else
    bif ((a.Hi == b.Hi) && (a.Lo == b.Lo)) then
      some (0 : Int)
    else
      some (1 : Int)
/-- awardingbody awardingbodyref01.Minus -/
noncomputable def ref01_Minus (a : ref01_Wide) (b : ref01_Wide) : Option ref01_Wide :=
  (bits_Sub64 a.Lo b.Lo (0 : Int)).bind fun (y, y1) =>
  (bits_Sub64 a.Hi b.Hi y1).bind fun (y2, y3) =>
  some (ref01_Wide.mk y2 y)
/-- awardingbody awardingbodyref01.Twice -/
noncomputable def ref01_Twice (a : ref01_Wide) : Option ref01_Wide :=
  some (ref01_Wide.mk (bOr .u64 (bShl .u64 a.Hi (1 : Int)) (bShr .u64 a.Lo (63 : Int))) (bShl .u64 a.Lo (1 : Int)))
/-- awardingbody awardingbodyref01.Divide -/
noncomputable def ref01_Divide_j1 (q : Int) (q1 : Int) (r : Int) (r1 : Int) : Option (ref01_Wide × ref01_Wide) :=
  some ((ref01_Wide.mk q q1), (ref01_Wide.mk r r1))
noncomputable def ref01_Divide_j2 (i : Int) (q6 : Int) (q7 : Int) (r6 : Int) (r7 : Int) : Option ((Int × Int × Int × Int × Int) ⊕ (Int × Int × Int × Int)) :=
  some (.inl ((IntKind.i64.wrap (i - (1 : Int))), q6, q7, r6, r7))
noncomputable def ref01_Divide_j3 (b : ref01_Wide) (i : Int) (q2 : Int) (q3 : Int) (r2 : Int) (r3 : Int) (bit1 : Int) : Option ((Int × Int × Int × Int × Int) ⊕ (Int × Int × Int × Int)) :=
  (ref01_Twice (ref01_Wide.mk r2 r3)).bind fun y =>
  (ref01_Twice (ref01_Wide.mk q2 q3)).bind fun y1 =>
  req (((!((bShr .u64 r2 (63 : Int)) == (1 : Int))) = true → (ref01_Order (ref01_Wide.mk y.Hi (bOr .u64 y.Lo bit1)) b).isSome = true)) <|
  bif (((bShr .u64 r2 (63 : Int)) == (1 : Int)) || (decide ((0 : Int) ≤ ((ref01_Order (ref01_Wide.mk y.Hi (bOr .u64 y.Lo bit1)) b).getD default)))) then
    (ref01_Minus (ref01_Wide.mk y.Hi (bOr .u64 y.Lo bit1)) b).bind fun y2 =>
    ref01_Divide_j2 i y1.Hi (bOr .u64 y1.Lo (1 : Int)) y2.Hi y2.Lo
  else
    ref01_Divide_j2 i y1.Hi y1.Lo y.Hi (bOr .u64 y.Lo bit1)
noncomputable def ref01_Divide_l4 (a : ref01_Wide) (b : ref01_Wide) : (Int × Int × Int × Int × Int) → Option ((Int × Int × Int × Int × Int) ⊕ (Int × Int × Int × Int)) :=
  fun (i, q2, q3, r2, r3) =>
    bif (decide ((0 : Int) ≤ i)) then
      req (0 ≤ (IntKind.u64.wrap (Int.tmod i (64 : Int)))) <|
      bindV (bAnd .u64 (bShr .u64 a.Lo (IntKind.u64.wrap (Int.tmod i (64 : Int)))) (1 : Int)) fun bit =>
      bif (decide ((64 : Int) ≤ i)) then
        req (0 ≤ (IntKind.u64.wrap (IntKind.i64.wrap (i - (64 : Int))))) <|
        bindV (bAnd .u64 (bShr .u64 a.Hi (IntKind.u64.wrap (IntKind.i64.wrap (i - (64 : Int))))) (1 : Int)) fun bit2 =>
        ref01_Divide_j3 b i q2 q3 r2 r3 bit2
      else
        ref01_Divide_j3 b i q2 q3 r2 r3 bit
    else
      some (.inr (q2, q3, r2, r3))
noncomputable def ref01_Divide (a : ref01_Wide) (b : ref01_Wide) : Option (ref01_Wide × ref01_Wide) :=
  bif ((a.Hi == (0 : Int)) && (b.Hi == (0 : Int))) then
    req (b.Lo ≠ 0) <|
    some ((ref01_Wide.mk (0 : Int) (IntKind.u64.wrap (Int.tdiv a.Lo b.Lo))), (ref01_Wide.mk (0 : Int) (Int.tmod a.Lo b.Lo)))
  else
    (iter (ref01_Divide_l4 a b) ((127 : Int), (0 : Int), (0 : Int), (0 : Int), (0 : Int))).bind fun (q4, q5, r4, r5) =>
    ref01_Divide_j1 q4 q5 r4 r5
/-- awardingbody awardingbodyref01.Divisor -/
noncomputable def ref01_Divisor_j1 (a1 : Int) (a2 : Int) : Option ref01_Wide :=
  some (ref01_Wide.mk a1 a2)
noncomputable def ref01_Divisor_l2  : (Int × Int × Int × Int) → Option ((Int × Int × Int × Int) ⊕ (Int × Int)) :=
  fun (a3, a4, b1, b2) =>
    bif (!((b1 == (0 : Int)) && (b2 == (0 : Int)))) then
      (ref01_Divide (ref01_Wide.mk a3 a4) (ref01_Wide.mk b1 b2)).bind fun (y, y1) =>
      some (.inl (b1, b2, y1.Hi, y1.Lo))
    else
      some (.inr (a3, a4))
noncomputable def ref01_Divisor (a : ref01_Wide) (b : ref01_Wide) : Option ref01_Wide :=
  (iter (ref01_Divisor_l2) (a.Hi, a.Lo, b.Hi, b.Lo)).bind fun (a5, a6) =>
  ref01_Divisor_j1 a5 a6
/-- awardingbody awardingbodyref01.Valid -/
noncomputable def ref01_Valid (a : api_Ratio) : Option Bool :=
  bif ((((decide (a.Den < (1 : Int))) || (decide ((1152921504606846976 : Int) < a.Den))) || (decide (a.Num < (-1152921504606846976 : Int)))) || (decide ((1152921504606846976 : Int) < a.Num))) then
    some false
  else
    (ref01_Size a.Num).bind fun y =>
    (ref01_Size a.Den).bind fun y1 =>
    (ref01_Divisor (ref01_Wide.mk (0 : Int) y) (ref01_Wide.mk (0 : Int) y1)).bind fun y2 =>
    some ((y2.Hi == (0 : Int)) && (y2.Lo == (1 : Int)))
/-- awardingbody awardingbodyref01.floor -/
noncomputable def ref01_floor_j1 (q : Int) : Option Int :=
  some q
noncomputable def ref01_floor (n : Int) (d : Int) : Option Int :=
  req (d ≠ 0) <|
  req (d ≠ 0) <|
  bif (decide ((Int.tmod n d) < (0 : Int))) then
    ref01_floor_j1 (IntKind.i64.wrap ((IntKind.i64.wrap (Int.tdiv n d)) - (1 : Int)))
  else
    ref01_floor_j1 (IntKind.i64.wrap (Int.tdiv n d))
/-- awardingbody awardingbodyref01.Ceil -/
noncomputable def ref01_Ceil (a : api_Ratio) : Option Int :=
  (ref01_Valid a).bind fun y =>
  bif (!y) then
    some (0 : Int)
  else
    (ref01_floor (IntKind.i64.wrap (0 - a.Num)) a.Den).bind fun y1 =>
    some (IntKind.i64.wrap (0 - y1))
/-- awardingbody awardingbodylaw36.AggregateRises -/
noncomputable def law36_AggregateRises_j1 (m : Int) (y5 : api_Award) (y7 : List api_UnitMark) (y9 : Int) (y10 : Int) (y11 : Int) (w : List api_UnitMark) : Option Bool :=
  (aggregate_Decide y5 w (10 : Int)).bind fun (y13, y14, y15, y16) =>
  (aggregate_Decide y5 y7 (IntKind.i64.wrap ((10 : Int) + (IntKind.i64.wrap (Int.tmod m (30 : Int)))))).bind fun (y17, y18, y19, y20) =>
  bif ((((y16 != (0 : Int)) || (y20 != (0 : Int))) || (y13 != y9)) || (y17 != y9)) then
    some false
  else
    req ((((((((((y9 == (0 : Int)) && (decide ((0 : Int) ≤ y11))) && (decide (y11 ≤ y5.Max))) && (decide (y11 ≤ y15))) && (decide (y11 ≤ y19))) && (decide (y14 ≤ y10))) && (decide (y18 ≤ y10))) || (((y9 != (0 : Int)) && (y11 == (0 : Int))) && (y10 == (0 : Int)))) = true → (law36_sane).isSome = true)) <|
    some (((((((((y9 == (0 : Int)) && (decide ((0 : Int) ≤ y11))) && (decide (y11 ≤ y5.Max))) && (decide (y11 ≤ y15))) && (decide (y11 ≤ y19))) && (decide (y14 ≤ y10))) && (decide (y18 ≤ y10))) || (((y9 != (0 : Int)) && (y11 == (0 : Int))) && (y10 == (0 : Int)))) && ((law36_sane).getD default))
noncomputable def law36_AggregateRises (t : List Int) (n : Int) (m : Int) : Option Bool :=
  (mark_Light t).bind fun y =>
  bif (!y) then
    (law36_sane).bind fun y1 =>
    some y1
  else
    (mark_Roll t).bind fun y2 =>
    (mark_Dice_Next y2 (4 : Int)).bind fun (y3, y4) =>
    (mark_Dice_Award y4 (IntKind.i64.wrap ((1 : Int) + y3))).bind fun (y5, y6) =>
    (mark_Dice_Marks y6 y5).bind fun (y7, y8) =>
    (aggregate_Decide y5 y7 (10 : Int)).bind fun (y9, y10, y11, y12) =>
    bif (y12 != (0 : Int)) then
      some false
    else
      req ((y7.length : Int) ≠ 0) <|
      req (y7.length * 24 ≤ 140737488355328) <|
      req ((0 ≤ (Int.tmod (IntKind.i64.wrap n) (y7.length : Int)) ∧ (Int.tmod (IntKind.i64.wrap n) (y7.length : Int)) < (y7.length : Int))) <|
      bif ((ix y7 (Int.tmod (IntKind.i64.wrap n) (y7.length : Int))).Kind == (0 : Int)) then
        req ((0 ≤ (Int.tmod (IntKind.i64.wrap n) (y7.length : Int)) ∧ (Int.tmod (IntKind.i64.wrap n) (y7.length : Int)) < (y5.Units.length : Int)) ∧ (0 ≤ (Int.tmod (IntKind.i64.wrap n) (y7.length : Int)) ∧ (Int.tmod (IntKind.i64.wrap n) (y7.length : Int)) < (y7.length : Int))) <|
        (ref01_Ceil ((ix y7 (Int.tmod (IntKind.i64.wrap n) (y7.length : Int))).Value)).bind fun y21 =>
        (law36_whole (imin ((ix y5.Units (Int.tmod (IntKind.i64.wrap n) (y7.length : Int))).Max) (IntKind.i64.wrap (y21 + (IntKind.i64.wrap (Int.tmod m (5 : Int))))))).bind fun y22 =>
        req ((0 ≤ (Int.tmod (IntKind.i64.wrap n) (y7.length : Int)) ∧ (Int.tmod (IntKind.i64.wrap n) (y7.length : Int)) < (y7.length : Int))) <|
        bindV (setI y7 (Int.tmod (IntKind.i64.wrap n) (y7.length : Int)) (api_UnitMark.mk ((ix y7 (Int.tmod (IntKind.i64.wrap n) (y7.length : Int))).Kind) y22)) fun w1 =>
        law36_AggregateRises_j1 m y5 y7 y9 y10 y11 w1
      else
        law36_AggregateRises_j1 m y5 y7 y9 y10 y11 y7
/-- awardingbody awardingbodylaw36.AggregateOrder -/
noncomputable def law36_AggregateOrder_j1 (y5 : api_Award) (y7 : List api_UnitMark) (back : List api_UnitMark) (w : List api_Unit) (w1 : List api_Unit) : Option Bool :=
  (aggregate_Exact y5 y7 (20 : Int)).bind fun (y9, y10) =>
  (aggregate_Exact (api_Award.mk w y5.Bounds y5.Max) back (20 : Int)).bind fun (y11, y12) =>
  (aggregate_Exact (api_Award.mk w1 y5.Bounds y5.Max) y7 (20 : Int)).bind fun (y13, y14) =>
  req ((((((y10 == y12) && (y10 == y14)) && ((y9.Num == y11.Num) && (y9.Den == y11.Den))) && ((y9.Num == y13.Num) && (y9.Den == y13.Den))) = true → (law36_sane).isSome = true)) <|
  some (((((y10 == y12) && (y10 == y14)) && ((y9.Num == y11.Num) && (y9.Den == y11.Den))) && ((y9.Num == y13.Num) && (y9.Den == y13.Den))) && ((law36_sane).getD default))
noncomputable def law36_AggregateOrder_l2 (k : Int) (y5 : api_Award) : (Int × (List api_Unit)) → Option ((Int × (List api_Unit)) ⊕ (List api_Unit)) :=
  fun (v, w2) =>
    bif (decide (v < (y5.Units.length : Int))) then
      req ((0 ≤ v ∧ v < (y5.Units.length : Int))) <|
      bindV (IntKind.i64.wrap ((ix y5.Units v).Weight * (IntKind.i64.wrap ((1 : Int) + (IntKind.i64.wrap (Int.tmod k (10 : Int))))))) fun u =>
      req ((w2.length + ([(api_Unit.mk ((ix y5.Units v).Paper) u ((ix y5.Units v).Max))]).length) * 24 ≤ 140737488355328) <|
      bindV (w2 ++ [(api_Unit.mk ((ix y5.Units v).Paper) u ((ix y5.Units v).Max))]) fun w4 =>
      some (.inl ((IntKind.i64.wrap (v + (1 : Int))), w4))
    else
      some (.inr w2)
noncomputable def law36_AggregateOrder_j3 (k : Int) (y5 : api_Award) (y7 : List api_UnitMark) (back : List api_UnitMark) (w : List api_Unit) : Option Bool :=
  (iter (law36_AggregateOrder_l2 k y5) ((0 : Int), ([] : List api_Unit))).bind fun w3 =>
  law36_AggregateOrder_j1 y5 y7 back w w3
noncomputable def law36_AggregateOrder_l4 (y5 : api_Award) (y7 : List api_UnitMark) : (Int × (List api_UnitMark) × (List api_Unit)) → Option ((Int × (List api_UnitMark) × (List api_Unit)) ⊕ ((List api_UnitMark) × (List api_Unit))) :=
  fun (i, back1, w5) =>
    bif (decide ((0 : Int) ≤ i)) then
      req ((0 ≤ i ∧ i < (y5.Units.length : Int))) <|
      req ((w5.length + ([(api_Unit.mk (IntKind.i64.wrap ((10 : Int) + (w5.length : Int))) ((ix y5.Units i).Weight) ((ix y5.Units i).Max))]).length) * 24 ≤ 140737488355328 ∧ (0 ≤ i ∧ i < (y7.length : Int)) ∧ (back1.length + ([(api_UnitMark.mk ((ix y7 i).Kind) ((ix y7 i).Value))]).length) * 24 ≤ 140737488355328) <|
      bindV (w5 ++ [(api_Unit.mk (IntKind.i64.wrap ((10 : Int) + (w5.length : Int))) ((ix y5.Units i).Weight) ((ix y5.Units i).Max))]) fun w7 =>
      some (.inl ((IntKind.i64.wrap (i - (1 : Int))), (back1 ++ [(api_UnitMark.mk ((ix y7 i).Kind) ((ix y7 i).Value))]), w7))
    else
      some (.inr (back1, w5))
noncomputable def law36_AggregateOrder (t : List Int) (k : Int) : Option Bool :=
  (mark_Light t).bind fun y =>
  bif (!y) then
    (law36_sane).bind fun y1 =>
    some y1
  else
    (mark_Roll t).bind fun y2 =>
    (mark_Dice_Next y2 (4 : Int)).bind fun (y3, y4) =>
    (mark_Dice_Award y4 (IntKind.i64.wrap ((1 : Int) + y3))).bind fun (y5, y6) =>
    (mark_Dice_Marks y6 y5).bind fun (y7, y8) =>
    (iter (law36_AggregateOrder_l4 y5 y7) ((IntKind.i64.wrap ((y7.length : Int) - (1 : Int))), ([] : List api_UnitMark), ([] : List api_Unit))).bind fun (back2, w6) =>
    law36_AggregateOrder_j3 k y5 y7 back2 w6
/-- awardingbody awardingbodylaw36.AggregateEstimates -/
noncomputable def law36_AggregateEstimates (t : List Int) (n : Int) : Option Bool :=
  (mark_Light t).bind fun y =>
  bif (!y) then
    (law36_sane).bind fun y1 =>
    some y1
  else
    (mark_Roll t).bind fun y2 =>
    (mark_Dice_Next y2 (4 : Int)).bind fun (y3, y4) =>
    (mark_Dice_Award y4 (IntKind.i64.wrap ((1 : Int) + y3))).bind fun (y5, y6) =>
    (mark_Dice_Marks y6 y5).bind fun (y7, y8) =>
    req ((y7.length : Int) ≠ 0) <|
    (law36_whole (0 : Int)).bind fun y9 =>
    req ((0 ≤ (Int.tmod (IntKind.i64.wrap n) (y7.length : Int)) ∧ (Int.tmod (IntKind.i64.wrap n) (y7.length : Int)) < (y7.length : Int))) <|
    bindV (setI y7 (Int.tmod (IntKind.i64.wrap n) (y7.length : Int)) (api_UnitMark.mk (2 : Int) y9)) fun w =>
    (aggregate_Exact y5 w (0 : Int)).bind fun (y10, y11) =>
    (aggregate_Estimate y5 w (Int.tmod (IntKind.i64.wrap n) (y7.length : Int))).bind fun (y12, y13) =>
    bif ((y11 != (0 : Int)) || (y13 != (0 : Int))) then
      req ((((y11 == y13) && ((y11 == (8 : Int)) || (y11 == (10 : Int)))) = true → (law36_sane).isSome = true)) <|
      some (((y11 == y13) && ((y11 == (8 : Int)) || (y11 == (10 : Int)))) && ((law36_sane).getD default))
    else
      req (w.length * 24 ≤ 140737488355328) <|
      req ((0 ≤ (Int.tmod (IntKind.i64.wrap n) (y7.length : Int)) ∧ (Int.tmod (IntKind.i64.wrap n) (y7.length : Int)) < (w.length : Int))) <|
      bindV (setI w (Int.tmod (IntKind.i64.wrap n) (y7.length : Int)) (api_UnitMark.mk (0 : Int) y12)) fun w1 =>
      (aggregate_Exact y5 w1 (0 : Int)).bind fun (y14, y15) =>
      req ((((y15 == (0 : Int)) && ((y14.Num == y10.Num) && (y14.Den == y10.Den))) = true → (law36_sane).isSome = true)) <|
      some (((y15 == (0 : Int)) && ((y14.Num == y10.Num) && (y14.Den == y10.Den))) && ((law36_sane).getD default))
end Go.LS
