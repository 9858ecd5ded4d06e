/-
  Plain functions that the program's functions compute. No condition: definitions, printed by dec.py.
-/
import Derived.Test.YtogfplnonlpmcaaD0
namespace Go.LS
set_option linter.all false
set_option linter.unusedSimpArgs false
set_option linter.unusedVariables false
set_option maxRecDepth 20000

/-- awardingbody awardingbodymark.Light -/
noncomputable def mark_Light (l : List Int) : Option Bool :=
  some (decide ((l.length : Int) ≤ (600 : Int)))
/-- awardingbody awardingbodymark.Roll -/
noncomputable def mark_Roll (l : List Int) : Option mark_Dice :=
  some (mark_Dice.mk l (0 : Int))
/-- (ptr awardingbody awardingbodymark.Dice).Next -/
noncomputable def mark_Dice_Next_j1 (d : mark_Dice) (x : Int) : Option (Int × mark_Dice) :=
  some (x, (mark_Dice.mk d.L (IntKind.i64.wrap (d.At + (1 : Int)))))
noncomputable def mark_Dice_Next (d : mark_Dice) (n : Int) : Option (Int × mark_Dice) :=
  bif ((decide ((d.L.length : Int) ≤ d.At)) || (decide (n < (1 : Int)))) then
    some ((0 : Int), d)
  else
    req ((0 ≤ d.At ∧ d.At < (d.L.length : Int)) ∧ n ≠ 0) <|
    bif (decide ((Int.tmod (ix d.L d.At) n) < (0 : Int))) then
      mark_Dice_Next_j1 d (IntKind.i64.wrap ((Int.tmod (ix d.L d.At) n) + n))
    else
      mark_Dice_Next_j1 d (Int.tmod (ix d.L d.At) n)
/-- (ptr awardingbody awardingbodymark.Dice).Pick -/
noncomputable def mark_Dice_Pick (d : mark_Dice) (l : List Int) : Option (Int × mark_Dice) :=
  (mark_Dice_Next d (l.length : Int)).bind fun (y, y1) =>
  req ((0 ≤ y ∧ y < (l.length : Int))) <|
  some ((ix l y), y1)
/-- (ptr awardingbody awardingbodymark.Dice).Bounds -/
noncomputable def mark_Dice_Bounds_j1 (d1 : List Int) (d2 : Int) (out : List Int) : Option ((List Int) × mark_Dice) :=
  some (out, (mark_Dice.mk d1 d2))
noncomputable def mark_Dice_Bounds_l2  : (Int × Int × (List Int) × Int × (List Int)) → Option ((Int × Int × (List Int) × Int × (List Int)) ⊕ ((List Int) × Int × (List Int))) :=
  fun (b, i, d3, d4, out1) =>
    bif (decide ((0 : Int) < i)) then
      (mark_Dice_Next (mark_Dice.mk d3 d4) (IntKind.i64.wrap ((IntKind.i64.wrap (Int.tdiv b (2 : Int))) + (1 : Int)))).bind fun (y2, y3) =>
      req ((out1.length + ([(IntKind.i64.wrap (b - y2))]).length) * 8 ≤ 140737488355328) <|
      some (.inl ((IntKind.i64.wrap (b - y2)), (IntKind.i64.wrap (i - (1 : Int))), y3.L, y3.At, (out1 ++ [(IntKind.i64.wrap (b - y2))])))
    else
      some (.inr (d3, d4, out1))
noncomputable def mark_Dice_Bounds (d : mark_Dice) (most : Int) : Option ((List Int) × mark_Dice) :=
  (mark_Dice_Next d (4 : Int)).bind fun (y, y1) =>
  (iter (mark_Dice_Bounds_l2) ((IntKind.i64.wrap (most + (1 : Int))), (IntKind.i64.wrap ((1 : Int) + y)), y1.L, y1.At, ([] : List Int))).bind fun (d5, d6, out2) =>
  mark_Dice_Bounds_j1 d5 d6 out2
/-- (ptr awardingbody awardingbodymark.Dice).Award -/
noncomputable def mark_Dice_Award_j1 (y : Int) (d1 : List Int) (d2 : Int) (w : List api_Unit) : Option (api_Award × mark_Dice) :=
  (mark_Dice_Bounds (mark_Dice.mk d1 d2) y).bind fun (y2, y3) =>
  some ((api_Award.mk w y2 y), y3)
noncomputable def mark_Dice_Award_l2 (n : Int) : (Int × (List Int) × Int × (List api_Unit)) → Option ((Int × (List Int) × Int × (List api_Unit)) ⊕ ((List Int) × Int × (List api_Unit))) :=
  fun (i, d3, d4, w1) =>
    bif (decide (i < n)) then
      (mark_Dice_Pick (mark_Dice.mk d3 d4) ([(1 : Int), (2 : Int), (60 : Int), (40 : Int)])).bind fun (y4, y5) =>
      (mark_Dice_Pick y5 ([(10 : Int), (12 : Int), (50 : Int)])).bind fun (y6, y7) =>
      req ((w1.length + ([(api_Unit.mk i y4 y6)]).length) * 24 ≤ 140737488355328) <|
      some (.inl ((IntKind.i64.wrap (i + (1 : Int))), y7.L, y7.At, (w1 ++ [(api_Unit.mk i y4 y6)])))
    else
      some (.inr (d3, d4, w1))
noncomputable def mark_Dice_Award (d : mark_Dice) (n : Int) : Option (api_Award × mark_Dice) :=
  (mark_Dice_Pick d ([(100 : Int), (20 : Int), (60 : Int)])).bind fun (y, y1) =>
  (iter (mark_Dice_Award_l2 n) ((0 : Int), y1.L, y1.At, ([] : List api_Unit))).bind fun (d5, d6, w2) =>
  mark_Dice_Award_j1 y d5 d6 w2
/-- awardingbody awardingbodyref36.in -/
noncomputable def ref36_in (n : Int) (lo : Int) (hi : Int) : Option Bool :=
  some ((decide (lo ≤ n)) && (decide (n ≤ hi)))
/-- awardingbody awardingbodyref35.Check -/
noncomputable def ref35_Check_j1  : Option Int :=
  some (0 : Int)
noncomputable def ref35_Check_l2 (b : List Int) : Int → Option (Int ⊕ (Unit ⊕ Int)) :=
  fun i =>
    bif (decide (i < (b.length : Int))) then
      req ((0 ≤ i ∧ i < (b.length : Int)) ∧ (0 ≤ (IntKind.i64.wrap (i - (1 : Int))) ∧ (IntKind.i64.wrap (i - (1 : Int))) < (b.length : Int))) <|
      bif (decide ((ix b (IntKind.i64.wrap (i - (1 : Int)))) < (ix b i))) then
        some (.inr (.inr (43 : Int)))
      else
        some (.inl (IntKind.i64.wrap (i + (1 : Int))))
    else
      some (.inr (.inl ()))
noncomputable def ref35_Check_j3 (b : List Int) : Option Int :=
  (iter (ref35_Check_l2 b) (1 : Int)).bind fun x_ =>
  match x_ with
  | .inl () => ref35_Check_j1
  | .inr t_ => some t_
noncomputable def ref35_Check_l4 (b : List Int) (most : Int) : Int → Option (Int ⊕ (Unit ⊕ Int)) :=
  fun i1 =>
    bif (decide (i1 < (b.length : Int))) then
      req ((0 ≤ i1 ∧ i1 < (b.length : Int)) ∧ ((!(decide ((ix b i1) < (0 : Int)))) = true → 0 ≤ i1 ∧ i1 < (b.length : Int))) <|
      bif ((decide ((ix b i1) < (0 : Int))) || (decide ((IntKind.i64.wrap (most + (1 : Int))) < (ix b i1)))) then
        some (.inr (.inr (2 : Int)))
      else
        some (.inl (IntKind.i64.wrap (i1 + (1 : Int))))
    else
      some (.inr (.inl ()))
noncomputable def ref35_Check (b : List Int) (most : Int) : Option Int :=
  bif ((decide (most < (0 : Int))) || (decide ((200 : Int) < most))) then
    some (2 : Int)
  else
    bif (((b.length : Int) == (0 : Int)) || (decide ((9 : Int) < (b.length : Int)))) then
      some (3 : Int)
    else
      (iter (ref35_Check_l4 b most) (0 : Int)).bind fun x_ =>
      match x_ with
      | .inl () => ref35_Check_j3 b
      | .inr t_ => some t_
/-- awardingbody awardingbodyref36.Check -/
noncomputable def ref36_Check_j1 (a : api_Award) : Option Int :=
  (ref36_in a.Max (1 : Int) (200 : Int)).bind fun y =>
  bif (!y) then
    some (2 : Int)
  else
    (ref35_Check a.Bounds a.Max).bind fun y1 =>
    some y1
noncomputable def ref36_Check_l2 (a : api_Award) : Int → Option (Int ⊕ (Unit ⊕ Int)) :=
  fun i =>
    bif (decide (i < (a.Units.length : Int))) then
      req ((0 ≤ i ∧ i < (a.Units.length : Int))) <|
      (ref36_in ((ix a.Units i).Paper) (0 : Int) (31 : Int)).bind fun y2 =>
      req (((!(!y2)) = true → (ref36_in ((ix a.Units i).Weight) (1 : Int) (1000 : Int)).isSome = true) ∧ ((!((!y2) || (!((ref36_in ((ix a.Units i).Weight) (1 : Int) (1000 : Int)).getD default)))) = true → (ref36_in ((ix a.Units i).Max) (1 : Int) (200 : Int)).isSome = true)) <|
      bif (((!y2) || (!((ref36_in ((ix a.Units i).Weight) (1 : Int) (1000 : Int)).getD default))) || (!((ref36_in ((ix a.Units i).Max) (1 : Int) (200 : Int)).getD default))) then
        some (.inr (.inr (2 : Int)))
      else
        req (((decide ((0 : Int) < i)) = true → 0 ≤ (IntKind.i64.wrap (i - (1 : Int))) ∧ (IntKind.i64.wrap (i - (1 : Int))) < (a.Units.length : Int))) <|
        bif ((decide ((0 : Int) < i)) && (decide ((ix a.Units i).Paper ≤ (ix a.Units (IntKind.i64.wrap (i - (1 : Int)))).Paper))) then
          some (.inr (.inr (43 : Int)))
        else
          some (.inl (IntKind.i64.wrap (i + (1 : Int))))
    else
      some (.inr (.inl ()))
noncomputable def ref36_Check (a : api_Award) : Option Int :=
  bif (((a.Units.length : Int) == (0 : Int)) || (decide ((6 : Int) < (a.Units.length : Int)))) then
    some (3 : Int)
  else
    (iter (ref36_Check_l2 a) (0 : Int)).bind fun x_ =>
    match x_ with
    | .inl () => ref36_Check_j1 a
    | .inr t_ => some t_
/-- awardingbody awardingbodyref01.Size -/
noncomputable def ref01_Size (n : Int) : Option Int :=
  bif (decide (n < (0 : Int))) then
    bindV (IntKind.u64.wrap ((IntKind.u64.wrap (IntKind.i64.wrap (0 - (IntKind.i64.wrap (n + (1 : Int)))))) + (1 : Int))) fun v =>
    some v
  else
    some (IntKind.u64.wrap n)
/-- awardingbody awardingbodyref01.Order -/
noncomputable def ref01_Order (a : ref01_Wide) (b : ref01_Wide) : Option Int :=
  bif ((decide (a.Hi < b.Hi)) || ((a.Hi == b.Hi) && (decide (a.Lo < b.Lo)))) then
    some (-1 : Int)
  else
    bif ((a.Hi == b.Hi) && (a.Lo == b.Lo)) then
      some (0 : Int)
    else
      some (1 : Int)
/-- awardingbody awardingbodyref01.Minus -/
noncomputable def ref01_Minus (a : ref01_Wide) (b : ref01_Wide) : Option ref01_Wide :=
  (bits_Sub64 a.Lo b.Lo (0 : Int)).bind fun (y, y1) =>
  (bits_Sub64 a.Hi b.Hi y1).bind fun (y2, y3) =>
  some (ref01_Wide.mk y2 y)
/-- awardingbody awardingbodyref01.Twice -/
noncomputable def ref01_Twice (a : ref01_Wide) : Option ref01_Wide :=
  some (ref01_Wide.mk (bOr .u64 (bShl .u64 a.Hi (1 : Int)) (bShr .u64 a.Lo (63 : Int))) (bShl .u64 a.Lo (1 : Int)))
/-- awardingbody awardingbodyref01.Divide -/
noncomputable def ref01_Divide_j1 (q : Int) (q1 : Int) (r : Int) (r1 : Int) : Option (ref01_Wide × ref01_Wide) :=
  some ((ref01_Wide.mk q q1), (ref01_Wide.mk r r1))
noncomputable def ref01_Divide_j2 (i : Int) (q6 : Int) (q7 : Int) (r6 : Int) (r7 : Int) : Option ((Int × Int × Int × Int × Int) ⊕ (Int × Int × Int × Int)) :=
  some (.inl ((IntKind.i64.wrap (i - (1 : Int))), q6, q7, r6, r7))
noncomputable def ref01_Divide_j3 (b : ref01_Wide) (i : Int) (q2 : Int) (q3 : Int) (r2 : Int) (r3 : Int) (bit1 : Int) : Option ((Int × Int × Int × Int × Int) ⊕ (Int × Int × Int × Int)) :=
  (ref01_Twice (ref01_Wide.mk r2 r3)).bind fun y =>
  (ref01_Twice (ref01_Wide.mk q2 q3)).bind fun y1 =>
  req (((!((bShr .u64 r2 (63 : Int)) == (1 : Int))) = true → (ref01_Order (ref01_Wide.mk y.Hi (bOr .u64 y.Lo bit1)) b).isSome = true)) <|
  bif (((bShr .u64 r2 (63 : Int)) == (1 : Int)) || (decide ((0 : Int) ≤ ((ref01_Order (ref01_Wide.mk y.Hi (bOr .u64 y.Lo bit1)) b).getD default)))) then
    (ref01_Minus (ref01_Wide.mk y.Hi (bOr .u64 y.Lo bit1)) b).bind fun y2 =>
    ref01_Divide_j2 i y1.Hi (bOr .u64 y1.Lo (1 : Int)) y2.Hi y2.Lo
  else
    ref01_Divide_j2 i y1.Hi y1.Lo y.Hi (bOr .u64 y.Lo bit1)
noncomputable def ref01_Divide_l4 (a : ref01_Wide) (b : ref01_Wide) : (Int × Int × Int × Int × Int) → Option ((Int × Int × Int × Int × Int) ⊕ (Int × Int × Int × Int)) :=
  fun (i, q2, q3, r2, r3) =>
    bif (decide ((0 : Int) ≤ i)) then
      req (0 ≤ (IntKind.u64.wrap (Int.tmod i (64 : Int)))) <|
      bindV (bAnd .u64 (bShr .u64 a.Lo (IntKind.u64.wrap (Int.tmod i (64 : Int)))) (1 : Int)) fun bit =>
      bif (decide ((64 : Int) ≤ i)) then
        req (0 ≤ (IntKind.u64.wrap (IntKind.i64.wrap (i - (64 : Int))))) <|
        bindV (bAnd .u64 (bShr .u64 a.Hi (IntKind.u64.wrap (IntKind.i64.wrap (i - (64 : Int))))) (1 : Int)) fun bit2 =>
        ref01_Divide_j3 b i q2 q3 r2 r3 bit2
      else
        ref01_Divide_j3 b i q2 q3 r2 r3 bit
    else
      some (.inr (q2, q3, r2, r3))
noncomputable def ref01_Divide (a : ref01_Wide) (b : ref01_Wide) : Option (ref01_Wide × ref01_Wide) :=
  bif ((a.Hi == (0 : Int)) && (b.Hi == (0 : Int))) then
    req (b.Lo ≠ 0) <|
    some ((ref01_Wide.mk (0 : Int) (IntKind.u64.wrap (Int.tdiv a.Lo b.Lo))), (ref01_Wide.mk (0 : Int) (Int.tmod a.Lo b.Lo)))
  else
    (iter (ref01_Divide_l4 a b) ((127 : Int), (0 : Int), (0 : Int), (0 : Int), (0 : Int))).bind fun (q4, q5, r4, r5) =>
    ref01_Divide_j1 q4 q5 r4 r5
/-- awardingbody awardingbodyref01.Divisor -/
noncomputable def ref01_Divisor_j1 (a1 : Int) (a2 : Int) : Option ref01_Wide :=
  some (ref01_Wide.mk a1 a2)
noncomputable def ref01_Divisor_l2  : (Int × Int × Int × Int) → Option ((Int × Int × Int × Int) ⊕ (Int × Int)) :=
  fun (a3, a4, b1, b2) =>
    bif (!((b1 == (0 : Int)) && (b2 == (0 : Int)))) then
      (ref01_Divide (ref01_Wide.mk a3 a4) (ref01_Wide.mk b1 b2)).bind fun (y, y1) =>
      some (.inl (b1, b2, y1.Hi, y1.Lo))
    else
      some (.inr (a3, a4))
noncomputable def ref01_Divisor (a : ref01_Wide) (b : ref01_Wide) : Option ref01_Wide :=
  (iter (ref01_Divisor_l2) (a.Hi, a.Lo, b.Hi, b.Lo)).bind fun (a5, a6) =>
  ref01_Divisor_j1 a5 a6
/-- awardingbody awardingbodyref01.Valid -/
noncomputable def ref01_Valid (a : api_Ratio) : Option Bool :=
  bif ((((decide (a.Den < (1 : Int))) || (decide ((1152921504606846976 : Int) < a.Den))) || (decide (a.Num < (-1152921504606846976 : Int)))) || (decide ((1152921504606846976 : Int) < a.Num))) then
    some false
  else
    (ref01_Size a.Num).bind fun y =>
    (ref01_Size a.Den).bind fun y1 =>
    (ref01_Divisor (ref01_Wide.mk (0 : Int) y) (ref01_Wide.mk (0 : Int) y1)).bind fun y2 =>
    some ((y2.Hi == (0 : Int)) && (y2.Lo == (1 : Int)))
/-- math bits.Mul64 -/
noncomputable def bits_Mul64 (x : Int) (y : Int) : Option (Int × Int) :=
  bindV (IntKind.u64.wrap ((bAnd .u64 x (4294967295 : Int)) * (bAnd .u64 y (4294967295 : Int)))) fun w0 =>
  bindV (IntKind.u64.wrap ((IntKind.u64.wrap ((bShr .u64 x (32 : Int)) * (bAnd .u64 y (4294967295 : Int)))) + (bShr .u64 w0 (32 : Int)))) fun t =>
  bindV (IntKind.u64.wrap ((bAnd .u64 t (4294967295 : Int)) + (IntKind.u64.wrap ((bAnd .u64 x (4294967295 : Int)) * (bShr .u64 y (32 : Int)))))) fun w1 =>
  bindV (IntKind.u64.wrap ((IntKind.u64.wrap ((IntKind.u64.wrap ((bShr .u64 x (32 : Int)) * (bShr .u64 y (32 : Int)))) + (bShr .u64 t (32 : Int)))) + (bShr .u64 w1 (32 : Int)))) fun hi =>
  some (hi, (IntKind.u64.wrap (x * y)))
/-- awardingbody awardingbodyref01.Product -/
noncomputable def ref01_Product (a : Int) (b : Int) : Option ref01_Wide :=
  (bits_Mul64 a b).bind fun (y, y1) =>
  some (ref01_Wide.mk y y1)
/-- awardingbody awardingbodyref01.Plus -/
noncomputable def ref01_Plus (a : ref01_Wide) (b : ref01_Wide) : Option ref01_Wide :=
  (bits_Add64 a.Lo b.Lo (0 : Int)).bind fun (y, y1) =>
  (bits_Add64 a.Hi b.Hi y1).bind fun (y2, y3) =>
  some (ref01_Wide.mk y2 y)
/-- awardingbody awardingbodyref01.total -/
noncomputable def ref01_total (x : Bool) (a : ref01_Wide) (y : Bool) (b : ref01_Wide) : Option (Bool × ref01_Wide) :=
  bif (x == y) then
    (ref01_Plus a b).bind fun y1 =>
    some (x, y1)
  else
    (ref01_Order a b).bind fun y2 =>
    bif (decide ((0 : Int) ≤ y2)) then
      (ref01_Minus a b).bind fun y3 =>
      some (x, y3)
    else
      (ref01_Minus b a).bind fun y4 =>
      some (y, y4)
/-- awardingbody awardingbodyref01.Compare -/
noncomputable def ref01_Compare (a : api_Ratio) (b : api_Ratio) : Option Int :=
  (ref01_Valid a).bind fun y =>
  req (((!(!y)) = true → (ref01_Valid b).isSome = true)) <|
  bif ((!y) || (!((ref01_Valid b).getD default))) then
    some (0 : Int)
  else
    (ref01_Size a.Num).bind fun y1 =>
    (ref01_Size b.Den).bind fun y2 =>
    (ref01_Product y1 y2).bind fun y3 =>
    (ref01_Size b.Num).bind fun y4 =>
    (ref01_Size a.Den).bind fun y5 =>
    (ref01_Product y4 y5).bind fun y6 =>
    (ref01_total (decide (a.Num < (0 : Int))) y3 (decide ((0 : Int) < b.Num)) y6).bind fun (y7, y8) =>
    bif ((y8.Hi == (0 : Int)) && (y8.Lo == (0 : Int))) then
      some (0 : Int)
    else
      bif y7 then
        some (-1 : Int)
      else
        some (1 : Int)
/-- awardingbody awardingbodyref01.Less -/
noncomputable def ref01_Less (a : api_Ratio) (b : api_Ratio) : Option Bool :=
  (ref01_Compare a b).bind fun y =>
  some (decide (y < (0 : Int)))
/-- awardingbody awardingbodyref36.Fit -/
noncomputable def ref36_Fit_j1  : Option Bool :=
  some true
noncomputable def ref36_Fit_l2 (a : api_Award) (l : List api_UnitMark) : Int → Option (Int ⊕ (Unit ⊕ Bool)) :=
  fun i =>
    bif (decide (i < (l.length : Int))) then
      req ((0 ≤ i ∧ i < (l.length : Int))) <|
      req ((0 ≤ i ∧ i < (l.length : Int))) <|
      (ref36_in ((ix l i).Kind) (0 : Int) (3 : Int)).bind fun y =>
      bif (!y) then
        some (.inr (.inr false))
      else
        req ((0 ≤ i ∧ i < (l.length : Int))) <|
        bif (((ix l i).Kind != (0 : Int)) && (!((((ix l i).Value).Num == (0 : Int)) && (((ix l i).Value).Den == (1 : Int))))) then
          some (.inr (.inr false))
        else
          (ref01_Valid ((ix l i).Value)).bind fun y1 =>
          req (((!((!y1) || (decide (((ix l i).Value).Num < (0 : Int))))) = true → 0 ≤ i ∧ i < (a.Units.length : Int)) ∧ ((!((!y1) || (decide (((ix l i).Value).Num < (0 : Int))))) = true → (ref01_Less (api_Ratio.mk ((ix a.Units i).Max) (1 : Int)) ((ix l i).Value)).isSome = true)) <|
          bif (((!y1) || (decide (((ix l i).Value).Num < (0 : Int)))) || ((ref01_Less (api_Ratio.mk ((ix a.Units i).Max) (1 : Int)) ((ix l i).Value)).getD default)) then
            some (.inr (.inr false))
          else
            some (.inl (IntKind.i64.wrap (i + (1 : Int))))
    else
      some (.inr (.inl ()))
noncomputable def ref36_Fit (a : api_Award) (l : List api_UnitMark) : Option Bool :=
  bif ((l.length : Int) != (a.Units.length : Int)) then
    some false
  else
    (iter (ref36_Fit_l2 a l) (0 : Int)).bind fun x_ =>
    match x_ with
    | .inl () => ref36_Fit_j1
    | .inr t_ => some t_
/-- awardingbody awardingbodyref01.Reduce -/
noncomputable def ref01_Reduce_j1 (y3 : ref01_Wide) (out : Int) : Option (api_Ratio × Int) :=
  some ((api_Ratio.mk out (IntKind.i64.wrap y3.Lo)), (0 : Int))
noncomputable def ref01_Reduce (negative : Bool) (num : ref01_Wide) (den : ref01_Wide) : Option (api_Ratio × Int) :=
  (ref01_Divisor num den).bind fun y =>
  (ref01_Divide num y).bind fun (y1, y2) =>
  (ref01_Divide den y).bind fun (y3, y4) =>
  bif ((((decide ((0 : Int) < y1.Hi)) || (decide ((0 : Int) < y3.Hi))) || (decide ((1152921504606846976 : Int) < y1.Lo))) || (decide ((1152921504606846976 : Int) < y3.Lo))) then
    some ((api_Ratio.mk (0 : Int) (0 : Int)), (6 : Int))
  else
    bif negative then
      ref01_Reduce_j1 y3 (IntKind.i64.wrap (0 - (IntKind.i64.wrap y1.Lo)))
    else
      ref01_Reduce_j1 y3 (IntKind.i64.wrap y1.Lo)
/-- awardingbody awardingbodyref01.New -/
noncomputable def ref01_New (num : Int) (den : Int) : Option (api_Ratio × Int) :=
  bif (den == (0 : Int)) then
    some ((api_Ratio.mk (0 : Int) (0 : Int)), (2 : Int))
  else
    (ref01_Size num).bind fun y =>
    (ref01_Size den).bind fun y1 =>
    (ref01_Reduce (!((decide (num < (0 : Int))) == (decide (den < (0 : Int))))) (ref01_Wide.mk (0 : Int) y) (ref01_Wide.mk (0 : Int) y1)).bind fun (y2, y3) =>
    some (y2, y3)
/-- awardingbody awardingbodyref01.Mul -/
noncomputable def ref01_Mul (a : api_Ratio) (b : api_Ratio) : Option (api_Ratio × Int) :=
  (ref01_Valid a).bind fun y =>
  req (((!(!y)) = true → (ref01_Valid b).isSome = true)) <|
  bif ((!y) || (!((ref01_Valid b).getD default))) then
    some ((api_Ratio.mk (0 : Int) (0 : Int)), (1 : Int))
  else
    (ref01_Size a.Num).bind fun y1 =>
    (ref01_Size b.Num).bind fun y2 =>
    (ref01_Product y1 y2).bind fun y3 =>
    (ref01_Size a.Den).bind fun y4 =>
    (ref01_Size b.Den).bind fun y5 =>
    (ref01_Product y4 y5).bind fun y6 =>
    (ref01_Reduce (!((decide (a.Num < (0 : Int))) == (decide (b.Num < (0 : Int))))) y3 y6).bind fun (y7, y8) =>
    some (y7, y8)
/-- awardingbody awardingbodyref01.Sum -/
noncomputable def ref01_Sum_j1 (common : Int) (common1 : Int) (s : Bool) (n : Int) (n1 : Int) : Option (api_Ratio × Int) :=
  (ref01_Reduce (s && (!((n == (0 : Int)) && (n1 == (0 : Int))))) (ref01_Wide.mk n n1) (ref01_Wide.mk common common1)).bind fun (y, y1) =>
  some (y, y1)
noncomputable def ref01_Sum_l2 (l : List api_Ratio) (common : Int) (common1 : Int) : (Bool × Int × Int × Int) → Option ((Bool × Int × Int × Int) ⊕ (Bool × Int × Int)) :=
  fun (s1, i, n2, n3) =>
    bif (decide (i < (l.length : Int))) then
      req ((0 ≤ i ∧ i < (l.length : Int))) <|
      (ref01_Size ((ix l i).Den)).bind fun y2 =>
      (ref01_Divide (ref01_Wide.mk common common1) (ref01_Wide.mk (0 : Int) y2)).bind fun (y3, y4) =>
      req ((0 ≤ i ∧ i < (l.length : Int))) <|
      (ref01_Size ((ix l i).Num)).bind fun y5 =>
      (ref01_Product y5 y3.Lo).bind fun y6 =>
      (ref01_total s1 (ref01_Wide.mk n2 n3) (decide ((ix l i).Num < (0 : Int))) y6).bind fun (y7, y8) =>
      some (.inl (y7, (IntKind.i64.wrap (i + (1 : Int))), y8.Hi, y8.Lo))
    else
      some (.inr (s1, n2, n3))
noncomputable def ref01_Sum_j3 (l : List api_Ratio) (common : Int) (common1 : Int) : Option (api_Ratio × Int) :=
  (iter (ref01_Sum_l2 l common common1) (false, (0 : Int), (0 : Int), (0 : Int))).bind fun (s2, n4, n5) =>
  ref01_Sum_j1 common common1 s2 n4 n5
noncomputable def ref01_Sum_l4 (l : List api_Ratio) : (Int × Int × Int) → Option ((Int × Int × Int) ⊕ ((Int × Int) ⊕ (api_Ratio × Int))) :=
  fun (i1, common2, common3) =>
    bif (decide (i1 < (l.length : Int))) then
      req ((0 ≤ i1 ∧ i1 < (l.length : Int))) <|
      (ref01_Size ((ix l i1).Den)).bind fun y9 =>
      (ref01_Divisor (ref01_Wide.mk common2 common3) (ref01_Wide.mk (0 : Int) y9)).bind fun y10 =>
      (ref01_Divide (ref01_Wide.mk (0 : Int) y9) y10).bind fun (y11, y12) =>
      (ref01_Product common3 y11.Lo).bind fun y13 =>
      bif ((decide ((0 : Int) < y13.Hi)) || (decide ((1152921504606846976 : Int) < y13.Lo))) then
        some (.inr (.inr ((api_Ratio.mk (0 : Int) (0 : Int)), (6 : Int))))
      else
        some (.inl ((IntKind.i64.wrap (i1 + (1 : Int))), y13.Hi, y13.Lo))
    else
      some (.inr (.inl (common2, common3)))
noncomputable def ref01_Sum_j5 (l : List api_Ratio) : Option (api_Ratio × Int) :=
  (iter (ref01_Sum_l4 l) ((0 : Int), (0 : Int), (1 : Int))).bind fun x_ =>
  match x_ with
  | .inl (common4, common5) => ref01_Sum_j3 l common4 common5
  | .inr t_ => some t_
noncomputable def ref01_Sum_l6 (l : List api_Ratio) : Int → Option (Int ⊕ (Unit ⊕ (api_Ratio × Int))) :=
  fun i2 =>
    bif (decide (i2 < (l.length : Int))) then
      req ((0 ≤ i2 ∧ i2 < (l.length : Int))) <|
      (ref01_Valid (ix l i2)).bind fun y14 =>
      bif (!y14) then
        some (.inr (.inr ((api_Ratio.mk (0 : Int) (0 : Int)), (1 : Int))))
      else
        some (.inl (IntKind.i64.wrap (i2 + (1 : Int))))
    else
      some (.inr (.inl ()))
noncomputable def ref01_Sum (l : List api_Ratio) : Option (api_Ratio × Int) :=
  bif (decide ((100 : Int) < (l.length : Int))) then
    some ((api_Ratio.mk (0 : Int) (0 : Int)), (3 : Int))
  else
    (iter (ref01_Sum_l6 l) (0 : Int)).bind fun x_ =>
    match x_ with
    | .inl () => ref01_Sum_j5 l
    | .inr t_ => some t_
/-- awardingbody awardingbodyref36.mean -/
noncomputable def ref36_mean_j1 (weight : Int) (parts : List api_Ratio) : Option (Int × api_Ratio × Int) :=
  bif (weight == (0 : Int)) then
    some ((0 : Int), (api_Ratio.mk (0 : Int) (0 : Int)), (10 : Int))
  else
    (ref01_Sum parts).bind fun (y, y1) =>
    some (weight, y, y1)
noncomputable def ref36_mean_j2 (i : Int) (weight3 : Int) (parts3 : List api_Ratio) : Option ((Int × Int × (List api_Ratio)) ⊕ ((Int × (List api_Ratio)) ⊕ (Int × api_Ratio × Int))) :=
  some (.inl (weight3, (IntKind.i64.wrap (i + (1 : Int))), parts3))
noncomputable def ref36_mean_l3 (a : api_Award) (l : List api_UnitMark) : (Int × Int × (List api_Ratio)) → Option ((Int × Int × (List api_Ratio)) ⊕ ((Int × (List api_Ratio)) ⊕ (Int × api_Ratio × Int))) :=
  fun (weight1, i, parts1) =>
    bif (decide (i < (l.length : Int))) then
      req ((0 ≤ i ∧ i < (l.length : Int))) <|
      bif ((ix l i).Kind == (2 : Int)) then
        ref36_mean_j2 i weight1 parts1
      else
        req ((0 ≤ i ∧ i < (a.Units.length : Int))) <|
        req ((0 ≤ i ∧ i < (a.Units.length : Int))) <|
        (ref01_New ((ix a.Units i).Weight) ((ix a.Units i).Max)).bind fun (y2, y3) =>
        req ((0 ≤ i ∧ i < (l.length : Int))) <|
        (ref01_Mul ((ix l i).Value) y2).bind fun (y4, y5) =>
        bif (y5 != (0 : Int)) then
          some (.inr (.inr ((0 : Int), (api_Ratio.mk (0 : Int) (0 : Int)), y5)))
        else
          req ((parts1.length + ([y4]).length) * 16 ≤ 140737488355328) <|
          ref36_mean_j2 i (IntKind.i64.wrap (weight1 + (ix a.Units i).Weight)) (parts1 ++ [y4])
    else
      some (.inr (.inl (weight1, parts1)))
noncomputable def ref36_mean (a : api_Award) (l : List api_UnitMark) : Option (Int × api_Ratio × Int) :=
  (iter (ref36_mean_l3 a l) ((0 : Int), (0 : Int), ([] : List api_Ratio))).bind fun x_ =>
  match x_ with
  | .inl (weight2, parts2) => ref36_mean_j1 weight2 parts2
  | .inr t_ => some t_
/-- awardingbody awardingbodyref01.Add -/
noncomputable def ref01_Add (a : api_Ratio) (b : api_Ratio) : Option (api_Ratio × Int) :=
  (ref01_Valid a).bind fun y =>
  req (((!(!y)) = true → (ref01_Valid b).isSome = true)) <|
  bif ((!y) || (!((ref01_Valid b).getD default))) then
    some ((api_Ratio.mk (0 : Int) (0 : Int)), (1 : Int))
  else
    (ref01_Size a.Num).bind fun y1 =>
    (ref01_Size b.Den).bind fun y2 =>
    (ref01_Product y1 y2).bind fun y3 =>
    (ref01_Size b.Num).bind fun y4 =>
    (ref01_Size a.Den).bind fun y5 =>
    (ref01_Product y4 y5).bind fun y6 =>
    (ref01_total (decide (a.Num < (0 : Int))) y3 (decide (b.Num < (0 : Int))) y6).bind fun (y7, y8) =>
    (ref01_Size a.Den).bind fun y9 =>
    (ref01_Size b.Den).bind fun y10 =>
    (ref01_Product y9 y10).bind fun y11 =>
    (ref01_Reduce y7 y8 y11).bind fun (y12, y13) =>
    some (y12, y13)
/-- awardingbody awardingbodyref36.Exact -/
noncomputable def ref36_Exact_j1 (a : api_Award) (l : List api_UnitMark) (special : Int) : Option (api_Ratio × Int) :=
  (ref36_mean a l).bind fun (y2, y3, y4) =>
  bif (y4 != (0 : Int)) then
    some ((api_Ratio.mk (0 : Int) (0 : Int)), y4)
  else
    (ref01_New a.Max y2).bind fun (y5, y6) =>
    (ref01_Mul y3 y5).bind fun (y7, y8) =>
    bif (y8 != (0 : Int)) then
      some ((api_Ratio.mk (0 : Int) (0 : Int)), y8)
    else
      (ref01_New (IntKind.i64.wrap (special * a.Max)) (1000 : Int)).bind fun (y9, y10) =>
      (ref01_Add y7 y9).bind fun (y11, y12) =>
      bif (y12 != (0 : Int)) then
        some ((api_Ratio.mk (0 : Int) (0 : Int)), y12)
      else
        (ref01_Less (api_Ratio.mk a.Max (1 : Int)) y11).bind fun y13 =>
        bif y13 then
          some ((api_Ratio.mk a.Max (1 : Int)), (0 : Int))
        else
          some (y11, (0 : Int))
noncomputable def ref36_Exact_l2 (l : List api_UnitMark) : Int → Option (Int ⊕ (Unit ⊕ (api_Ratio × Int))) :=
  fun i =>
    bif (decide (i < (l.length : Int))) then
      req ((0 ≤ i ∧ i < (l.length : Int))) <|
      bif ((ix l i).Kind == (3 : Int)) then
        some (.inr (.inr ((api_Ratio.mk (0 : Int) (0 : Int)), (8 : Int))))
      else
        some (.inl (IntKind.i64.wrap (i + (1 : Int))))
    else
      some (.inr (.inl ()))
noncomputable def ref36_Exact (a : api_Award) (l : List api_UnitMark) (special : Int) : Option (api_Ratio × Int) :=
  (ref36_Check a).bind fun y =>
  req (((!(y != (0 : Int))) = true → (ref36_Fit a l).isSome = true)) <|
  bif ((y != (0 : Int)) || (!((ref36_Fit a l).getD default))) then
    some ((api_Ratio.mk (0 : Int) (0 : Int)), (1 : Int))
  else
    (ref36_in special (0 : Int) (50 : Int)).bind fun y1 =>
    bif (!y1) then
      some ((api_Ratio.mk (0 : Int) (0 : Int)), (2 : Int))
    else
      (iter (ref36_Exact_l2 l) (0 : Int)).bind fun x_ =>
      match x_ with
      | .inl () => ref36_Exact_j1 a l special
      | .inr t_ => some t_
/-- awardingbody awardingbodyref01.floor -/
noncomputable def ref01_floor_j1 (q : Int) : Option Int :=
  some q
noncomputable def ref01_floor (n : Int) (d : Int) : Option Int :=
  req (d ≠ 0) <|
  req (d ≠ 0) <|
  bif (decide ((Int.tmod n d) < (0 : Int))) then
    ref01_floor_j1 (IntKind.i64.wrap ((IntKind.i64.wrap (Int.tdiv n d)) - (1 : Int)))
  else
    ref01_floor_j1 (IntKind.i64.wrap (Int.tdiv n d))
/-- awardingbody awardingbodyref01.Round -/
noncomputable def ref01_Round (a : api_Ratio) : Option Int :=
  (ref01_Valid a).bind fun y =>
  bif (!y) then
    some (0 : Int)
  else
    (ref01_floor (IntKind.i64.wrap ((IntKind.i64.wrap ((2 : Int) * a.Num)) + a.Den)) (IntKind.i64.wrap ((2 : Int) * a.Den))).bind fun y1 =>
    some y1
/-- awardingbody awardingbodyref36.Total -/
noncomputable def ref36_Total (a : api_Award) (l : List api_UnitMark) (special : Int) : Option (Int × Int) :=
  (ref36_Exact a l special).bind fun (y, y1) =>
  bif (y1 != (0 : Int)) then
    some ((0 : Int), y1)
  else
    (ref01_Round y).bind fun y2 =>
    some (y2, (0 : Int))
end Go.LS
