/-
  Plain functions that the program's functions compute. No condition: definitions, printed by dec.py.
-/
import Derived.Test.YtogfplnonlpmcaaD2
namespace Go.LS
set_option linter.all false
set_option linter.unusedSimpArgs false
set_option linter.unusedVariables false
set_option maxRecDepth 20000

/-- awardingbody awardingbodyref35.Check -/
noncomputable def ref35_Check_j1  : Option Int :=
  some (0 : Int)
noncomputable def ref35_Check_l2 (b : List Int) : Int → Option (Int ⊕ (Unit ⊕ Int)) :=
  fun i =>
    bif (decide (i < (b.length : Int))) then
      req ((0 ≤ i ∧ i < (b.length : Int)) ∧ (0 ≤ (IntKind.i64.wrap (i - (1 : Int))) ∧ (IntKind.i64.wrap (i - (1 : Int))) < (b.length : Int))) <|
      bif (decide ((ix b (IntKind.i64.wrap (i - (1 : Int)))) < (ix b i))) then
        some (.inr (.inr (43 : Int)))
      else
        some (.inl (IntKind.i64.wrap (i + (1 : Int))))
    else
      some (.inr (.inl ()))
noncomputable def ref35_Check_j3 (b : List Int) : Option Int :=
  (iter (ref35_Check_l2 b) (1 : Int)).bind fun x_ =>
  match x_ with
  | .inl () => ref35_Check_j1
  | .inr t_ => some t_
noncomputable def ref35_Check_l4 (b : List Int) (most : Int) : Int → Option (Int ⊕ (Unit ⊕ Int)) :=
  fun i1 =>
    bif (decide (i1 < (b.length : Int))) then
      req ((0 ≤ i1 ∧ i1 < (b.length : Int)) ∧ ((!(decide ((ix b i1) < (0 : Int)))) = true → 0 ≤ i1 ∧ i1 < (b.length : Int))) <|
      bif ((decide ((ix b i1) < (0 : Int))) || (decide ((IntKind.i64.wrap (most + (1 : Int))) < (ix b i1)))) then
        some (.inr (.inr (2 : Int)))
      else
        some (.inl (IntKind.i64.wrap (i1 + (1 : Int))))
    else
      some (.inr (.inl ()))
noncomputable def ref35_Check (b : List Int) (most : Int) : Option Int :=
  bif ((decide (most < (0 : Int))) || (decide ((200 : Int) < most))) then
    some (2 : Int)
  else
    bif (((b.length : Int) == (0 : Int)) || (decide ((9 : Int) < (b.length : Int)))) then
      some (3 : Int)
    else
      (iter (ref35_Check_l4 b most) (0 : Int)).bind fun x_ =>
      match x_ with
      | .inl () => ref35_Check_j3 b
      | .inr t_ => some t_
/-- awardingbody awardingbodyref36.Check -/
noncomputable def ref36_Check_j1 (a : api_Award) : Option Int :=
  (ref36_in a.Max (1 : Int) (200 : Int)).bind fun y =>
  bif (!y) then
    some (2 : Int)
  else
    (ref35_Check a.Bounds a.Max).bind fun y1 =>
    some y1
noncomputable def ref36_Check_l2 (a : api_Award) : Int → Option (Int ⊕ (Unit ⊕ Int)) :=
  fun i =>
    bif (decide (i < (a.Units.length : Int))) then
      req ((0 ≤ i ∧ i < (a.Units.length : Int))) <|
      (ref36_in ((ix a.Units i).Paper) (0 : Int) (31 : Int)).bind fun y2 =>
      req (((!(!y2)) = true → (ref36_in ((ix a.Units i).Weight) (1 : Int) (1000 : Int)).isSome = true) ∧ ((!((!y2) || (!((ref36_in ((ix a.Units i).Weight) (1 : Int) (1000 : Int)).getD default)))) = true → (ref36_in ((ix a.Units i).Max) (1 : Int) (200 : Int)).isSome = true)) <|
      bif (((!y2) || (!((ref36_in ((ix a.Units i).Weight) (1 : Int) (1000 : Int)).getD default))) || (!((ref36_in ((ix a.Units i).Max) (1 : Int) (200 : Int)).getD default))) then
        some (.inr (.inr (2 : Int)))
      else
        req (((decide ((0 : Int) < i)) = true → 0 ≤ (IntKind.i64.wrap (i - (1 : Int))) ∧ (IntKind.i64.wrap (i - (1 : Int))) < (a.Units.length : Int))) <|
        bif ((decide ((0 : Int) < i)) && (decide ((ix a.Units i).Paper ≤ (ix a.Units (IntKind.i64.wrap (i - (1 : Int)))).Paper))) then
          some (.inr (.inr (43 : Int)))
        else
          some (.inl (IntKind.i64.wrap (i + (1 : Int))))
    else
      some (.inr (.inl ()))
noncomputable def ref36_Check (a : api_Award) : Option Int :=
  bif (((a.Units.length : Int) == (0 : Int)) || (decide ((6 : Int) < (a.Units.length : Int)))) then
    some (3 : Int)
  else
    (iter (ref36_Check_l2 a) (0 : Int)).bind fun x_ =>
    match x_ with
    | .inl () => ref36_Check_j1 a
    | .inr t_ => some t_
/-- awardingbody awardingbodyref01.Size -/
noncomputable def ref01_Size (n : Int) : Option Int :=
  bif (decide (n < (0 : Int))) then
    bindV (IntKind.u64.wrap ((IntKind.u64.wrap (IntKind.i64.wrap (0 - (IntKind.i64.wrap (n + (1 : Int)))))) + (1 : Int))) fun v =>
    some v
  else
    some (IntKind.u64.wrap n)
/-- awardingbody awardingbodyref01.Order -/
noncomputable def ref01_Order (a : ref01_Wide) (b : ref01_Wide) : Option Int :=
  bif ((decide (a.Hi < b.Hi)) || ((a.Hi == b.Hi) && (decide (a.Lo < b.Lo)))) then
    some (-1 : Int)
  else
    bif ((a.Hi == b.Hi) && (a.Lo == b.Lo)) then
      some (0 : Int)
    else
      some (1 : Int)
/-- awardingbody awardingbodyref01.Minus -/
noncomputable def ref01_Minus (a : ref01_Wide) (b : ref01_Wide) : Option ref01_Wide :=
  (bits_Sub64 a.Lo b.Lo (0 : Int)).bind fun (y, y1) =>
  (bits_Sub64 a.Hi b.Hi y1).bind fun (y2, y3) =>
  some (ref01_Wide.mk y2 y)
/-- awardingbody awardingbodyref01.Twice -/
noncomputable def ref01_Twice (a : ref01_Wide) : Option ref01_Wide :=
  some (ref01_Wide.mk (bOr .u64 (bShl .u64 a.Hi (1 : Int)) (bShr .u64 a.Lo (63 : Int))) (bShl .u64 a.Lo (1 : Int)))
/-- awardingbody awardingbodyref01.Divide -/
noncomputable def ref01_Divide_j1 (q : Int) (q1 : Int) (r : Int) (r1 : Int) : Option (ref01_Wide × ref01_Wide) :=
  some ((ref01_Wide.mk q q1), (ref01_Wide.mk r r1))
noncomputable def ref01_Divide_j2 (i : Int) (q6 : Int) (q7 : Int) (r6 : Int) (r7 : Int) : Option ((Int × Int × Int × Int × Int) ⊕ (Int × Int × Int × Int)) :=
  some (.inl ((IntKind.i64.wrap (i - (1 : Int))), q6, q7, r6, r7))
noncomputable def ref01_Divide_j3 (b : ref01_Wide) (i : Int) (q2 : Int) (q3 : Int) (r2 : Int) (r3 : Int) (bit1 : Int) : Option ((Int × Int × Int × Int × Int) ⊕ (Int × Int × Int × Int)) :=
  (ref01_Twice (ref01_Wide.mk r2 r3)).bind fun y =>
  (ref01_Twice (ref01_Wide.mk q2 q3)).bind fun y1 =>
  req (((!((bShr .u64 r2 (63 : Int)) == (1 : Int))) = true → (ref01_Order (ref01_Wide.mk y.Hi (bOr .u64 y.Lo bit1)) b).isSome = true)) <|
  bif (((bShr .u64 r2 (63 : Int)) == (1 : Int)) || (decide ((0 : Int) ≤ ((ref01_Order (ref01_Wide.mk y.Hi (bOr .u64 y.Lo bit1)) b).getD default)))) then
    (ref01_Minus (ref01_Wide.mk y.Hi (bOr .u64 y.Lo bit1)) b).bind fun y2 =>
    ref01_Divide_j2 i y1.Hi (bOr .u64 y1.Lo (1 : Int)) y2.Hi y2.Lo
  else
    ref01_Divide_j2 i y1.Hi y1.Lo y.Hi (bOr .u64 y.Lo bit1)
noncomputable def ref01_Divide_l4 (a : ref01_Wide) (b : ref01_Wide) : (Int × Int × Int × Int × Int) → Option ((Int × Int × Int × Int × Int) ⊕ (Int × Int × Int × Int)) :=
  fun (i, q2, q3, r2, r3) =>
    bif (decide ((0 : Int) ≤ i)) then
      req (0 ≤ (IntKind.u64.wrap (Int.tmod i (64 : Int)))) <|
      bindV (bAnd .u64 (bShr .u64 a.Lo (IntKind.u64.wrap (Int.tmod i (64 : Int)))) (1 : Int)) fun bit =>
      bif (decide ((64 : Int) ≤ i)) then
        req (0 ≤ (IntKind.u64.wrap (IntKind.i64.wrap (i - (64 : Int))))) <|
        bindV (bAnd .u64 (bShr .u64 a.Hi (IntKind.u64.wrap (IntKind.i64.wrap (i - (64 : Int))))) (1 : Int)) fun bit2 =>
        ref01_Divide_j3 b i q2 q3 r2 r3 bit2
      else
        ref01_Divide_j3 b i q2 q3 r2 r3 bit
    else
      some (.inr (q2, q3, r2, r3))
noncomputable def ref01_Divide (a : ref01_Wide) (b : ref01_Wide) : Option (ref01_Wide × ref01_Wide) :=
  bif ((a.Hi == (0 : Int)) && (b.Hi == (0 : Int))) then
    req (b.Lo ≠ 0) <|
    some ((ref01_Wide.mk (0 : Int) (IntKind.u64.wrap (Int.tdiv a.Lo b.Lo))), (ref01_Wide.mk (0 : Int) (Int.tmod a.Lo b.Lo)))
  else
    (iter (ref01_Divide_l4 a b) ((127 : Int), (0 : Int), (0 : Int), (0 : Int), (0 : Int))).bind fun (q4, q5, r4, r5) =>
    ref01_Divide_j1 q4 q5 r4 r5
/-- awardingbody awardingbodyref01.Divisor -/
noncomputable def ref01_Divisor_j1 (a1 : Int) (a2 : Int) : Option ref01_Wide :=
  some (ref01_Wide.mk a1 a2)
noncomputable def ref01_Divisor_l2  : (Int × Int × Int × Int) → Option ((Int × Int × Int × Int) ⊕ (Int × Int)) :=
  fun (a3, a4, b1, b2) =>
    bif (!((b1 == (0 : Int)) && (b2 == (0 : Int)))) then
      (ref01_Divide (ref01_Wide.mk a3 a4) (ref01_Wide.mk b1 b2)).bind fun (y, y1) =>
      some (.inl (b1, b2, y1.Hi, y1.Lo))
    else
      some (.inr (a3, a4))
noncomputable def ref01_Divisor (a : ref01_Wide) (b : ref01_Wide) : Option ref01_Wide :=
  (iter (ref01_Divisor_l2) (a.Hi, a.Lo, b.Hi, b.Lo)).bind fun (a5, a6) =>
  ref01_Divisor_j1 a5 a6
/-- awardingbody awardingbodyref01.Valid -/
noncomputable def ref01_Valid (a : api_Ratio) : Option Bool :=
  bif ((((decide (a.Den < (1 : Int))) || (decide ((1152921504606846976 : Int) < a.Den))) || (decide (a.Num < (-1152921504606846976 : Int)))) || (decide ((1152921504606846976 : Int) < a.Num))) then
    some false
  else
    (ref01_Size a.Num).bind fun y =>
    (ref01_Size a.Den).bind fun y1 =>
    (ref01_Divisor (ref01_Wide.mk (0 : Int) y) (ref01_Wide.mk (0 : Int) y1)).bind fun y2 =>
    some ((y2.Hi == (0 : Int)) && (y2.Lo == (1 : Int)))
/-- awardingbody awardingbodyref01.Product -/
noncomputable def ref01_Product (a : Int) (b : Int) : Option ref01_Wide :=
  (bits_Mul64 a b).bind fun (y, y1) =>
  some (ref01_Wide.mk y y1)
/-- awardingbody awardingbodyref01.Plus -/
noncomputable def ref01_Plus (a : ref01_Wide) (b : ref01_Wide) : Option ref01_Wide :=
  (bits_Add64 a.Lo b.Lo (0 : Int)).bind fun (y, y1) =>
  (bits_Add64 a.Hi b.Hi y1).bind fun (y2, y3) =>
  some (ref01_Wide.mk y2 y)
/-- awardingbody awardingbodyref01.total -/
noncomputable def ref01_total (x : Bool) (a : ref01_Wide) (y : Bool) (b : ref01_Wide) : Option (Bool × ref01_Wide) :=
  bif (x == y) then
    (ref01_Plus a b).bind fun y1 =>
    some (x, y1)
  else
    (ref01_Order a b).bind fun y2 =>
    bif (decide ((0 : Int) ≤ y2)) then
      (ref01_Minus a b).bind fun y3 =>
      some (x, y3)
    else
      (ref01_Minus b a).bind fun y4 =>
      some (y, y4)
/-- awardingbody awardingbodyref01.Compare -/
noncomputable def ref01_Compare (a : api_Ratio) (b : api_Ratio) : Option Int :=
  (ref01_Valid a).bind fun y =>
  req (((!(!y)) = true → (ref01_Valid b).isSome = true)) <|
  bif ((!y) || (!((ref01_Valid b).getD default))) then
    some (0 : Int)
  else
    (ref01_Size a.Num).bind fun y1 =>
    (ref01_Size b.Den).bind fun y2 =>
    (ref01_Product y1 y2).bind fun y3 =>
    (ref01_Size b.Num).bind fun y4 =>
    (ref01_Size a.Den).bind fun y5 =>
    (ref01_Product y4 y5).bind fun y6 =>
    (ref01_total (decide (a.Num < (0 : Int))) y3 (decide ((0 : Int) < b.Num)) y6).bind fun (y7, y8) =>
    bif ((y8.Hi == (0 : Int)) && (y8.Lo == (0 : Int))) then
      some (0 : Int)
    else
      bif y7 then
        some (-1 : Int)
      else
        some (1 : Int)
/-- awardingbody awardingbodyref01.Less -/
noncomputable def ref01_Less (a : api_Ratio) (b : api_Ratio) : Option Bool :=
  (ref01_Compare a b).bind fun y =>
  some (decide (y < (0 : Int)))
/-- awardingbody awardingbodyref36.Fit -/
noncomputable def ref36_Fit_j1  : Option Bool :=
  some true
noncomputable def ref36_Fit_l2 (a : api_Award) (l : List api_UnitMark) : Int → Option (Int ⊕ (Unit ⊕ Bool)) :=
  fun i =>
    bif (decide (i < (l.length : Int))) then
      req ((0 ≤ i ∧ i < (l.length : Int))) <|
      req ((0 ≤ i ∧ i < (l.length : Int))) <|
      (ref36_in ((ix l i).Kind) (0 : Int) (3 : Int)).bind fun y =>
      bif (!y) then
        some (.inr (.inr false))
      else
        req ((0 ≤ i ∧ i < (l.length : Int))) <|
        bif (((ix l i).Kind != (0 : Int)) && (!((((ix l i).Value).Num == (0 : Int)) && (((ix l i).Value).Den == (1 : Int))))) then
          some (.inr (.inr false))
        else
          (ref01_Valid ((ix l i).Value)).bind fun y1 =>
          req (((!((!y1) || (decide (((ix l i).Value).Num < (0 : Int))))) = true → 0 ≤ i ∧ i < (a.Units.length : Int)) ∧ ((!((!y1) || (decide (((ix l i).Value).Num < (0 : Int))))) = true → (ref01_Less (api_Ratio.mk ((ix a.Units i).Max) (1 : Int)) ((ix l i).Value)).isSome = true)) <|
          bif (((!y1) || (decide (((ix l i).Value).Num < (0 : Int)))) || ((ref01_Less (api_Ratio.mk ((ix a.Units i).Max) (1 : Int)) ((ix l i).Value)).getD default)) then
            some (.inr (.inr false))
          else
            some (.inl (IntKind.i64.wrap (i + (1 : Int))))
    else
      some (.inr (.inl ()))
noncomputable def ref36_Fit (a : api_Award) (l : List api_UnitMark) : Option Bool :=
  bif ((l.length : Int) != (a.Units.length : Int)) then
    some false
  else
    (iter (ref36_Fit_l2 a l) (0 : Int)).bind fun x_ =>
    match x_ with
    | .inl () => ref36_Fit_j1
    | .inr t_ => some t_
/-- awardingbody awardingbodyref01.Reduce -/
noncomputable def ref01_Reduce_j1 (y3 : ref01_Wide) (out : Int) : Option (api_Ratio × Int) :=
  some ((api_Ratio.mk out (IntKind.i64.wrap y3.Lo)), (0 : Int))
noncomputable def ref01_Reduce (negative : Bool) (num : ref01_Wide) (den : ref01_Wide) : Option (api_Ratio × Int) :=
  (ref01_Divisor num den).bind fun y =>
  (ref01_Divide num y).bind fun (y1, y2) =>
  (ref01_Divide den y).bind fun (y3, y4) =>
  bif ((((decide ((0 : Int) < y1.Hi)) || (decide ((0 : Int) < y3.Hi))) || (decide ((1152921504606846976 : Int) < y1.Lo))) || (decide ((1152921504606846976 : Int) < y3.Lo))) then
    some ((api_Ratio.mk (0 : Int) (0 : Int)), (6 : Int))
  else
    bif negative then
      ref01_Reduce_j1 y3 (IntKind.i64.wrap (0 - (IntKind.i64.wrap y1.Lo)))
    else
      ref01_Reduce_j1 y3 (IntKind.i64.wrap y1.Lo)
/-- awardingbody awardingbodyref01.New -/
noncomputable def ref01_New (num : Int) (den : Int) : Option (api_Ratio × Int) :=
  bif (den == (0 : Int)) then
    some ((api_Ratio.mk (0 : Int) (0 : Int)), (2 : Int))
  else
    (ref01_Size num).bind fun y =>
    (ref01_Size den).bind fun y1 =>
    (ref01_Reduce (!((decide (num < (0 : Int))) == (decide (den < (0 : Int))))) (ref01_Wide.mk (0 : Int) y) (ref01_Wide.mk (0 : Int) y1)).bind fun (y2, y3) =>
    some (y2, y3)
/-- awardingbody awardingbodyref01.Mul -/
noncomputable def ref01_Mul (a : api_Ratio) (b : api_Ratio) : Option (api_Ratio × Int) :=
  (ref01_Valid a).bind fun y =>
  req (((!(!y)) = true → (ref01_Valid b).isSome = true)) <|
  bif ((!y) || (!((ref01_Valid b).getD default))) then
    some ((api_Ratio.mk (0 : Int) (0 : Int)), (1 : Int))
  else
    (ref01_Size a.Num).bind fun y1 =>
    (ref01_Size b.Num).bind fun y2 =>
    (ref01_Product y1 y2).bind fun y3 =>
    (ref01_Size a.Den).bind fun y4 =>
    (ref01_Size b.Den).bind fun y5 =>
    (ref01_Product y4 y5).bind fun y6 =>
    (ref01_Reduce (!((decide (a.Num < (0 : Int))) == (decide (b.Num < (0 : Int))))) y3 y6).bind fun (y7, y8) =>
    some (y7, y8)
/-- awardingbody awardingbodyref01.Sum -/
noncomputable def ref01_Sum_j1 (common : Int) (common1 : Int) (s : Bool) (n : Int) (n1 : Int) : Option (api_Ratio × Int) :=
  (ref01_Reduce (s && (!((n == (0 : Int)) && (n1 == (0 : Int))))) (ref01_Wide.mk n n1) (ref01_Wide.mk common common1)).bind fun (y, y1) =>
  some (y, y1)
noncomputable def ref01_Sum_l2 (l : List api_Ratio) (common : Int) (common1 : Int) : (Bool × Int × Int × Int) → Option ((Bool × Int × Int × Int) ⊕ (Bool × Int × Int)) :=
  fun (s1, i, n2, n3) =>
    bif (decide (i < (l.length : Int))) then
      req ((0 ≤ i ∧ i < (l.length : Int))) <|
      (ref01_Size ((ix l i).Den)).bind fun y2 =>
      (ref01_Divide (ref01_Wide.mk common common1) (ref01_Wide.mk (0 : Int) y2)).bind fun (y3, y4) =>
      req ((0 ≤ i ∧ i < (l.length : Int))) <|
      (ref01_Size ((ix l i).Num)).bind fun y5 =>
      (ref01_Product y5 y3.Lo).bind fun y6 =>
      (ref01_total s1 (ref01_Wide.mk n2 n3) (decide ((ix l i).Num < (0 : Int))) y6).bind fun (y7, y8) =>
      some (.inl (y7, (IntKind.i64.wrap (i + (1 : Int))), y8.Hi, y8.Lo))
    else
      some (.inr (s1, n2, n3))
noncomputable def ref01_Sum_j3 (l : List api_Ratio) (common : Int) (common1 : Int) : Option (api_Ratio × Int) :=
  (iter (ref01_Sum_l2 l common common1) (false, (0 : Int), (0 : Int), (0 : Int))).bind fun (s2, n4, n5) =>
  ref01_Sum_j1 common common1 s2 n4 n5
noncomputable def ref01_Sum_l4 (l : List api_Ratio) : (Int × Int × Int) → Option ((Int × Int × Int) ⊕ ((Int × Int) ⊕ (api_Ratio × Int))) :=
  fun (i1, common2, common3) =>
    bif (decide (i1 < (l.length : Int))) then
      req ((0 ≤ i1 ∧ i1 < (l.length : Int))) <|
      (ref01_Size ((ix l i1).Den)).bind fun y9 =>
      (ref01_Divisor (ref01_Wide.mk common2 common3) (ref01_Wide.mk (0 : Int) y9)).bind fun y10 =>
      (ref01_Divide (ref01_Wide.mk (0 : Int) y9) y10).bind fun (y11, y12) =>
      (ref01_Product common3 y11.Lo).bind fun y13 =>
      bif ((decide ((0 : Int) < y13.Hi)) || (decide ((1152921504606846976 : Int) < y13.Lo))) then
        some (.inr (.inr ((api_Ratio.mk (0 : Int) (0 : Int)), (6 : Int))))
      else
        some (.inl ((IntKind.i64.wrap (i1 + (1 : Int))), y13.Hi, y13.Lo))
    else
      some (.inr (.inl (common2, common3)))
noncomputable def ref01_Sum_j5 (l : List api_Ratio) : Option (api_Ratio × Int) :=
  (iter (ref01_Sum_l4 l) ((0 : Int), (0 : Int), (1 : Int))).bind fun x_ =>
  match x_ with
  | .inl (common4, common5) => ref01_Sum_j3 l common4 common5
  | .inr t_ => some t_
noncomputable def ref01_Sum_l6 (l : List api_Ratio) : Int → Option (Int ⊕ (Unit ⊕ (api_Ratio × Int))) :=
  fun i2 =>
    bif (decide (i2 < (l.length : Int))) then
      req ((0 ≤ i2 ∧ i2 < (l.length : Int))) <|
      (ref01_Valid (ix l i2)).bind fun y14 =>
      bif (!y14) then
        some (.inr (.inr ((api_Ratio.mk (0 : Int) (0 : Int)), (1 : Int))))
      else
        some (.inl (IntKind.i64.wrap (i2 + (1 : Int))))
    else
      some (.inr (.inl ()))
noncomputable def ref01_Sum (l : List api_Ratio) : Option (api_Ratio × Int) :=
  bif (decide ((100 : Int) < (l.length : Int))) then
    some ((api_Ratio.mk (0 : Int) (0 : Int)), (3 : Int))
  else
    (iter (ref01_Sum_l6 l) (0 : Int)).bind fun x_ =>
    match x_ with
    | .inl () => ref01_Sum_j5 l
    | .inr t_ => some t_
/-- awardingbody awardingbodyref36.mean -/
noncomputable def ref36_mean_j1 (weight : Int) (parts : List api_Ratio) : Option (Int × api_Ratio × Int) :=
  bif (weight == (0 : Int)) then
    some ((0 : Int), (api_Ratio.mk (0 : Int) (0 : Int)), (10 : Int))
  else
    (ref01_Sum parts).bind fun (y, y1) =>
    some (weight, y, y1)
noncomputable def ref36_mean_j2 (i : Int) (weight3 : Int) (parts3 : List api_Ratio) : Option ((Int × Int × (List api_Ratio)) ⊕ ((Int × (List api_Ratio)) ⊕ (Int × api_Ratio × Int))) :=
  some (.inl (weight3, (IntKind.i64.wrap (i + (1 : Int))), parts3))
noncomputable def ref36_mean_l3 (a : api_Award) (l : List api_UnitMark) : (Int × Int × (List api_Ratio)) → Option ((Int × Int × (List api_Ratio)) ⊕ ((Int × (List api_Ratio)) ⊕ (Int × api_Ratio × Int))) :=
  fun (weight1, i, parts1) =>
    bif (decide (i < (l.length : Int))) then
      req ((0 ≤ i ∧ i < (l.length : Int))) <|
      bif ((ix l i).Kind == (2 : Int)) then
        ref36_mean_j2 i weight1 parts1
      else
        req ((0 ≤ i ∧ i < (a.Units.length : Int))) <|
        req ((0 ≤ i ∧ i < (a.Units.length : Int))) <|
        (ref01_New ((ix a.Units i).Weight) ((ix a.Units i).Max)).bind fun (y2, y3) =>
        req ((0 ≤ i ∧ i < (l.length : Int))) <|
        (ref01_Mul ((ix l i).Value) y2).bind fun (y4, y5) =>
        bif (y5 != (0 : Int)) then
          some (.inr (.inr ((0 : Int), (api_Ratio.mk (0 : Int) (0 : Int)), y5)))
        else
          req ((parts1.length + ([y4]).length) * 16 ≤ 140737488355328) <|
          ref36_mean_j2 i (IntKind.i64.wrap (weight1 + (ix a.Units i).Weight)) (parts1 ++ [y4])
    else
      some (.inr (.inl (weight1, parts1)))
noncomputable def ref36_mean (a : api_Award) (l : List api_UnitMark) : Option (Int × api_Ratio × Int) :=
  (iter (ref36_mean_l3 a l) ((0 : Int), (0 : Int), ([] : List api_Ratio))).bind fun x_ =>
  match x_ with
  | .inl (weight2, parts2) => ref36_mean_j1 weight2 parts2
  | .inr t_ => some t_
/-- awardingbody awardingbodyref01.Add -/
noncomputable def ref01_Add (a : api_Ratio) (b : api_Ratio) : Option (api_Ratio × Int) :=
  (ref01_Valid a).bind fun y =>
  req (((!(!y)) = true → (ref01_Valid b).isSome = true)) <|
  bif ((!y) || (!((ref01_Valid b).getD default))) then
    some ((api_Ratio.mk (0 : Int) (0 : Int)), (1 : Int))
  else
    (ref01_Size a.Num).bind fun y1 =>
    (ref01_Size b.Den).bind fun y2 =>
    (ref01_Product y1 y2).bind fun y3 =>
    (ref01_Size b.Num).bind fun y4 =>
    (ref01_Size a.Den).bind fun y5 =>
    (ref01_Product y4 y5).bind fun y6 =>
    (ref01_total (decide (a.Num < (0 : Int))) y3 (decide (b.Num < (0 : Int))) y6).bind fun (y7, y8) =>
    (ref01_Size a.Den).bind fun y9 =>
    (ref01_Size b.Den).bind fun y10 =>
    (ref01_Product y9 y10).bind fun y11 =>
    (ref01_Reduce y7 y8 y11).bind fun (y12, y13) =>
    some (y12, y13)
/-- awardingbody awardingbodyref36.Exact -/
noncomputable def ref36_Exact_j1 (a : api_Award) (l : List api_UnitMark) (special : Int) : Option (api_Ratio × Int) :=
  (ref36_mean a l).bind fun (y2, y3, y4) =>
  bif (y4 != (0 : Int)) then
    some ((api_Ratio.mk (0 : Int) (0 : Int)), y4)
  else
    (ref01_New a.Max y2).bind fun (y5, y6) =>
    (ref01_Mul y3 y5).bind fun (y7, y8) =>
    bif (y8 != (0 : Int)) then
      some ((api_Ratio.mk (0 : Int) (0 : Int)), y8)
    else
      (ref01_New (IntKind.i64.wrap (special * a.Max)) (1000 : Int)).bind fun (y9, y10) =>
      (ref01_Add y7 y9).bind fun (y11, y12) =>
      bif (y12 != (0 : Int)) then
        some ((api_Ratio.mk (0 : Int) (0 : Int)), y12)
      else
        (ref01_Less (api_Ratio.mk a.Max (1 : Int)) y11).bind fun y13 =>
        bif y13 then
          some ((api_Ratio.mk a.Max (1 : Int)), (0 : Int))
        else
          some (y11, (0 : Int))
noncomputable def ref36_Exact_l2 (l : List api_UnitMark) : Int → Option (Int ⊕ (Unit ⊕ (api_Ratio × Int))) :=
  fun i =>
    bif (decide (i < (l.length : Int))) then
      req ((0 ≤ i ∧ i < (l.length : Int))) <|
      bif ((ix l i).Kind == (3 : Int)) then
        some (.inr (.inr ((api_Ratio.mk (0 : Int) (0 : Int)), (8 : Int))))
      else
        some (.inl (IntKind.i64.wrap (i + (1 : Int))))
    else
      some (.inr (.inl ()))
noncomputable def ref36_Exact (a : api_Award) (l : List api_UnitMark) (special : Int) : Option (api_Ratio × Int) :=
  (ref36_Check a).bind fun y =>
  req (((!(y != (0 : Int))) = true → (ref36_Fit a l).isSome = true)) <|
  bif ((y != (0 : Int)) || (!((ref36_Fit a l).getD default))) then
    some ((api_Ratio.mk (0 : Int) (0 : Int)), (1 : Int))
  else
    (ref36_in special (0 : Int) (50 : Int)).bind fun y1 =>
    bif (!y1) then
      some ((api_Ratio.mk (0 : Int) (0 : Int)), (2 : Int))
    else
      (iter (ref36_Exact_l2 l) (0 : Int)).bind fun x_ =>
      match x_ with
      | .inl () => ref36_Exact_j1 a l special
      | .inr t_ => some t_
/-- awardingbody awardingbodyref01.floor -/
noncomputable def ref01_floor_j1 (q : Int) : Option Int :=
  some q
noncomputable def ref01_floor (n : Int) (d : Int) : Option Int :=
  req (d ≠ 0) <|
  req (d ≠ 0) <|
  bif (decide ((Int.tmod n d) < (0 : Int))) then
    ref01_floor_j1 (IntKind.i64.wrap ((IntKind.i64.wrap (Int.tdiv n d)) - (1 : Int)))
  else
    ref01_floor_j1 (IntKind.i64.wrap (Int.tdiv n d))
/-- awardingbody awardingbodyref01.Round -/
noncomputable def ref01_Round (a : api_Ratio) : Option Int :=
  (ref01_Valid a).bind fun y =>
  bif (!y) then
    some (0 : Int)
  else
    (ref01_floor (IntKind.i64.wrap ((IntKind.i64.wrap ((2 : Int) * a.Num)) + a.Den)) (IntKind.i64.wrap ((2 : Int) * a.Den))).bind fun y1 =>
    some y1
/-- awardingbody awardingbodyref36.Total -/
noncomputable def ref36_Total (a : api_Award) (l : List api_UnitMark) (special : Int) : Option (Int × Int) :=
  (ref36_Exact a l special).bind fun (y, y1) =>
  bif (y1 != (0 : Int)) then
    some ((0 : Int), y1)
  else
    (ref01_Round y).bind fun y2 =>
    some (y2, (0 : Int))
/-- awardingbody awardingbodyref35.Grade -/
noncomputable def ref35_Grade_j1 (b : List Int) : Option Int :=
  some (b.length : Int)
noncomputable def ref35_Grade_l2 (b : List Int) (mark : Int) : Int → Option (Int ⊕ (Unit ⊕ Int)) :=
  fun i =>
    bif (decide (i < (b.length : Int))) then
      req ((0 ≤ i ∧ i < (b.length : Int))) <|
      bif (decide ((ix b i) ≤ mark)) then
        some (.inr (.inr i))
      else
        some (.inl (IntKind.i64.wrap (i + (1 : Int))))
    else
      some (.inr (.inl ()))
noncomputable def ref35_Grade (b : List Int) (mark : Int) : Option Int :=
  (iter (ref35_Grade_l2 b mark) (0 : Int)).bind fun x_ =>
  match x_ with
  | .inl () => ref35_Grade_j1 b
  | .inr t_ => some t_
/-- awardingbody awardingbodyref36.Decide -/
noncomputable def ref36_Decide_j1 (a : api_Award) (l : List api_UnitMark) (special : Int) (there : Bool) : Option (Int × Int × Int × Int) :=
  bif (!there) then
    some ((1 : Int), (0 : Int), (0 : Int), (0 : Int))
  else
    (ref36_Total a l special).bind fun (y2, y3) =>
    bif (y3 != (0 : Int)) then
      some ((0 : Int), (0 : Int), (0 : Int), y3)
    else
      (ref35_Grade a.Bounds y2).bind fun y4 =>
      some ((0 : Int), y4, y2, (0 : Int))
noncomputable def ref36_Decide_l2 (l : List api_UnitMark) : (Bool × Int) → Option ((Bool × Int) ⊕ (Bool ⊕ (Int × Int × Int × Int))) :=
  fun (there1, i) =>
    bif (decide (i < (l.length : Int))) then
      req ((0 ≤ i ∧ i < (l.length : Int))) <|
      bif ((ix l i).Kind == (3 : Int)) then
        some (.inr (.inr ((2 : Int), (0 : Int), (0 : Int), (0 : Int))))
      else
        req (((!there1) = true → 0 ≤ i ∧ i < (l.length : Int))) <|
        some (.inl ((there1 || ((ix l i).Kind == (0 : Int))), (IntKind.i64.wrap (i + (1 : Int)))))
    else
      some (.inr (.inl there1))
noncomputable def ref36_Decide (a : api_Award) (l : List api_UnitMark) (special : Int) : Option (Int × Int × Int × Int) :=
  (ref36_Check a).bind fun y =>
  req (((!(y != (0 : Int))) = true → (ref36_Fit a l).isSome = true)) <|
  bif ((y != (0 : Int)) || (!((ref36_Fit a l).getD default))) then
    some ((0 : Int), (0 : Int), (0 : Int), (1 : Int))
  else
    (ref36_in special (0 : Int) (50 : Int)).bind fun y1 =>
    bif (!y1) then
      some ((0 : Int), (0 : Int), (0 : Int), (2 : Int))
    else
      (iter (ref36_Decide_l2 l) (false, (0 : Int))).bind fun x_ =>
      match x_ with
      | .inl there2 => ref36_Decide_j1 a l special there2
      | .inr t_ => some t_
/-- awardingbody awardingbodyref36.Estimate -/
noncomputable def ref36_Estimate (a : api_Award) (l : List api_UnitMark) (unit : Int) : Option (api_Ratio × Int) :=
  bif ((decide (unit < (0 : Int))) || (decide ((a.Units.length : Int) ≤ unit))) then
    some ((api_Ratio.mk (0 : Int) (0 : Int)), (4 : Int))
  else
    (ref36_Exact a l (0 : Int)).bind fun (y, y1) =>
    bif (y1 != (0 : Int)) then
      some ((api_Ratio.mk (0 : Int) (0 : Int)), y1)
    else
      (ref36_mean a l).bind fun (y2, y3, y4) =>
      req ((0 ≤ unit ∧ unit < (a.Units.length : Int))) <|
      (ref01_New ((ix a.Units unit).Max) y2).bind fun (y5, y6) =>
      (ref01_Mul y3 y5).bind fun (y7, y8) =>
      some (y7, y8)
/-- awardingbody awardingbodylaw36.AggregateExact -/
noncomputable def law36_AggregateExact_j1  : Option Bool :=
  (law36_sane).bind fun y11 =>
  some y11
noncomputable def law36_AggregateExact_j2 (v : Int) (w5 : List Int) (w6 : Int) : Option ((Int × (List Int) × Int) ⊕ (Unit ⊕ Bool)) :=
  some (.inl ((IntKind.i64.wrap (v + (1 : Int))), w5, w6))
noncomputable def law36_AggregateExact_j3 (v1 : Int) (w11 : List Int) (w12 : Int) : Option ((Int × (List Int) × Int) ⊕ (((List Int) × Int) ⊕ ((Int × (List Int) × Int) ⊕ (Unit ⊕ Bool)))) :=
  some (.inl ((IntKind.i64.wrap (v1 + (1 : Int))), w11, w12))
noncomputable def law36_AggregateExact_l4 (raw : api_Award) (marks : List api_UnitMark) (unit : Int) (y5 : api_Award) (y7 : List api_UnitMark) (w : List api_UnitMark) (y12 : api_Award) (v : Int) (v1 : Int) (y16 : Int) : Int → Option (Int ⊕ (Unit ⊕ ((Int × (List Int) × Int) ⊕ (((List Int) × Int) ⊕ ((Int × (List Int) × Int) ⊕ (Unit ⊕ Bool)))))) :=
  fun v2 =>
    bif (decide (v2 < (2 : Int))) then
      req ((0 ≤ v2 ∧ v2 < 2)) <|
      (aggregate_Estimate (ix [y5, y12, raw] v) (ix [y7, w, marks] v1) (ix [unit, (IntKind.i64.wrap (y16 - (1 : Int)))] v2)).bind fun (y18, y19) =>
      (ref36_Estimate (ix [y5, y12, raw] v) (ix [y7, w, marks] v1) (ix [unit, (IntKind.i64.wrap (y16 - (1 : Int)))] v2)).bind fun (y20, y21) =>
      bif ((!((y18.Num == y20.Num) && (y18.Den == y20.Den))) || (y19 != y21)) then
        some (.inr (.inr (.inr (.inr (.inr (.inr false))))))
      else
        some (.inl (IntKind.i64.wrap (v2 + (1 : Int))))
    else
      some (.inr (.inl ()))
noncomputable def law36_AggregateExact_j5 (raw : api_Award) (marks : List api_UnitMark) (unit : Int) (y5 : api_Award) (y7 : List api_UnitMark) (w : List api_UnitMark) (y12 : api_Award) (v : Int) (v1 : Int) (w13 : List Int) (w14 : Int) : Option ((Int × (List Int) × Int) ⊕ (((List Int) × Int) ⊕ ((Int × (List Int) × Int) ⊕ (Unit ⊕ Bool)))) :=
  (mark_Dice_Next (mark_Dice.mk w13 w14) (5 : Int)).bind fun (y16, y17) =>
  (iter (law36_AggregateExact_l4 raw marks unit y5 y7 w y12 v v1 y16) (0 : Int)).bind fun x_ =>
  match x_ with
  | .inl () => law36_AggregateExact_j3 v1 y17.L y17.At
  | .inr t_ => some t_
noncomputable def law36_AggregateExact_l6 (raw : api_Award) (marks : List api_UnitMark) (special : Int) (y5 : api_Award) (y7 : List api_UnitMark) (w : List api_UnitMark) (y12 : api_Award) (v : Int) (v1 : Int) (y22 : Int) : Int → Option (Int ⊕ (Unit ⊕ ((Int × (List Int) × Int) ⊕ (((List Int) × Int) ⊕ ((Int × (List Int) × Int) ⊕ (Unit ⊕ Bool)))))) :=
  fun v3 =>
    bif (decide (v3 < (3 : Int))) then
      req ((0 ≤ v3 ∧ v3 < 3)) <|
      (aggregate_Exact (ix [y5, y12, raw] v) (ix [y7, w, marks] v1) (ix [special, y22, (0 : Int)] v3)).bind fun (y24, y25) =>
      (ref36_Exact (ix [y5, y12, raw] v) (ix [y7, w, marks] v1) (ix [special, y22, (0 : Int)] v3)).bind fun (y26, y27) =>
      (aggregate_Total (ix [y5, y12, raw] v) (ix [y7, w, marks] v1) (ix [special, y22, (0 : Int)] v3)).bind fun (y28, y29) =>
      (ref36_Total (ix [y5, y12, raw] v) (ix [y7, w, marks] v1) (ix [special, y22, (0 : Int)] v3)).bind fun (y30, y31) =>
      (aggregate_Decide (ix [y5, y12, raw] v) (ix [y7, w, marks] v1) (ix [special, y22, (0 : Int)] v3)).bind fun (y32, y33, y34, y35) =>
      (ref36_Decide (ix [y5, y12, raw] v) (ix [y7, w, marks] v1) (ix [special, y22, (0 : Int)] v3)).bind fun (y36, y37, y38, y39) =>
      bif ((((((((!((y24.Num == y26.Num) && (y24.Den == y26.Den))) || (y25 != y27)) || (y28 != y30)) || (y29 != y31)) || (y32 != y36)) || (y33 != y37)) || (y34 != y38)) || (y35 != y39)) then
        some (.inr (.inr (.inr (.inr (.inr (.inr false))))))
      else
        some (.inl (IntKind.i64.wrap (v3 + (1 : Int))))
    else
      some (.inr (.inl ()))
noncomputable def law36_AggregateExact_l7 (raw : api_Award) (marks : List api_UnitMark) (special : Int) (unit : Int) (y5 : api_Award) (y7 : List api_UnitMark) (w : List api_UnitMark) (y12 : api_Award) (v : Int) : (Int × (List Int) × Int) → Option ((Int × (List Int) × Int) ⊕ (((List Int) × Int) ⊕ ((Int × (List Int) × Int) ⊕ (Unit ⊕ Bool)))) :=
  fun (v1, w7, w8) =>
    bif (decide (v1 < (3 : Int))) then
      req ((0 ≤ v1 ∧ v1 < 3)) <|
      (mark_Dice_Pick (mark_Dice.mk w7 w8) ([(0 : Int), (20 : Int), (50 : Int), (51 : Int)])).bind fun (y22, y23) =>
      (iter (law36_AggregateExact_l6 raw marks special y5 y7 w y12 v v1 y22) (0 : Int)).bind fun x_ =>
      match x_ with
      | .inl () => law36_AggregateExact_j5 raw marks unit y5 y7 w y12 v v1 y23.L y23.At
      | .inr t_ => some t_
    else
      some (.inr (.inl (w7, w8)))
noncomputable def law36_AggregateExact_l8 (raw : api_Award) (marks : List api_UnitMark) (special : Int) (unit : Int) (y5 : api_Award) (y7 : List api_UnitMark) (w : List api_UnitMark) (y12 : api_Award) : (Int × (List Int) × Int) → Option ((Int × (List Int) × Int) ⊕ (Unit ⊕ Bool)) :=
  fun (v, w3, w4) =>
    bif (decide (v < (3 : Int))) then
      req ((0 ≤ v ∧ v < 3)) <|
      (aggregate_Check (ix [y5, y12, raw] v)).bind fun y14 =>
      (ref36_Check (ix [y5, y12, raw] v)).bind fun y15 =>
      bif (y14 != y15) then
        some (.inr (.inr false))
      else
        (iter (law36_AggregateExact_l7 raw marks special unit y5 y7 w y12 v) ((0 : Int), w3, w4)).bind fun x_ =>
        match x_ with
        | .inl (w9, w10) => law36_AggregateExact_j2 v w9 w10
        | .inr t_ => some t_
    else
      some (.inr (.inl ()))
noncomputable def law36_AggregateExact_j9 (raw : api_Award) (marks : List api_UnitMark) (special : Int) (unit : Int) (y5 : api_Award) (y7 : List api_UnitMark) (w : List api_UnitMark) (w1 : List Int) (w2 : Int) : Option Bool :=
  (law36_odd (mark_Dice.mk w1 w2) y5).bind fun (y12, y13) =>
  (iter (law36_AggregateExact_l8 raw marks special unit y5 y7 w y12) ((0 : Int), y13.L, y13.At)).bind fun x_ =>
  match x_ with
  | .inl () => law36_AggregateExact_j1
  | .inr t_ => some t_
noncomputable def law36_AggregateExact (t : List Int) (raw : api_Award) (marks : List api_UnitMark) (special : Int) (unit : Int) : Option Bool :=
  (mark_Light t).bind fun y =>
  bif ((((!y) || (decide ((10 : Int) < (raw.Units.length : Int)))) || (decide ((20 : Int) < (raw.Bounds.length : Int)))) || (decide ((10 : Int) < (marks.length : Int)))) then
    (law36_sane).bind fun y1 =>
    some y1
  else
    (mark_Roll t).bind fun y2 =>
    (mark_Dice_Next y2 (4 : Int)).bind fun (y3, y4) =>
    (mark_Dice_Award y4 (IntKind.i64.wrap ((1 : Int) + y3))).bind fun (y5, y6) =>
    (mark_Dice_Marks y6 y5).bind fun (y7, y8) =>
    req (y7.length * 24 ≤ 140737488355328) <|
    (mark_Dice_Next y8 (y7.length : Int)).bind fun (y9, y10) =>
    req ((0 ≤ y9 ∧ y9 < (y7.length : Int))) <|
    (mark_Dice_Next y10 (4 : Int)).bind fun (y40, y41) =>
    bif (y40 == (0 : Int)) then
      (mark_Dice_Pick y41 ([(-1 : Int), (0 : Int), (3 : Int), (4 : Int)])).bind fun (y42, y43) =>
      law36_AggregateExact_j9 raw marks special unit y5 y7 (setI y7 y9 (api_UnitMark.mk y42 ((ix y7 y9).Value))) y43.L y43.At
    else
      bif (y40 == (1 : Int)) then
        (mark_Dice_Pick y41 ([(-1 : Int), (0 : Int), (50 : Int), (51 : Int)])).bind fun (y44, y45) =>
        (law36_whole y44).bind fun y46 =>
        law36_AggregateExact_j9 raw marks special unit y5 y7 (setI y7 y9 (api_UnitMark.mk ((ix y7 y9).Kind) y46)) y45.L y45.At
      else
        bif (y40 == (2 : Int)) then
          (mark_Dice_Pick y41 ([(0 : Int), (2 : Int), (3 : Int)])).bind fun (y47, y48) =>
          bindV (setI y7 y9 (api_UnitMark.mk ((ix y7 y9).Kind) (api_Ratio.mk (((ix y7 y9).Value).Num) y47))) fun w15 =>
          law36_AggregateExact_j9 raw marks special unit y5 y7 w15 y48.L y48.At
        else
          bindV (setI y7 y9 (api_UnitMark.mk ((ix y7 y9).Kind) (api_Ratio.mk (1152921504606846975 : Int) (1152921504606846976 : Int)))) fun w16 =>
          law36_AggregateExact_j9 raw marks special unit y5 y7 w16 y41.L y41.At
end Go.LS
