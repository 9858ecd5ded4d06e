/-
  Plain functions that the program's functions compute. No condition: definitions, printed by dec.py.
-/
import Derived.Test.YtamifffofclhkaaD0
namespace Go.LS
set_option linter.all false
set_option linter.unusedSimpArgs false
set_option linter.unusedVariables false
set_option maxRecDepth 20000

/-- awardingbody awardingbodymark.Roll -/
noncomputable def mark_Roll (l : List Int) : Option mark_Dice :=
  some (mark_Dice.mk l (0 : Int))
/-- (ptr awardingbody awardingbodymark.Dice).Next -/
noncomputable def mark_Dice_Next_j1 (d : mark_Dice) (x : Int) : Option (Int × mark_Dice) :=
  some (x, (mark_Dice.mk d.L (IntKind.i64.wrap (d.At + (1 : Int)))))
noncomputable def mark_Dice_Next (d : mark_Dice) (n : Int) : Option (Int × mark_Dice) :=
  bif ((decide ((d.L.length : Int) ≤ d.At)) || (decide (n < (1 : Int)))) then
    some ((0 : Int), d)
  else
    req ((0 ≤ d.At ∧ d.At < (d.L.length : Int)) ∧ n ≠ 0) <|
    bif (decide ((Int.tmod (ix d.L d.At) n) < (0 : Int))) then
      mark_Dice_Next_j1 d (IntKind.i64.wrap ((Int.tmod (ix d.L d.At) n) + n))
    else
      mark_Dice_Next_j1 d (Int.tmod (ix d.L d.At) n)
/-- (ptr awardingbody awardingbodymark.Dice).Bounds -/
noncomputable def mark_Dice_Bounds_j1 (d1 : List Int) (d2 : Int) (out : List Int) : Option ((List Int) × mark_Dice) :=
  some (out, (mark_Dice.mk d1 d2))
noncomputable def mark_Dice_Bounds_l2  : (Int × Int × (List Int) × Int × (List Int)) → Option ((Int × Int × (List Int) × Int × (List Int)) ⊕ ((List Int) × Int × (List Int))) :=
  fun (b, i, d3, d4, out1) =>
    bif (decide ((0 : Int) < i)) then
      (mark_Dice_Next (mark_Dice.mk d3 d4) (IntKind.i64.wrap ((IntKind.i64.wrap (Int.tdiv b (2 : Int))) + (1 : Int)))).bind fun (y2, y3) =>
      req ((out1.length + ([(IntKind.i64.wrap (b - y2))]).length) * 8 ≤ 140737488355328) <|
      some (.inl ((IntKind.i64.wrap (b - y2)), (IntKind.i64.wrap (i - (1 : Int))), y3.L, y3.At, (out1 ++ [(IntKind.i64.wrap (b - y2))])))
    else
      some (.inr (d3, d4, out1))
noncomputable def mark_Dice_Bounds (d : mark_Dice) (most : Int) : Option ((List Int) × mark_Dice) :=
  (mark_Dice_Next d (4 : Int)).bind fun (y, y1) =>
  (iter (mark_Dice_Bounds_l2) ((IntKind.i64.wrap (most + (1 : Int))), (IntKind.i64.wrap ((1 : Int) + y)), y1.L, y1.At, ([] : List Int))).bind fun (d5, d6, out2) =>
  mark_Dice_Bounds_j1 d5 d6 out2
/-- awardingbody boundary.Grade -/
noncomputable def boundary_Grade_j1 (b : List Int) : Option Int :=
  some (b.length : Int)
noncomputable def boundary_Grade_l2 (b : List Int) (mark : Int) : Int → Option (Int ⊕ (Unit ⊕ Int)) :=
  fun v =>
    bif (decide (v < (b.length : Int))) then
      req ((0 ≤ v ∧ v < (b.length : Int))) <|
      bif (decide ((ix b v) ≤ mark)) then
        some (.inr (.inr v))
      else
        some (.inl (IntKind.i64.wrap (v + (1 : Int))))
    else
      some (.inr (.inl ()))
noncomputable def boundary_Grade (b : List Int) (mark : Int) : Option Int :=
  (iter (boundary_Grade_l2 b mark) (0 : Int)).bind fun x_ =>
  match x_ with
  | .inl () => boundary_Grade_j1 b
  | .inr t_ => some t_
/-- (ptr awardingbody awardingbodymark.Dice).Curve -/
noncomputable def mark_Dice_Curve_j1 (d1 : List Int) (d2 : Int) (c : List api_Point) : Option (api_Curve × mark_Dice) :=
  some ((api_Curve.mk c), (mark_Dice.mk d1 d2))
noncomputable def mark_Dice_Curve_l2  : (Int × Int × Int × (List Int) × Int × (List api_Point)) → Option ((Int × Int × Int × (List Int) × Int × (List api_Point)) ⊕ ((List Int) × Int × (List api_Point))) :=
  fun (x1, y11, i, d3, d4, w1) =>
    bif (decide ((0 : Int) < i)) then
      (mark_Dice_Next (mark_Dice.mk d3 d4) (3 : Int)).bind fun (y12, y13) =>
      (mark_Dice_Next y13 (4 : Int)).bind fun (y14, y15) =>
      req ((w1.length + ([(api_Point.mk (api_Ratio.mk (IntKind.i64.wrap ((IntKind.i64.wrap (x1 + (1 : Int))) + y12)) (1 : Int)) (api_Ratio.mk (IntKind.i64.wrap ((IntKind.i64.wrap (y11 + (1 : Int))) + y14)) (1 : Int)))]).length) * 32 ≤ 140737488355328) <|
      bindV (w1 ++ [(api_Point.mk (api_Ratio.mk (IntKind.i64.wrap ((IntKind.i64.wrap (x1 + (1 : Int))) + y12)) (1 : Int)) (api_Ratio.mk (IntKind.i64.wrap ((IntKind.i64.wrap (y11 + (1 : Int))) + y14)) (1 : Int)))]) fun w3 =>
      some (.inl ((IntKind.i64.wrap ((IntKind.i64.wrap (x1 + (1 : Int))) + y12)), (IntKind.i64.wrap ((IntKind.i64.wrap (y11 + (1 : Int))) + y14)), (IntKind.i64.wrap (i - (1 : Int))), y15.L, y15.At, w3))
    else
      some (.inr (d3, d4, w1))
noncomputable def mark_Dice_Curve (d : mark_Dice) : Option (api_Curve × mark_Dice) :=
  (mark_Dice_Next d (9 : Int)).bind fun (y, y1) =>
  (mark_Dice_Next y1 (9 : Int)).bind fun (y2, y3) =>
  (mark_Dice_Next y3 (4 : Int)).bind fun (y4, y5) =>
  bif (decide ((0 : Int) < (IntKind.i64.wrap ((1 : Int) + y4)))) then
    (mark_Dice_Next y5 (3 : Int)).bind fun (y6, y7) =>
    (mark_Dice_Next y7 (4 : Int)).bind fun (y8, y9) =>
    bindV (IntKind.i64.wrap ((IntKind.i64.wrap ((IntKind.i64.wrap (y - (4 : Int))) + (1 : Int))) + y6)) fun x =>
    bindV (IntKind.i64.wrap ((IntKind.i64.wrap ((IntKind.i64.wrap (y2 - (4 : Int))) + (1 : Int))) + y8)) fun y10 =>
    req ((([(api_Point.mk (api_Ratio.mk (IntKind.i64.wrap (y - (4 : Int))) (1 : Int)) (api_Ratio.mk (IntKind.i64.wrap (y2 - (4 : Int))) (1 : Int)))]).length + ([(api_Point.mk (api_Ratio.mk x (1 : Int)) (api_Ratio.mk y10 (1 : Int)))]).length) * 32 ≤ 140737488355328) <|
    bindV ([(api_Point.mk (api_Ratio.mk (IntKind.i64.wrap (y - (4 : Int))) (1 : Int)) (api_Ratio.mk (IntKind.i64.wrap (y2 - (4 : Int))) (1 : Int)))] ++ [(api_Point.mk (api_Ratio.mk x (1 : Int)) (api_Ratio.mk y10 (1 : Int)))]) fun w =>
    (iter (mark_Dice_Curve_l2) (x, y10, (IntKind.i64.wrap ((IntKind.i64.wrap ((1 : Int) + y4)) - (1 : Int))), y9.L, y9.At, w)).bind fun (d5, d6, w2) =>
    mark_Dice_Curve_j1 d5 d6 w2
  else
    mark_Dice_Curve_j1 y5.L y5.At ([(api_Point.mk (api_Ratio.mk (IntKind.i64.wrap (y - (4 : Int))) (1 : Int)) (api_Ratio.mk (IntKind.i64.wrap (y2 - (4 : Int))) (1 : Int)))])
/-- awardingbody boundary.isScore -/
noncomputable def boundary_isScore (n : Int) : Option Bool :=
  some ((decide ((0 : Int) ≤ n)) && (decide (n ≤ (200 : Int))))
/-- awardingbody boundary.Check -/
noncomputable def boundary_Check_j1  : Option Int :=
  some (0 : Int)
noncomputable def boundary_Check_l2 (b : List Int) : Int → Option (Int ⊕ (Unit ⊕ Int)) :=
  fun i =>
    bif (decide (i < (b.length : Int))) then
      req ((0 ≤ i ∧ i < (b.length : Int)) ∧ (0 ≤ (IntKind.i64.wrap (i - (1 : Int))) ∧ (IntKind.i64.wrap (i - (1 : Int))) < (b.length : Int))) <|
      bif (decide ((ix b (IntKind.i64.wrap (i - (1 : Int)))) < (ix b i))) then
        some (.inr (.inr (43 : Int)))
      else
        some (.inl (IntKind.i64.wrap (i + (1 : Int))))
    else
      some (.inr (.inl ()))
noncomputable def boundary_Check_j3 (b : List Int) : Option Int :=
  (iter (boundary_Check_l2 b) (1 : Int)).bind fun x_ =>
  match x_ with
  | .inl () => boundary_Check_j1
  | .inr t_ => some t_
noncomputable def boundary_Check_l4 (b : List Int) (most : Int) : Int → Option (Int ⊕ (Unit ⊕ Int)) :=
  fun v =>
    bif (decide (v < (b.length : Int))) then
      req ((0 ≤ v ∧ v < (b.length : Int))) <|
      bif ((decide ((ix b v) < (0 : Int))) || (decide ((IntKind.i64.wrap (most + (1 : Int))) < (ix b v)))) then
        some (.inr (.inr (2 : Int)))
      else
        some (.inl (IntKind.i64.wrap (v + (1 : Int))))
    else
      some (.inr (.inl ()))
noncomputable def boundary_Check (b : List Int) (most : Int) : Option Int :=
  (boundary_isScore most).bind fun y =>
  bif (!y) then
    some (2 : Int)
  else
    bif ((decide ((b.length : Int) < (1 : Int))) || (decide ((9 : Int) < (b.length : Int)))) then
      some (3 : Int)
    else
      (iter (boundary_Check_l4 b most) (0 : Int)).bind fun x_ =>
      match x_ with
      | .inl () => boundary_Check_j3 b
      | .inr t_ => some t_
/-- awardingbody ratio.magnitude -/
noncomputable def ratio_magnitude (n : Int) : Option Int :=
  bif (decide (n < (0 : Int))) then
    some (IntKind.u64.wrap (0 - (IntKind.u64.wrap n)))
  else
    some (IntKind.u64.wrap n)
/-- awardingbody ratio.gcd -/
noncomputable def ratio_gcd_j1 (a1 : Int) : Option Int :=
  some a1
noncomputable def ratio_gcd_l2  : (Int × Int) → Option ((Int × Int) ⊕ Int) :=
  fun (a2, b1) =>
    bif (b1 != (0 : Int)) then
      req (b1 ≠ 0) <|
      some (.inl (b1, (Int.tmod a2 b1)))
    else
      some (.inr a2)
noncomputable def ratio_gcd (a : Int) (b : Int) : Option Int :=
  (iter (ratio_gcd_l2) (a, b)).bind fun a3 =>
  ratio_gcd_j1 a3
/-- awardingbody ratio.Valid -/
noncomputable def ratio_Valid (a : api_Ratio) : Option Bool :=
  bif ((((decide (a.Den < (1 : Int))) || (decide ((1152921504606846976 : Int) < a.Den))) || (decide (a.Num < (-1152921504606846976 : Int)))) || (decide ((1152921504606846976 : Int) < a.Num))) then
    some false
  else
    (ratio_magnitude a.Num).bind fun y =>
    (ratio_gcd y (IntKind.u64.wrap a.Den)).bind fun y1 =>
    some (y1 == (1 : Int))
/-- math bits.Mul64 -/
noncomputable def bits_Mul64 (x : Int) (y : Int) : Option (Int × Int) :=
  bindV (IntKind.u64.wrap ((bAnd .u64 x (4294967295 : Int)) * (bAnd .u64 y (4294967295 : Int)))) fun w0 =>
  bindV (IntKind.u64.wrap ((IntKind.u64.wrap ((bShr .u64 x (32 : Int)) * (bAnd .u64 y (4294967295 : Int)))) + (bShr .u64 w0 (32 : Int)))) fun t =>
  bindV (IntKind.u64.wrap ((bAnd .u64 t (4294967295 : Int)) + (IntKind.u64.wrap ((bAnd .u64 x (4294967295 : Int)) * (bShr .u64 y (32 : Int)))))) fun w1 =>
  bindV (IntKind.u64.wrap ((IntKind.u64.wrap ((IntKind.u64.wrap ((bShr .u64 x (32 : Int)) * (bShr .u64 y (32 : Int)))) + (bShr .u64 t (32 : Int)))) + (bShr .u64 w1 (32 : Int)))) fun hi =>
  some (hi, (IntKind.u64.wrap (x * y)))
/-- awardingbody ratio.product -/
noncomputable def ratio_product (a : Int) (b : Int) : Option ratio_wide :=
  (bits_Mul64 a b).bind fun (y, y1) =>
  some (ratio_wide.mk y y1)
/-- awardingbody ratio.signedProduct -/
noncomputable def ratio_signedProduct (num : Int) (factor : Int) : Option ratio_signed :=
  (ratio_magnitude num).bind fun y =>
  (ratio_product y factor).bind fun y1 =>
  some (ratio_signed.mk (decide (num < (0 : Int))) y1)
/-- cmp.isNaN[uint64] -/
noncomputable def cmp_isNaN_uint64 (x : Int) : Option Bool :=
  some (x != x)
/-- cmp.Compare[uint64] -/
noncomputable def cmp_Compare_uint64 (x : Int) (y : Int) : Option Int :=
  (cmp_isNaN_uint64 x).bind fun y1 =>
  (cmp_isNaN_uint64 y).bind fun y2 =>
  bif y1 then
    bif y2 then
      some (0 : Int)
    else
      some (-1 : Int)
  else
    bif y2 then
      some (1 : Int)
    else
      bif (decide (x < y)) then
        some (-1 : Int)
      else
        bif (decide (y < x)) then
          some (1 : Int)
        else
          some (0 : Int)
/-- (awardingbody ratio.wide).compare -/
noncomputable def ratio_wide_compare (a : ratio_wide) (b : ratio_wide) : Option Int :=
  (cmp_Compare_uint64 a.hi b.hi).bind fun y =>
  bif (y != (0 : Int)) then
    some y
  else
    (cmp_Compare_uint64 a.lo b.lo).bind fun y1 =>
    some y1
/-- awardingbody ratio.Compare -/
noncomputable def ratio_Compare (a : api_Ratio) (b : api_Ratio) : Option Int :=
  (ratio_Valid a).bind fun y =>
  req (((!(!y)) = true → (ratio_Valid b).isSome = true)) <|
  bif ((!y) || (!((ratio_Valid b).getD default))) then
    some (0 : Int)
  else
    (ratio_signedProduct a.Num (IntKind.u64.wrap b.Den)).bind fun y1 =>
    (ratio_signedProduct b.Num (IntKind.u64.wrap a.Den)).bind fun y2 =>
    bif (y1.neg && y2.neg) then
      (ratio_wide_compare y2.abs y1.abs).bind fun y3 =>
      some y3
    else
      bif y1.neg then
        some (-1 : Int)
      else
        bif y2.neg then
          some (1 : Int)
        else
          (ratio_wide_compare y1.abs y2.abs).bind fun y4 =>
          some y4
/-- awardingbody ratio.Less -/
noncomputable def ratio_Less (a : api_Ratio) (b : api_Ratio) : Option Bool :=
  (ratio_Compare a b).bind fun y =>
  some (y == (-1 : Int))
/-- awardingbody conversion.ascending -/
noncomputable def conversion_ascending_j1  : Option Bool :=
  some true
noncomputable def conversion_ascending_l2 (points : List api_Point) : Int → Option (Int ⊕ (Unit ⊕ Bool)) :=
  fun v =>
    bif (decide (v < (points.length : Int))) then
      req ((0 ≤ v ∧ v < (points.length : Int))) <|
      (ratio_Valid ((ix points v).X)).bind fun y =>
      req (((!(!y)) = true → (ratio_Valid ((ix points v).Y)).isSome = true)) <|
      bif ((!y) || (!((ratio_Valid ((ix points v).Y)).getD default))) then
        some (.inr (.inr false))
      else
        req (((decide ((0 : Int) < v)) = true → 0 ≤ (IntKind.i64.wrap (v - (1 : Int))) ∧ (IntKind.i64.wrap (v - (1 : Int))) < (points.length : Int)) ∧ ((decide ((0 : Int) < v)) = true → (ratio_Less ((ix points (IntKind.i64.wrap (v - (1 : Int)))).X) ((ix points v).X)).isSome = true) ∧ (((decide ((0 : Int) < v)) && (!(!((ratio_Less ((ix points (IntKind.i64.wrap (v - (1 : Int)))).X) ((ix points v).X)).getD default)))) = true → 0 ≤ (IntKind.i64.wrap (v - (1 : Int))) ∧ (IntKind.i64.wrap (v - (1 : Int))) < (points.length : Int)) ∧ (((decide ((0 : Int) < v)) && (!(!((ratio_Less ((ix points (IntKind.i64.wrap (v - (1 : Int)))).X) ((ix points v).X)).getD default)))) = true → (ratio_Less ((ix points (IntKind.i64.wrap (v - (1 : Int)))).Y) ((ix points v).Y)).isSome = true)) <|
        bif ((decide ((0 : Int) < v)) && ((!((ratio_Less ((ix points (IntKind.i64.wrap (v - (1 : Int)))).X) ((ix points v).X)).getD default)) || (!((ratio_Less ((ix points (IntKind.i64.wrap (v - (1 : Int)))).Y) ((ix points v).Y)).getD default)))) then
          some (.inr (.inr false))
        else
          some (.inl (IntKind.i64.wrap (v + (1 : Int))))
    else
      some (.inr (.inl ()))
noncomputable def conversion_ascending (points : List api_Point) : Option Bool :=
  (iter (conversion_ascending_l2 points) (0 : Int)).bind fun x_ =>
  match x_ with
  | .inl () => conversion_ascending_j1
  | .inr t_ => some t_
/-- awardingbody conversion.Valid -/
noncomputable def conversion_Valid (c : api_Curve) : Option Bool :=
  req ((((decide ((2 : Int) ≤ (c.Points.length : Int))) && (decide ((c.Points.length : Int) ≤ (410 : Int)))) = true → (conversion_ascending c.Points).isSome = true)) <|
  some (((decide ((2 : Int) ≤ (c.Points.length : Int))) && (decide ((c.Points.length : Int) ≤ (410 : Int)))) && ((conversion_ascending c.Points).getD default))
/-- awardingbody conversion.eval$1 -/
noncomputable def conversion_eval_f1 (i : Int) (c : api_Ratio) (c_1 : List api_Point) : Option Bool :=
  req ((0 ≤ (IntKind.i64.wrap (i + (1 : Int))) ∧ (IntKind.i64.wrap (i + (1 : Int))) < (c_1.length : Int))) <|
  (ratio_Compare c ((ix c_1 (IntKind.i64.wrap (i + (1 : Int)))).X)).bind fun y =>
  some (decide (y ≤ (0 : Int)))
/-- sort.Search -/
noncomputable def sort_Search_conversion_eval_f1_j1 (i : Int) : Option Int :=
  some i
noncomputable def sort_Search_conversion_eval_f1_l2 (f_c : api_Ratio) (f_c_1 : List api_Point) : (Int × Int) → Option ((Int × Int) ⊕ Int) :=
  fun (i1, j) =>
    bif (decide (i1 < j)) then
      bindV (IntKind.i64.wrap (bShr .u64 (IntKind.u64.wrap (IntKind.i64.wrap (i1 + j))) (1 : Int))) fun h =>
      (conversion_eval_f1 h f_c f_c_1).bind fun y =>
      bif (!y) then
        some (.inl ((IntKind.i64.wrap (h + (1 : Int))), j))
      else
        some (.inl (i1, h))
    else
      some (.inr i1)
noncomputable def sort_Search_conversion_eval_f1 (n : Int) (f_c : api_Ratio) (f_c_1 : List api_Point) : Option Int :=
  (iter (sort_Search_conversion_eval_f1_l2 f_c f_c_1) ((0 : Int), n)).bind fun i2 =>
  sort_Search_conversion_eval_f1_j1 i2
/-- math bits.Len64 -/
noncomputable def bits_Len64_j1 (x3 : Int) (n2 : Int) : Option Int :=
  req ((0 ≤ (IntKind.u8.wrap x3) ∧ (IntKind.u8.wrap x3) < (((List.append (List.append [0, 1, 2, 2, 3, 3, 3, 3, 4, 4, 4, 4, 4, 4, 4, 4, 5, 5, 5, 5, 5, 5, 5, 5, 5, 5, 5, 5, 5, 5, 5, 5, 6, 6, 6, 6, 6, 6, 6, 6, 6, 6, 6, 6, 6, 6, 6, 6, 6, 6, 6, 6, 6, 6, 6, 6, 6, 6, 6, 6, 6, 6, 6, 6] [7, 7, 7, 7, 7, 7, 7, 7, 7, 7, 7, 7, 7, 7, 7, 7, 7, 7, 7, 7, 7, 7, 7, 7, 7, 7, 7, 7, 7, 7, 7, 7, 7, 7, 7, 7, 7, 7, 7, 7, 7, 7, 7, 7, 7, 7, 7, 7, 7, 7, 7, 7, 7, 7, 7, 7, 7, 7, 7, 7, 7, 7, 7, 7]) (List.append [8, 8, 8, 8, 8, 8, 8, 8, 8, 8, 8, 8, 8, 8, 8, 8, 8, 8, 8, 8, 8, 8, 8, 8, 8, 8, 8, 8, 8, 8, 8, 8, 8, 8, 8, 8, 8, 8, 8, 8, 8, 8, 8, 8, 8, 8, 8, 8, 8, 8, 8, 8, 8, 8, 8, 8, 8, 8, 8, 8, 8, 8, 8, 8] [8, 8, 8, 8, 8, 8, 8, 8, 8, 8, 8, 8, 8, 8, 8, 8, 8, 8, 8, 8, 8, 8, 8, 8, 8, 8, 8, 8, 8, 8, 8, 8, 8, 8, 8, 8, 8, 8, 8, 8, 8, 8, 8, 8, 8, 8, 8, 8, 8, 8, 8, 8, 8, 8, 8, 8, 8, 8, 8, 8, 8, 8, 8, 8])) : Str).length : Int))) <|
  bindV (IntKind.i64.wrap (n2 + (IntKind.i64.wrap (sx ((List.append (List.append [0, 1, 2, 2, 3, 3, 3, 3, 4, 4, 4, 4, 4, 4, 4, 4, 5, 5, 5, 5, 5, 5, 5, 5, 5, 5, 5, 5, 5, 5, 5, 5, 6, 6, 6, 6, 6, 6, 6, 6, 6, 6, 6, 6, 6, 6, 6, 6, 6, 6, 6, 6, 6, 6, 6, 6, 6, 6, 6, 6, 6, 6, 6, 6] [7, 7, 7, 7, 7, 7, 7, 7, 7, 7, 7, 7, 7, 7, 7, 7, 7, 7, 7, 7, 7, 7, 7, 7, 7, 7, 7, 7, 7, 7, 7, 7, 7, 7, 7, 7, 7, 7, 7, 7, 7, 7, 7, 7, 7, 7, 7, 7, 7, 7, 7, 7, 7, 7, 7, 7, 7, 7, 7, 7, 7, 7, 7, 7]) (List.append [8, 8, 8, 8, 8, 8, 8, 8, 8, 8, 8, 8, 8, 8, 8, 8, 8, 8, 8, 8, 8, 8, 8, 8, 8, 8, 8, 8, 8, 8, 8, 8, 8, 8, 8, 8, 8, 8, 8, 8, 8, 8, 8, 8, 8, 8, 8, 8, 8, 8, 8, 8, 8, 8, 8, 8, 8, 8, 8, 8, 8, 8, 8, 8] [8, 8, 8, 8, 8, 8, 8, 8, 8, 8, 8, 8, 8, 8, 8, 8, 8, 8, 8, 8, 8, 8, 8, 8, 8, 8, 8, 8, 8, 8, 8, 8, 8, 8, 8, 8, 8, 8, 8, 8, 8, 8, 8, 8, 8, 8, 8, 8, 8, 8, 8, 8, 8, 8, 8, 8, 8, 8, 8, 8, 8, 8, 8, 8])) : Str) (IntKind.u8.wrap x3))))) fun n3 =>
  some n3
noncomputable def bits_Len64_j2 (x2 : Int) (n1 : Int) : Option Int :=
  bif (decide ((256 : Int) ≤ x2)) then
    bits_Len64_j1 (bShr .u64 x2 (8 : Int)) (IntKind.i64.wrap (n1 + (8 : Int)))
  else
    bits_Len64_j1 x2 n1
noncomputable def bits_Len64_j3 (x1 : Int) (n : Int) : Option Int :=
  bif (decide ((65536 : Int) ≤ x1)) then
    bits_Len64_j2 (bShr .u64 x1 (16 : Int)) (IntKind.i64.wrap (n + (16 : Int)))
  else
    bits_Len64_j2 x1 n
noncomputable def bits_Len64 (x : Int) : Option Int :=
  bif (decide ((4294967296 : Int) ≤ x)) then
    bits_Len64_j3 (bShr .u64 x (32 : Int)) (32 : Int)
  else
    bits_Len64_j3 x (0 : Int)
/-- math bits.LeadingZeros64 -/
noncomputable def bits_LeadingZeros64 (x : Int) : Option Int :=
  (bits_Len64 x).bind fun y =>
  some (IntKind.i64.wrap ((64 : Int) - y))
/-- math bits.Div64 -/
noncomputable def bits_Div64_j1 (lo : Int) (y : Int) (y1 : Int) (q11 : Int) (un21 : Int) (q01 : Int) : Option (Int × Int) :=
  req (0 ≤ (IntKind.u64.wrap y1)) <|
  bindV (IntKind.u64.wrap ((IntKind.u64.wrap (q11 * (4294967296 : Int))) + q01)) fun quo =>
  bindV (bShr .u64 (IntKind.u64.wrap ((IntKind.u64.wrap ((IntKind.u64.wrap (un21 * (4294967296 : Int))) + (bAnd .u64 (bShl .u64 lo (IntKind.u64.wrap y1)) (4294967295 : Int)))) - (IntKind.u64.wrap (q01 * (bShl .u64 y (IntKind.u64.wrap y1)))))) (IntKind.u64.wrap y1)) fun rem =>
  some (quo, rem)
noncomputable def bits_Div64_l2 (lo : Int) (y : Int) (y1 : Int) : (Int × Int) → Option ((Int × Int) ⊕ Int) :=
  fun (rhat2, q02) =>
    bif ((decide ((4294967296 : Int) ≤ q02)) || (decide ((IntKind.u64.wrap ((IntKind.u64.wrap ((4294967296 : Int) * rhat2)) + (bAnd .u64 (bShl .u64 lo (IntKind.u64.wrap y1)) (4294967295 : Int)))) < (IntKind.u64.wrap (q02 * (bAnd .u64 (bShl .u64 y (IntKind.u64.wrap y1)) (4294967295 : Int))))))) then
      bindV (IntKind.u64.wrap (rhat2 + (bShr .u64 (bShl .u64 y (IntKind.u64.wrap y1)) (32 : Int)))) fun rhat3 =>
      bif (decide ((4294967296 : Int) ≤ rhat3)) then
        some (.inr (IntKind.u64.wrap (q02 - (1 : Int))))
      else
        some (.inl (rhat3, (IntKind.u64.wrap (q02 - (1 : Int)))))
    else
      some (.inr q02)
noncomputable def bits_Div64_j3 (lo : Int) (y : Int) (y1 : Int) (un32 : Int) (q11 : Int) : Option (Int × Int) :=
  bindV (IntKind.u64.wrap ((IntKind.u64.wrap ((IntKind.u64.wrap (un32 * (4294967296 : Int))) + (bShr .u64 (bShl .u64 lo (IntKind.u64.wrap y1)) (32 : Int)))) - (IntKind.u64.wrap (q11 * (bShl .u64 y (IntKind.u64.wrap y1)))))) fun un21 =>
  req ((bShr .u64 (bShl .u64 y (IntKind.u64.wrap y1)) (32 : Int)) ≠ 0) <|
  bindV (IntKind.u64.wrap (Int.tdiv un21 (bShr .u64 (bShl .u64 y (IntKind.u64.wrap y1)) (32 : Int)))) fun q0 =>
  bindV (IntKind.u64.wrap (un21 - (IntKind.u64.wrap (q0 * (bShr .u64 (bShl .u64 y (IntKind.u64.wrap y1)) (32 : Int)))))) fun rhat1 =>
  (iter (bits_Div64_l2 lo y y1) (rhat1, q0)).bind fun q03 =>
  bits_Div64_j1 lo y y1 q11 un21 q03
noncomputable def bits_Div64_l4 (lo : Int) (y : Int) (y1 : Int) : (Int × Int) → Option ((Int × Int) ⊕ Int) :=
  fun (q12, rhat4) =>
    bif ((decide ((4294967296 : Int) ≤ q12)) || (decide ((IntKind.u64.wrap ((IntKind.u64.wrap ((4294967296 : Int) * rhat4)) + (bShr .u64 (bShl .u64 lo (IntKind.u64.wrap y1)) (32 : Int)))) < (IntKind.u64.wrap (q12 * (bAnd .u64 (bShl .u64 y (IntKind.u64.wrap y1)) (4294967295 : Int))))))) then
      bindV (IntKind.u64.wrap (rhat4 + (bShr .u64 (bShl .u64 y (IntKind.u64.wrap y1)) (32 : Int)))) fun rhat5 =>
      bif (decide ((4294967296 : Int) ≤ rhat5)) then
        some (.inr (IntKind.u64.wrap (q12 - (1 : Int))))
      else
        some (.inl ((IntKind.u64.wrap (q12 - (1 : Int))), rhat5))
    else
      some (.inr q12)
noncomputable def bits_Div64_j5 (hi : Int) (lo : Int) (y : Int) : Option (Int × Int) :=
  bif (hi == (0 : Int)) then
    req (y ≠ 0) <|
    some ((IntKind.u64.wrap (Int.tdiv lo y)), (Int.tmod lo y))
  else
    (bits_LeadingZeros64 y).bind fun y1 =>
    req (0 ≤ (IntKind.u64.wrap y1)) <|
    req (0 ≤ (IntKind.u64.wrap y1) ∧ 0 ≤ (IntKind.u64.wrap ((64 : Int) - (IntKind.u64.wrap y1)))) <|
    bindV (bOr .u64 (bShl .u64 hi (IntKind.u64.wrap y1)) (bShr .u64 lo (IntKind.u64.wrap ((64 : Int) - (IntKind.u64.wrap y1))))) fun un32 =>
    req (0 ≤ (IntKind.u64.wrap y1)) <|
    req ((bShr .u64 (bShl .u64 y (IntKind.u64.wrap y1)) (32 : Int)) ≠ 0) <|
    bindV (IntKind.u64.wrap (Int.tdiv un32 (bShr .u64 (bShl .u64 y (IntKind.u64.wrap y1)) (32 : Int)))) fun q1 =>
    bindV (IntKind.u64.wrap (un32 - (IntKind.u64.wrap (q1 * (bShr .u64 (bShl .u64 y (IntKind.u64.wrap y1)) (32 : Int)))))) fun rhat =>
    (iter (bits_Div64_l4 lo y y1) (q1, rhat)).bind fun q13 =>
    bits_Div64_j3 lo y y1 un32 q13
noncomputable def bits_Div64_j6 (hi : Int) (lo : Int) (y : Int) : Option (Int × Int) :=
  bif (decide (y ≤ hi)) then
    none
  else
    bits_Div64_j5 hi lo y
noncomputable def bits_Div64 (hi : Int) (lo : Int) (y : Int) : Option (Int × Int) :=
  bif (y == (0 : Int)) then
    none
  else
    bits_Div64_j6 hi lo y
/-- math bits.Rem64 -/
noncomputable def bits_Rem64 (hi : Int) (lo : Int) (y : Int) : Option Int :=
  req (y ≠ 0) <|
  (bits_Div64 (Int.tmod hi y) lo y).bind fun (y1, y2) =>
  some y2
/-- (awardingbody ratio.wide).mod -/
noncomputable def ratio_wide_mod (a : ratio_wide) (d : Int) : Option Int :=
  (bits_Rem64 a.hi a.lo d).bind fun y =>
  some y
/-- awardingbody ratio.fitted -/
noncomputable def ratio_fitted_j1 (den : ratio_wide) (n : Int) : Option (api_Ratio × Int) :=
  some ((api_Ratio.mk n (IntKind.i64.wrap den.lo)), (0 : Int))
noncomputable def ratio_fitted (neg : Bool) (num : ratio_wide) (den : ratio_wide) : Option (api_Ratio × Int) :=
  bif ((((num.hi != (0 : Int)) || (den.hi != (0 : Int))) || (decide ((1152921504606846976 : Int) < num.lo))) || (decide ((1152921504606846976 : Int) < den.lo))) then
    some ((api_Ratio.mk (0 : Int) (0 : Int)), (6 : Int))
  else
    bif neg then
      ratio_fitted_j1 den (IntKind.i64.wrap (0 - (IntKind.i64.wrap num.lo)))
    else
      ratio_fitted_j1 den (IntKind.i64.wrap num.lo)
/-- (awardingbody ratio.wide).over -/
noncomputable def ratio_wide_over (a : ratio_wide) (d : Int) : Option ratio_wide :=
  req (d ≠ 0) <|
  (bits_Div64 (Int.tmod a.hi d) a.lo d).bind fun (y, y1) =>
  some (ratio_wide.mk (IntKind.u64.wrap (Int.tdiv a.hi d)) y)
end Go.LS
