/-
  Plain functions that the program's functions compute. No condition: definitions, printed by dec.py.
-/
import Derived.Test.YtogfplnonlpmcaaD0
namespace Go.LS
set_option linter.all false
set_option linter.unusedSimpArgs false
set_option linter.unusedVariables false
set_option maxRecDepth 20000

/-- awardingbody awardingbodymark.Light -/
noncomputable def mark_Light (l : List Int) : Option Bool :=
  some (decide ((l.length : Int) ≤ (600 : Int)))
/-- awardingbody awardingbodymark.Roll -/
noncomputable def mark_Roll (l : List Int) : Option mark_Dice :=
  some (mark_Dice.mk l (0 : Int))
/-- (ptr awardingbody awardingbodymark.Dice).Next -/
noncomputable def mark_Dice_Next_j1 (d : mark_Dice) (x : Int) : Option (Int × mark_Dice) :=
  some (x, (mark_Dice.mk d.L (IntKind.i64.wrap (d.At + (1 : Int)))))
noncomputable def mark_Dice_Next (d : mark_Dice) (n : Int) : Option (Int × mark_Dice) :=
  bif ((decide ((d.L.length : Int) ≤ d.At)) || (decide (n < (1 : Int)))) then
    some ((0 : Int), d)
  else
    req ((0 ≤ d.At ∧ d.At < (d.L.length : Int)) ∧ n ≠ 0) <|
    bif (decide ((Int.tmod (ix d.L d.At) n) < (0 : Int))) then
      mark_Dice_Next_j1 d (IntKind.i64.wrap ((Int.tmod (ix d.L d.At) n) + n))
    else
      mark_Dice_Next_j1 d (Int.tmod (ix d.L d.At) n)
/-- (ptr awardingbody awardingbodymark.Dice).Pick -/
noncomputable def mark_Dice_Pick (d : mark_Dice) (l : List Int) : Option (Int × mark_Dice) :=
  (mark_Dice_Next d (l.length : Int)).bind fun (y, y1) =>
  req ((0 ≤ y ∧ y < (l.length : Int))) <|
  some ((ix l y), y1)
/-- (ptr awardingbody awardingbodymark.Dice).Bounds -/
noncomputable def mark_Dice_Bounds_j1 (d1 : List Int) (d2 : Int) (out : List Int) : Option ((List Int) × mark_Dice) :=
  some (out, (mark_Dice.mk d1 d2))
noncomputable def mark_Dice_Bounds_l2  : (Int × Int × (List Int) × Int × (List Int)) → Option ((Int × Int × (List Int) × Int × (List Int)) ⊕ ((List Int) × Int × (List Int))) :=
  fun (b, i, d3, d4, out1) =>
    bif (decide ((0 : Int) < i)) then
      (mark_Dice_Next (mark_Dice.mk d3 d4) (IntKind.i64.wrap ((IntKind.i64.wrap (Int.tdiv b (2 : Int))) + (1 : Int)))).bind fun (y2, y3) =>
      req ((out1.length + ([(IntKind.i64.wrap (b - y2))]).length) * 8 ≤ 140737488355328) <|
      some (.inl ((IntKind.i64.wrap (b - y2)), (IntKind.i64.wrap (i - (1 : Int))), y3.L, y3.At, (out1 ++ [(IntKind.i64.wrap (b - y2))])))
    else
      some (.inr (d3, d4, out1))
noncomputable def mark_Dice_Bounds (d : mark_Dice) (most : Int) : Option ((List Int) × mark_Dice) :=
  (mark_Dice_Next d (4 : Int)).bind fun (y, y1) =>
  (iter (mark_Dice_Bounds_l2) ((IntKind.i64.wrap (most + (1 : Int))), (IntKind.i64.wrap ((1 : Int) + y)), y1.L, y1.At, ([] : List Int))).bind fun (d5, d6, out2) =>
  mark_Dice_Bounds_j1 d5 d6 out2
/-- (ptr awardingbody awardingbodymark.Dice).Award -/
noncomputable def mark_Dice_Award_j1 (y : Int) (d1 : List Int) (d2 : Int) (w : List api_Unit) : Option (api_Award × mark_Dice) :=
  (mark_Dice_Bounds (mark_Dice.mk d1 d2) y).bind fun (y2, y3) =>
  some ((api_Award.mk w y2 y), y3)
noncomputable def mark_Dice_Award_l2 (n : Int) : (Int × (List Int) × Int × (List api_Unit)) → Option ((Int × (List Int) × Int × (List api_Unit)) ⊕ ((List Int) × Int × (List api_Unit))) :=
  fun (i, d3, d4, w1) =>
    bif (decide (i < n)) then
      (mark_Dice_Pick (mark_Dice.mk d3 d4) ([(1 : Int), (2 : Int), (60 : Int), (40 : Int)])).bind fun (y4, y5) =>
      (mark_Dice_Pick y5 ([(10 : Int), (12 : Int), (50 : Int)])).bind fun (y6, y7) =>
      req ((w1.length + ([(api_Unit.mk i y4 y6)]).length) * 24 ≤ 140737488355328) <|
      some (.inl ((IntKind.i64.wrap (i + (1 : Int))), y7.L, y7.At, (w1 ++ [(api_Unit.mk i y4 y6)])))
    else
      some (.inr (d3, d4, w1))
noncomputable def mark_Dice_Award (d : mark_Dice) (n : Int) : Option (api_Award × mark_Dice) :=
  (mark_Dice_Pick d ([(100 : Int), (20 : Int), (60 : Int)])).bind fun (y, y1) =>
  (iter (mark_Dice_Award_l2 n) ((0 : Int), y1.L, y1.At, ([] : List api_Unit))).bind fun (d5, d6, w2) =>
  mark_Dice_Award_j1 y d5 d6 w2
/-- (ptr awardingbody awardingbodymark.Dice).Bool -/
noncomputable def mark_Dice_Bool (d : mark_Dice) (n : Int) : Option (Bool × mark_Dice) :=
  (mark_Dice_Next d n).bind fun (y, y1) =>
  some ((y == (IntKind.i64.wrap (n - (1 : Int)))), y1)
/-- (ptr awardingbody awardingbodymark.Dice).Marks -/
noncomputable def mark_Dice_Marks_j1 (d1 : List Int) (d2 : Int) (out : List api_UnitMark) : Option ((List api_UnitMark) × mark_Dice) :=
  some (out, (mark_Dice.mk d1 d2))
noncomputable def mark_Dice_Marks_j2 (i : Int) (out1 : List api_UnitMark) (y : Int) (d7 : List Int) (d8 : Int) (x : Int) (x1 : Int) : Option ((Int × (List Int) × Int × (List api_UnitMark)) ⊕ ((List Int) × Int × (List api_UnitMark))) :=
  req ((out1.length + ([(api_UnitMark.mk y (api_Ratio.mk x x1))]).length) * 24 ≤ 140737488355328) <|
  some (.inl ((IntKind.i64.wrap (i + (1 : Int))), d7, d8, (out1 ++ [(api_UnitMark.mk y (api_Ratio.mk x x1))])))
noncomputable def mark_Dice_Marks_l3 (a : api_Award) : (Int × (List Int) × Int × (List api_UnitMark)) → Option ((Int × (List Int) × Int × (List api_UnitMark)) ⊕ ((List Int) × Int × (List api_UnitMark))) :=
  fun (i, d3, d4, out1) =>
    bif (decide (i < (a.Units.length : Int))) then
      (mark_Dice_Pick (mark_Dice.mk d3 d4) ([(0 : Int), (0 : Int), (0 : Int), (1 : Int), (2 : Int), (3 : Int), (0 : Int), (0 : Int)])).bind fun (y, y1) =>
      bif (y == (0 : Int)) then
        req ((0 ≤ i ∧ i < (a.Units.length : Int))) <|
        (mark_Dice_Next y1 (IntKind.i64.wrap ((ix a.Units i).Max + (1 : Int)))).bind fun (y2, y3) =>
        bif (((Int.tmod y2 (2 : Int)) == (1 : Int)) && (decide (y2 < (ix a.Units i).Max))) then
          req ((((Int.tmod y2 (2 : Int)) == (1 : Int)) = true → 0 ≤ i ∧ i < (a.Units.length : Int))) <|
          (mark_Dice_Bool y3 (3 : Int)).bind fun (y4, y5) =>
          bif y4 then
            mark_Dice_Marks_j2 i out1 y y5.L y5.At y2 (2 : Int)
          else
            mark_Dice_Marks_j2 i out1 y y5.L y5.At y2 (1 : Int)
        else
          req ((((Int.tmod y2 (2 : Int)) == (1 : Int)) = true → 0 ≤ i ∧ i < (a.Units.length : Int))) <|
          mark_Dice_Marks_j2 i out1 y y3.L y3.At y2 (1 : Int)
      else
        mark_Dice_Marks_j2 i out1 y y1.L y1.At (0 : Int) (1 : Int)
    else
      some (.inr (d3, d4, out1))
noncomputable def mark_Dice_Marks (d : mark_Dice) (a : api_Award) : Option ((List api_UnitMark) × mark_Dice) :=
  (iter (mark_Dice_Marks_l3 a) ((0 : Int), d.L, d.At, ([] : List api_UnitMark))).bind fun (d5, d6, out2) =>
  mark_Dice_Marks_j1 d5 d6 out2
/-- awardingbody aggregate.isScore -/
noncomputable def aggregate_isScore (n : Int) : Option Bool :=
  some ((decide ((1 : Int) ≤ n)) && (decide (n ≤ (200 : Int))))
/-- awardingbody boundary.isScore -/
noncomputable def boundary_isScore (n : Int) : Option Bool :=
  some ((decide ((0 : Int) ≤ n)) && (decide (n ≤ (200 : Int))))
/-- awardingbody boundary.Check -/
noncomputable def boundary_Check_j1  : Option Int :=
  some (0 : Int)
noncomputable def boundary_Check_l2 (b : List Int) : Int → Option (Int ⊕ (Unit ⊕ Int)) :=
  fun i =>
    bif (decide (i < (b.length : Int))) then
      req ((0 ≤ i ∧ i < (b.length : Int)) ∧ (0 ≤ (IntKind.i64.wrap (i - (1 : Int))) ∧ (IntKind.i64.wrap (i - (1 : Int))) < (b.length : Int))) <|
      bif (decide ((ix b (IntKind.i64.wrap (i - (1 : Int)))) < (ix b i))) then
        some (.inr (.inr (43 : Int)))
      else
        some (.inl (IntKind.i64.wrap (i + (1 : Int))))
    else
      some (.inr (.inl ()))
noncomputable def boundary_Check_j3 (b : List Int) : Option Int :=
  (iter (boundary_Check_l2 b) (1 : Int)).bind fun x_ =>
  match x_ with
  | .inl () => boundary_Check_j1
  | .inr t_ => some t_
noncomputable def boundary_Check_l4 (b : List Int) (most : Int) : Int → Option (Int ⊕ (Unit ⊕ Int)) :=
  fun v =>
    bif (decide (v < (b.length : Int))) then
      req ((0 ≤ v ∧ v < (b.length : Int))) <|
      bif ((decide ((ix b v) < (0 : Int))) || (decide ((IntKind.i64.wrap (most + (1 : Int))) < (ix b v)))) then
        some (.inr (.inr (2 : Int)))
      else
        some (.inl (IntKind.i64.wrap (v + (1 : Int))))
    else
      some (.inr (.inl ()))
noncomputable def boundary_Check (b : List Int) (most : Int) : Option Int :=
  (boundary_isScore most).bind fun y =>
  bif (!y) then
    some (2 : Int)
  else
    bif ((decide ((b.length : Int) < (1 : Int))) || (decide ((9 : Int) < (b.length : Int)))) then
      some (3 : Int)
    else
      (iter (boundary_Check_l4 b most) (0 : Int)).bind fun x_ =>
      match x_ with
      | .inl () => boundary_Check_j3 b
      | .inr t_ => some t_
/-- awardingbody aggregate.Check -/
noncomputable def aggregate_Check_j1 (a : api_Award) : Option Int :=
  (aggregate_isScore a.Max).bind fun y =>
  bif (!y) then
    some (2 : Int)
  else
    (boundary_Check a.Bounds a.Max).bind fun y1 =>
    some y1
noncomputable def aggregate_Check_l2 (a : api_Award) : Int → Option (Int ⊕ (Unit ⊕ Int)) :=
  fun v =>
    bif (decide (v < (a.Units.length : Int))) then
      req ((0 ≤ v ∧ v < (a.Units.length : Int))) <|
      req (((!((((decide ((ix a.Units v).Paper < (0 : Int))) || (decide ((31 : Int) < (ix a.Units v).Paper))) || (decide ((ix a.Units v).Weight < (1 : Int)))) || (decide ((1000 : Int) < (ix a.Units v).Weight)))) = true → (aggregate_isScore ((ix a.Units v).Max)).isSome = true)) <|
      bif (((((decide ((ix a.Units v).Paper < (0 : Int))) || (decide ((31 : Int) < (ix a.Units v).Paper))) || (decide ((ix a.Units v).Weight < (1 : Int)))) || (decide ((1000 : Int) < (ix a.Units v).Weight))) || (!((aggregate_isScore ((ix a.Units v).Max)).getD default))) then
        some (.inr (.inr (2 : Int)))
      else
        req (((decide ((0 : Int) < v)) = true → 0 ≤ (IntKind.i64.wrap (v - (1 : Int))) ∧ (IntKind.i64.wrap (v - (1 : Int))) < (a.Units.length : Int))) <|
        bif ((decide ((0 : Int) < v)) && (decide ((ix a.Units v).Paper ≤ (ix a.Units (IntKind.i64.wrap (v - (1 : Int)))).Paper))) then
          some (.inr (.inr (43 : Int)))
        else
          some (.inl (IntKind.i64.wrap (v + (1 : Int))))
    else
      some (.inr (.inl ()))
noncomputable def aggregate_Check (a : api_Award) : Option Int :=
  bif ((decide ((a.Units.length : Int) < (1 : Int))) || (decide ((6 : Int) < (a.Units.length : Int)))) then
    some (3 : Int)
  else
    (iter (aggregate_Check_l2 a) (0 : Int)).bind fun x_ =>
    match x_ with
    | .inl () => aggregate_Check_j1 a
    | .inr t_ => some t_
/-- awardingbody ratio.magnitude -/
noncomputable def ratio_magnitude (n : Int) : Option Int :=
  bif (decide (n < (0 : Int))) then
    some (IntKind.u64.wrap (0 - (IntKind.u64.wrap n)))
  else
    some (IntKind.u64.wrap n)
/-- awardingbody ratio.gcd -/
noncomputable def ratio_gcd_j1 (a1 : Int) : Option Int :=
  some a1
noncomputable def ratio_gcd_l2  : (Int × Int) → Option ((Int × Int) ⊕ Int) :=
  fun (a2, b1) =>
    bif (b1 != (0 : Int)) then
      req (b1 ≠ 0) <|
      some (.inl (b1, (Int.tmod a2 b1)))
    else
      some (.inr a2)
noncomputable def ratio_gcd (a : Int) (b : Int) : Option Int :=
  (iter (ratio_gcd_l2) (a, b)).bind fun a3 =>
  ratio_gcd_j1 a3
/-- awardingbody ratio.Valid -/
noncomputable def ratio_Valid (a : api_Ratio) : Option Bool :=
  bif ((((decide (a.Den < (1 : Int))) || (decide ((1152921504606846976 : Int) < a.Den))) || (decide (a.Num < (-1152921504606846976 : Int)))) || (decide ((1152921504606846976 : Int) < a.Num))) then
    some false
  else
    (ratio_magnitude a.Num).bind fun y =>
    (ratio_gcd y (IntKind.u64.wrap a.Den)).bind fun y1 =>
    some (y1 == (1 : Int))
/-- cmp.isNaN[uint64] -/
noncomputable def cmp_isNaN_uint64 (x : Int) : Option Bool :=
  some (x != x)
/-- cmp.Compare[uint64] -/
noncomputable def cmp_Compare_uint64 (x : Int) (y : Int) : Option Int :=
  (cmp_isNaN_uint64 x).bind fun y1 =>
  (cmp_isNaN_uint64 y).bind fun y2 =>
  bif y1 then
    bif y2 then
      some (0 : Int)
    else
      some (-1 : Int)
  else
    bif y2 then
      some (1 : Int)
    else
      bif (decide (x < y)) then
        some (-1 : Int)
      else
        bif (decide (y < x)) then
          some (1 : Int)
        else
          some (0 : Int)
/-- (awardingbody ratio.wide).compare -/
noncomputable def ratio_wide_compare (a : ratio_wide) (b : ratio_wide) : Option Int :=
  (cmp_Compare_uint64 a.hi b.hi).bind fun y =>
  bif (y != (0 : Int)) then
    some y
  else
    (cmp_Compare_uint64 a.lo b.lo).bind fun y1 =>
    some y1
/-- math bits.Mul64 -/
noncomputable def bits_Mul64 (x : Int) (y : Int) : Option (Int × Int) :=
  bindV (IntKind.u64.wrap ((bAnd .u64 x (4294967295 : Int)) * (bAnd .u64 y (4294967295 : Int)))) fun w0 =>
  bindV (IntKind.u64.wrap ((IntKind.u64.wrap ((bShr .u64 x (32 : Int)) * (bAnd .u64 y (4294967295 : Int)))) + (bShr .u64 w0 (32 : Int)))) fun t =>
  bindV (IntKind.u64.wrap ((bAnd .u64 t (4294967295 : Int)) + (IntKind.u64.wrap ((bAnd .u64 x (4294967295 : Int)) * (bShr .u64 y (32 : Int)))))) fun w1 =>
  bindV (IntKind.u64.wrap ((IntKind.u64.wrap ((IntKind.u64.wrap ((bShr .u64 x (32 : Int)) * (bShr .u64 y (32 : Int)))) + (bShr .u64 t (32 : Int)))) + (bShr .u64 w1 (32 : Int)))) fun hi =>
  some (hi, (IntKind.u64.wrap (x * y)))
/-- awardingbody ratio.product -/
noncomputable def ratio_product (a : Int) (b : Int) : Option ratio_wide :=
  (bits_Mul64 a b).bind fun (y, y1) =>
  some (ratio_wide.mk y y1)
/-- awardingbody ratio.signedProduct -/
noncomputable def ratio_signedProduct (num : Int) (factor : Int) : Option ratio_signed :=
  (ratio_magnitude num).bind fun y =>
  (ratio_product y factor).bind fun y1 =>
  some (ratio_signed.mk (decide (num < (0 : Int))) y1)
/-- awardingbody ratio.Compare -/
noncomputable def ratio_Compare (a : api_Ratio) (b : api_Ratio) : Option Int :=
  (ratio_Valid a).bind fun y =>
  req (((!(!y)) = true → (ratio_Valid b).isSome = true)) <|
  bif ((!y) || (!((ratio_Valid b).getD default))) then
    some (0 : Int)
  else
    (ratio_signedProduct a.Num (IntKind.u64.wrap b.Den)).bind fun y1 =>
    (ratio_signedProduct b.Num (IntKind.u64.wrap a.Den)).bind fun y2 =>
    bif (y1.neg && y2.neg) then
      (ratio_wide_compare y2.abs y1.abs).bind fun y3 =>
      some y3
    else
      bif y1.neg then
        some (-1 : Int)
      else
        bif y2.neg then
          some (1 : Int)
        else
          (ratio_wide_compare y1.abs y2.abs).bind fun y4 =>
          some y4
/-- awardingbody aggregate.fit -/
noncomputable def aggregate_fit_j1  : Option Bool :=
  some true
noncomputable def aggregate_fit_j2 (v : Int) : Option (Int ⊕ (Unit ⊕ Bool)) :=
  some (.inl (IntKind.i64.wrap (v + (1 : Int))))
noncomputable def aggregate_fit_j3 (l : List api_UnitMark) (v : Int) (v1 : Bool) : Option (Int ⊕ (Unit ⊕ Bool)) :=
  bif v1 then
    bif (!((((ix l v).Value).Num == (0 : Int)) && (((ix l v).Value).Den == (1 : Int)))) then
      some (.inr (.inr false))
    else
      aggregate_fit_j2 v
  else
    some (.inr (.inr false))
noncomputable def aggregate_fit_l4 (a : api_Award) (l : List api_UnitMark) : Int → Option (Int ⊕ (Unit ⊕ Bool)) :=
  fun v =>
    bif (decide (v < (l.length : Int))) then
      req ((0 ≤ v ∧ v < (l.length : Int))) <|
      bif ((ix l v).Kind == (0 : Int)) then
        req ((0 ≤ v ∧ v < (a.Units.length : Int))) <|
        (ratio_Valid ((ix l v).Value)).bind fun y =>
        req (((!((!y) || (decide (((ix l v).Value).Num < (0 : Int))))) = true → (ratio_Compare ((ix l v).Value) (api_Ratio.mk ((ix a.Units v).Max) (1 : Int))).isSome = true)) <|
        bif (((!y) || (decide (((ix l v).Value).Num < (0 : Int)))) || (decide ((0 : Int) < ((ratio_Compare ((ix l v).Value) (api_Ratio.mk ((ix a.Units v).Max) (1 : Int))).getD default)))) then
          some (.inr (.inr false))
        else
          aggregate_fit_j2 v
      else
        bif ((ix l v).Kind == (1 : Int)) then
          aggregate_fit_j3 l v ((ix l v).Kind == (1 : Int))
        else
          bif ((ix l v).Kind == (2 : Int)) then
            aggregate_fit_j3 l v ((ix l v).Kind == (2 : Int))
          else
            aggregate_fit_j3 l v ((ix l v).Kind == (3 : Int))
    else
      some (.inr (.inl ()))
noncomputable def aggregate_fit (a : api_Award) (l : List api_UnitMark) : Option Bool :=
  bif ((l.length : Int) != (a.Units.length : Int)) then
    some false
  else
    (iter (aggregate_fit_l4 a l) (0 : Int)).bind fun x_ =>
    match x_ with
    | .inl () => aggregate_fit_j1
    | .inr t_ => some t_
/-- awardingbody aggregate.checkMarks -/
noncomputable def aggregate_checkMarks (a : api_Award) (l : List api_UnitMark) (special : Int) : Option Int :=
  (aggregate_Check a).bind fun y =>
  req (((!(y != (0 : Int))) = true → (aggregate_fit a l).isSome = true)) <|
  bif ((y != (0 : Int)) || (!((aggregate_fit a l).getD default))) then
    some (1 : Int)
  else
    bif ((decide (special < (0 : Int))) || (decide ((50 : Int) < special))) then
      some (2 : Int)
    else
      some (0 : Int)
/-- awardingbody aggregate.has$1 -/
noncomputable def aggregate_has_f1 (m : api_UnitMark) (c : Int) : Option (Bool × Int) :=
  some ((m.Kind == c), c)
/-- slices.IndexFunc[[]awardingbody api.UnitMark,awardingbody api.UnitMark] -/
noncomputable def slices_IndexFunc_awardingbodyapiUnitMarkawardingbodyapiUnitMark_aggregate_has_f1_j1 (f_c1 : Int) : Option (Int × Int) :=
  some ((-1 : Int), f_c1)
noncomputable def slices_IndexFunc_awardingbodyapiUnitMarkawardingbodyapiUnitMark_aggregate_has_f1_l2 (s : List api_UnitMark) : (Int × Int) → Option ((Int × Int) ⊕ (Int ⊕ (Int × Int))) :=
  fun (v, f_c2) =>
    bif (decide (v < (s.length : Int))) then
      req ((0 ≤ v ∧ v < (s.length : Int))) <|
      (aggregate_has_f1 (api_UnitMark.mk ((ix s v).Kind) ((ix s v).Value)) f_c2).bind fun (y, y1) =>
      bif y then
        some (.inr (.inr (v, y1)))
      else
        some (.inl ((IntKind.i64.wrap (v + (1 : Int))), y1))
    else
      some (.inr (.inl f_c2))
noncomputable def slices_IndexFunc_awardingbodyapiUnitMarkawardingbodyapiUnitMark_aggregate_has_f1 (s : List api_UnitMark) (f_c : Int) : Option (Int × Int) :=
  (iter (slices_IndexFunc_awardingbodyapiUnitMarkawardingbodyapiUnitMark_aggregate_has_f1_l2 s) ((0 : Int), f_c)).bind fun x_ =>
  match x_ with
  | .inl f_c3 => slices_IndexFunc_awardingbodyapiUnitMarkawardingbodyapiUnitMark_aggregate_has_f1_j1 f_c3
  | .inr t_ => some t_
/-- slices.ContainsFunc[[]awardingbody api.UnitMark,awardingbody api.UnitMark] -/
noncomputable def slices_ContainsFunc_awardingbodyapiUnitMarkawardingbodyapiUnitMark_aggregate_has_f1 (s : List api_UnitMark) (f_c : Int) : Option (Bool × Int) :=
  (slices_IndexFunc_awardingbodyapiUnitMarkawardingbodyapiUnitMark_aggregate_has_f1 s f_c).bind fun (y, y1) =>
  some ((decide ((0 : Int) ≤ y)), y1)
end Go.LS
