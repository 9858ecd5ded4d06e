/-
  Plain functions that the program's functions compute. No condition: definitions, printed by dec.py.
-/
import Derived.Test.YtogfplnonlpmcaaD0
namespace Go.LS
set_option linter.all false
set_option linter.unusedSimpArgs false
set_option linter.unusedVariables false
set_option maxRecDepth 20000

/-- awardingbody awardingbodymark.Light -/
noncomputable def mark_Light (l : List Int) : Option Bool :=
  some (decide ((l.length : Int) ≤ (600 : Int)))
/-- awardingbody awardingbodylaw36.whole -/
noncomputable def law36_whole (n : Int) : Option api_Ratio :=
  some (api_Ratio.mk n (1 : Int))
/-- awardingbody aggregate.isScore -/
noncomputable def aggregate_isScore (n : Int) : Option Bool :=
  some ((decide ((1 : Int) ≤ n)) && (decide (n ≤ (200 : Int))))
/-- awardingbody boundary.isScore -/
noncomputable def boundary_isScore (n : Int) : Option Bool :=
  some ((decide ((0 : Int) ≤ n)) && (decide (n ≤ (200 : Int))))
/-- awardingbody boundary.Check -/
noncomputable def boundary_Check_j1  : Option Int :=
  some (0 : Int)
noncomputable def boundary_Check_l2 (b : List Int) : Int → Option (Int ⊕ (Unit ⊕ Int)) :=
  fun i =>
    bif (decide (i < (b.length : Int))) then
      req ((0 ≤ i ∧ i < (b.length : Int)) ∧ (0 ≤ (IntKind.i64.wrap (i - (1 : Int))) ∧ (IntKind.i64.wrap (i - (1 : Int))) < (b.length : Int))) <|
      bif (decide ((ix b (IntKind.i64.wrap (i - (1 : Int)))) < (ix b i))) then
        some (.inr (.inr (43 : Int)))
      else
        some (.inl (IntKind.i64.wrap (i + (1 : Int))))
    else
      some (.inr (.inl ()))
noncomputable def boundary_Check_j3 (b : List Int) : Option Int :=
  (iter (boundary_Check_l2 b) (1 : Int)).bind fun x_ =>
  match x_ with
  | .inl () => boundary_Check_j1
  | .inr t_ => some t_
noncomputable def boundary_Check_l4 (b : List Int) (most : Int) : Int → Option (Int ⊕ (Unit ⊕ Int)) :=
  fun v =>
    bif (decide (v < (b.length : Int))) then
      req ((0 ≤ v ∧ v < (b.length : Int))) <|
      bif ((decide ((ix b v) < (0 : Int))) || (decide ((IntKind.i64.wrap (most + (1 : Int))) < (ix b v)))) then
        some (.inr (.inr (2 : Int)))
      else
        some (.inl (IntKind.i64.wrap (v + (1 : Int))))
    else
      some (.inr (.inl ()))
noncomputable def boundary_Check (b : List Int) (most : Int) : Option Int :=
  (boundary_isScore most).bind fun y =>
  bif (!y) then
    some (2 : Int)
  else
    bif ((decide ((b.length : Int) < (1 : Int))) || (decide ((9 : Int) < (b.length : Int)))) then
      some (3 : Int)
    else
      (iter (boundary_Check_l4 b most) (0 : Int)).bind fun x_ =>
      match x_ with
      | .inl () => boundary_Check_j3 b
      | .inr t_ => some t_
/-- awardingbody aggregate.Check -/
noncomputable def aggregate_Check_j1 (a : api_Award) : Option Int :=
  (aggregate_isScore a.Max).bind fun y =>
  bif (!y) then
    some (2 : Int)
  else
    (boundary_Check a.Bounds a.Max).bind fun y1 =>
    some y1
noncomputable def aggregate_Check_l2 (a : api_Award) : Int → Option (Int ⊕ (Unit ⊕ Int)) :=
  fun v =>
    bif (decide (v < (a.Units.length : Int))) then
      req ((0 ≤ v ∧ v < (a.Units.length : Int))) <|
      req (((!((((decide ((ix a.Units v).Paper < (0 : Int))) || (decide ((31 : Int) < (ix a.Units v).Paper))) || (decide ((ix a.Units v).Weight < (1 : Int)))) || (decide ((1000 : Int) < (ix a.Units v).Weight)))) = true → (aggregate_isScore ((ix a.Units v).Max)).isSome = true)) <|
      bif (((((decide ((ix a.Units v).Paper < (0 : Int))) || (decide ((31 : Int) < (ix a.Units v).Paper))) || (decide ((ix a.Units v).Weight < (1 : Int)))) || (decide ((1000 : Int) < (ix a.Units v).Weight))) || (!((aggregate_isScore ((ix a.Units v).Max)).getD default))) then
        some (.inr (.inr (2 : Int)))
      else
        req (((decide ((0 : Int) < v)) = true → 0 ≤ (IntKind.i64.wrap (v - (1 : Int))) ∧ (IntKind.i64.wrap (v - (1 : Int))) < (a.Units.length : Int))) <|
        bif ((decide ((0 : Int) < v)) && (decide ((ix a.Units v).Paper ≤ (ix a.Units (IntKind.i64.wrap (v - (1 : Int)))).Paper))) then
          some (.inr (.inr (43 : Int)))
        else
          some (.inl (IntKind.i64.wrap (v + (1 : Int))))
    else
      some (.inr (.inl ()))
noncomputable def aggregate_Check (a : api_Award) : Option Int :=
  bif ((decide ((a.Units.length : Int) < (1 : Int))) || (decide ((6 : Int) < (a.Units.length : Int)))) then
    some (3 : Int)
  else
    (iter (aggregate_Check_l2 a) (0 : Int)).bind fun x_ =>
    match x_ with
    | .inl () => aggregate_Check_j1 a
    | .inr t_ => some t_
/-- awardingbody ratio.magnitude -/
noncomputable def ratio_magnitude (n : Int) : Option Int :=
  bif (decide (n < (0 : Int))) then
    some (IntKind.u64.wrap (0 - (IntKind.u64.wrap n)))
  else
    some (IntKind.u64.wrap n)
/-- awardingbody ratio.gcd -/
noncomputable def ratio_gcd_j1 (a1 : Int) : Option Int :=
  some a1
noncomputable def ratio_gcd_l2  : (Int × Int) → Option ((Int × Int) ⊕ Int) :=
  fun (a2, b1) =>
    bif (b1 != (0 : Int)) then
      req (b1 ≠ 0) <|
      some (.inl (b1, (Int.tmod a2 b1)))
    else
      some (.inr a2)
noncomputable def ratio_gcd (a : Int) (b : Int) : Option Int :=
  (iter (ratio_gcd_l2) (a, b)).bind fun a3 =>
  ratio_gcd_j1 a3
/-- awardingbody ratio.Valid -/
noncomputable def ratio_Valid (a : api_Ratio) : Option Bool :=
  bif ((((decide (a.Den < (1 : Int))) || (decide ((1152921504606846976 : Int) < a.Den))) || (decide (a.Num < (-1152921504606846976 : Int)))) || (decide ((1152921504606846976 : Int) < a.Num))) then
    some false
  else
    (ratio_magnitude a.Num).bind fun y =>
    (ratio_gcd y (IntKind.u64.wrap a.Den)).bind fun y1 =>
    some (y1 == (1 : Int))
/-- cmp.isNaN[uint64] -/
noncomputable def cmp_isNaN_uint64 (x : Int) : Option Bool :=
  some (x != x)
/-- cmp.Compare[uint64] -/
noncomputable def cmp_Compare_uint64 (x : Int) (y : Int) : Option Int :=
  (cmp_isNaN_uint64 x).bind fun y1 =>
  (cmp_isNaN_uint64 y).bind fun y2 =>
  bif y1 then
    bif y2 then
      some (0 : Int)
    else
      some (-1 : Int)
  else
    bif y2 then
      some (1 : Int)
    else
      bif (decide (x < y)) then
        some (-1 : Int)
      else
        bif (decide (y < x)) then
          some (1 : Int)
        else
          some (0 : Int)
/-- (awardingbody ratio.wide).compare -/
noncomputable def ratio_wide_compare (a : ratio_wide) (b : ratio_wide) : Option Int :=
  (cmp_Compare_uint64 a.hi b.hi).bind fun y =>
  bif (y != (0 : Int)) then
    some y
  else
    (cmp_Compare_uint64 a.lo b.lo).bind fun y1 =>
    some y1
/-- math bits.Mul64 -/
noncomputable def bits_Mul64 (x : Int) (y : Int) : Option (Int × Int) :=
  bindV (IntKind.u64.wrap ((bAnd .u64 x (4294967295 : Int)) * (bAnd .u64 y (4294967295 : Int)))) fun w0 =>
  bindV (IntKind.u64.wrap ((IntKind.u64.wrap ((bShr .u64 x (32 : Int)) * (bAnd .u64 y (4294967295 : Int)))) + (bShr .u64 w0 (32 : Int)))) fun t =>
  bindV (IntKind.u64.wrap ((bAnd .u64 t (4294967295 : Int)) + (IntKind.u64.wrap ((bAnd .u64 x (4294967295 : Int)) * (bShr .u64 y (32 : Int)))))) fun w1 =>
  bindV (IntKind.u64.wrap ((IntKind.u64.wrap ((IntKind.u64.wrap ((bShr .u64 x (32 : Int)) * (bShr .u64 y (32 : Int)))) + (bShr .u64 t (32 : Int)))) + (bShr .u64 w1 (32 : Int)))) fun hi =>
  some (hi, (IntKind.u64.wrap (x * y)))
/-- awardingbody ratio.product -/
noncomputable def ratio_product (a : Int) (b : Int) : Option ratio_wide :=
  (bits_Mul64 a b).bind fun (y, y1) =>
  some (ratio_wide.mk y y1)
/-- awardingbody ratio.signedProduct -/
noncomputable def ratio_signedProduct (num : Int) (factor : Int) : Option ratio_signed :=
  (ratio_magnitude num).bind fun y =>
  (ratio_product y factor).bind fun y1 =>
  some (ratio_signed.mk (decide (num < (0 : Int))) y1)
/-- awardingbody ratio.Compare -/
noncomputable def ratio_Compare (a : api_Ratio) (b : api_Ratio) : Option Int :=
  (ratio_Valid a).bind fun y =>
  req (((!(!y)) = true → (ratio_Valid b).isSome = true)) <|
  bif ((!y) || (!((ratio_Valid b).getD default))) then
    some (0 : Int)
  else
    (ratio_signedProduct a.Num (IntKind.u64.wrap b.Den)).bind fun y1 =>
    (ratio_signedProduct b.Num (IntKind.u64.wrap a.Den)).bind fun y2 =>
    bif (y1.neg && y2.neg) then
      (ratio_wide_compare y2.abs y1.abs).bind fun y3 =>
      some y3
    else
      bif y1.neg then
        some (-1 : Int)
      else
        bif y2.neg then
          some (1 : Int)
        else
          (ratio_wide_compare y1.abs y2.abs).bind fun y4 =>
          some y4
/-- awardingbody aggregate.fit -/
noncomputable def aggregate_fit_j1  : Option Bool :=
  some true
noncomputable def aggregate_fit_j2 (v : Int) : Option (Int ⊕ (Unit ⊕ Bool)) :=
  some (.inl (IntKind.i64.wrap (v + (1 : Int))))
noncomputable def aggregate_fit_j3 (l : List api_UnitMark) (v : Int) (v1 : Bool) : Option (Int ⊕ (Unit ⊕ Bool)) :=
  bif v1 then
    bif (!((((ix l v).Value).Num == (0 : Int)) && (((ix l v).Value).Den == (1 : Int)))) then
      some (.inr (.inr false))
    else
      aggregate_fit_j2 v
  else
    some (.inr (.inr false))
noncomputable def aggregate_fit_l4 (a : api_Award) (l : List api_UnitMark) : Int → Option (Int ⊕ (Unit ⊕ Bool)) :=
  fun v =>
    bif (decide (v < (l.length : Int))) then
      req ((0 ≤ v ∧ v < (l.length : Int))) <|
      bif ((ix l v).Kind == (0 : Int)) then
        req ((0 ≤ v ∧ v < (a.Units.length : Int))) <|
        (ratio_Valid ((ix l v).Value)).bind fun y =>
        req (((!((!y) || (decide (((ix l v).Value).Num < (0 : Int))))) = true → (ratio_Compare ((ix l v).Value) (api_Ratio.mk ((ix a.Units v).Max) (1 : Int))).isSome = true)) <|
        bif (((!y) || (decide (((ix l v).Value).Num < (0 : Int)))) || (decide ((0 : Int) < ((ratio_Compare ((ix l v).Value) (api_Ratio.mk ((ix a.Units v).Max) (1 : Int))).getD default)))) then
          some (.inr (.inr false))
        else
          aggregate_fit_j2 v
      else
        bif ((ix l v).Kind == (1 : Int)) then
          aggregate_fit_j3 l v ((ix l v).Kind == (1 : Int))
        else
          bif ((ix l v).Kind == (2 : Int)) then
            aggregate_fit_j3 l v ((ix l v).Kind == (2 : Int))
          else
            aggregate_fit_j3 l v ((ix l v).Kind == (3 : Int))
    else
      some (.inr (.inl ()))
noncomputable def aggregate_fit (a : api_Award) (l : List api_UnitMark) : Option Bool :=
  bif ((l.length : Int) != (a.Units.length : Int)) then
    some false
  else
    (iter (aggregate_fit_l4 a l) (0 : Int)).bind fun x_ =>
    match x_ with
    | .inl () => aggregate_fit_j1
    | .inr t_ => some t_
/-- awardingbody aggregate.checkMarks -/
noncomputable def aggregate_checkMarks (a : api_Award) (l : List api_UnitMark) (special : Int) : Option Int :=
  (aggregate_Check a).bind fun y =>
  req (((!(y != (0 : Int))) = true → (aggregate_fit a l).isSome = true)) <|
  bif ((y != (0 : Int)) || (!((aggregate_fit a l).getD default))) then
    some (1 : Int)
  else
    bif ((decide (special < (0 : Int))) || (decide ((50 : Int) < special))) then
      some (2 : Int)
    else
      some (0 : Int)
/-- awardingbody aggregate.has$1 -/
noncomputable def aggregate_has_f1 (m : api_UnitMark) (c : Int) : Option (Bool × Int) :=
  some ((m.Kind == c), c)
/-- slices.IndexFunc[[]awardingbody api.UnitMark,awardingbody api.UnitMark] -/
noncomputable def slices_IndexFunc_awardingbodyapiUnitMarkawardingbodyapiUnitMark_aggregate_has_f1_j1 (f_c1 : Int) : Option (Int × Int) :=
  some ((-1 : Int), f_c1)
noncomputable def slices_IndexFunc_awardingbodyapiUnitMarkawardingbodyapiUnitMark_aggregate_has_f1_l2 (s : List api_UnitMark) : (Int × Int) → Option ((Int × Int) ⊕ (Int ⊕ (Int × Int))) :=
  fun (v, f_c2) =>
    bif (decide (v < (s.length : Int))) then
      req ((0 ≤ v ∧ v < (s.length : Int))) <|
      (aggregate_has_f1 (api_UnitMark.mk ((ix s v).Kind) ((ix s v).Value)) f_c2).bind fun (y, y1) =>
      bif y then
        some (.inr (.inr (v, y1)))
      else
        some (.inl ((IntKind.i64.wrap (v + (1 : Int))), y1))
    else
      some (.inr (.inl f_c2))
noncomputable def slices_IndexFunc_awardingbodyapiUnitMarkawardingbodyapiUnitMark_aggregate_has_f1 (s : List api_UnitMark) (f_c : Int) : Option (Int × Int) :=
  (iter (slices_IndexFunc_awardingbodyapiUnitMarkawardingbodyapiUnitMark_aggregate_has_f1_l2 s) ((0 : Int), f_c)).bind fun x_ =>
  match x_ with
  | .inl f_c3 => slices_IndexFunc_awardingbodyapiUnitMarkawardingbodyapiUnitMark_aggregate_has_f1_j1 f_c3
  | .inr t_ => some t_
/-- slices.ContainsFunc[[]awardingbody api.UnitMark,awardingbody api.UnitMark] -/
noncomputable def slices_ContainsFunc_awardingbodyapiUnitMarkawardingbodyapiUnitMark_aggregate_has_f1 (s : List api_UnitMark) (f_c : Int) : Option (Bool × Int) :=
  (slices_IndexFunc_awardingbodyapiUnitMarkawardingbodyapiUnitMark_aggregate_has_f1 s f_c).bind fun (y, y1) =>
  some ((decide ((0 : Int) ≤ y)), y1)
/-- awardingbody aggregate.has -/
noncomputable def aggregate_has (l : List api_UnitMark) (kind : Int) : Option Bool :=
  (slices_ContainsFunc_awardingbodyapiUnitMarkawardingbodyapiUnitMark_aggregate_has_f1 l kind).bind fun (y, y1) =>
  some y
/-- math bits.Len64 -/
noncomputable def bits_Len64_j1 (x3 : Int) (n2 : Int) : Option Int :=
  req ((0 ≤ (IntKind.u8.wrap x3) ∧ (IntKind.u8.wrap x3) < (((List.append (List.append [0, 1, 2, 2, 3, 3, 3, 3, 4, 4, 4, 4, 4, 4, 4, 4, 5, 5, 5, 5, 5, 5, 5, 5, 5, 5, 5, 5, 5, 5, 5, 5, 6, 6, 6, 6, 6, 6, 6, 6, 6, 6, 6, 6, 6, 6, 6, 6, 6, 6, 6, 6, 6, 6, 6, 6, 6, 6, 6, 6, 6, 6, 6, 6] [7, 7, 7, 7, 7, 7, 7, 7, 7, 7, 7, 7, 7, 7, 7, 7, 7, 7, 7, 7, 7, 7, 7, 7, 7, 7, 7, 7, 7, 7, 7, 7, 7, 7, 7, 7, 7, 7, 7, 7, 7, 7, 7, 7, 7, 7, 7, 7, 7, 7, 7, 7, 7, 7, 7, 7, 7, 7, 7, 7, 7, 7, 7, 7]) (List.append [8, 8, 8, 8, 8, 8, 8, 8, 8, 8, 8, 8, 8, 8, 8, 8, 8, 8, 8, 8, 8, 8, 8, 8, 8, 8, 8, 8, 8, 8, 8, 8, 8, 8, 8, 8, 8, 8, 8, 8, 8, 8, 8, 8, 8, 8, 8, 8, 8, 8, 8, 8, 8, 8, 8, 8, 8, 8, 8, 8, 8, 8, 8, 8] [8, 8, 8, 8, 8, 8, 8, 8, 8, 8, 8, 8, 8, 8, 8, 8, 8, 8, 8, 8, 8, 8, 8, 8, 8, 8, 8, 8, 8, 8, 8, 8, 8, 8, 8, 8, 8, 8, 8, 8, 8, 8, 8, 8, 8, 8, 8, 8, 8, 8, 8, 8, 8, 8, 8, 8, 8, 8, 8, 8, 8, 8, 8, 8])) : Str).length : Int))) <|
  bindV (IntKind.i64.wrap (n2 + (IntKind.i64.wrap (sx ((List.append (List.append [0, 1, 2, 2, 3, 3, 3, 3, 4, 4, 4, 4, 4, 4, 4, 4, 5, 5, 5, 5, 5, 5, 5, 5, 5, 5, 5, 5, 5, 5, 5, 5, 6, 6, 6, 6, 6, 6, 6, 6, 6, 6, 6, 6, 6, 6, 6, 6, 6, 6, 6, 6, 6, 6, 6, 6, 6, 6, 6, 6, 6, 6, 6, 6] [7, 7, 7, 7, 7, 7, 7, 7, 7, 7, 7, 7, 7, 7, 7, 7, 7, 7, 7, 7, 7, 7, 7, 7, 7, 7, 7, 7, 7, 7, 7, 7, 7, 7, 7, 7, 7, 7, 7, 7, 7, 7, 7, 7, 7, 7, 7, 7, 7, 7, 7, 7, 7, 7, 7, 7, 7, 7, 7, 7, 7, 7, 7, 7]) (List.append [8, 8, 8, 8, 8, 8, 8, 8, 8, 8, 8, 8, 8, 8, 8, 8, 8, 8, 8, 8, 8, 8, 8, 8, 8, 8, 8, 8, 8, 8, 8, 8, 8, 8, 8, 8, 8, 8, 8, 8, 8, 8, 8, 8, 8, 8, 8, 8, 8, 8, 8, 8, 8, 8, 8, 8, 8, 8, 8, 8, 8, 8, 8, 8] [8, 8, 8, 8, 8, 8, 8, 8, 8, 8, 8, 8, 8, 8, 8, 8, 8, 8, 8, 8, 8, 8, 8, 8, 8, 8, 8, 8, 8, 8, 8, 8, 8, 8, 8, 8, 8, 8, 8, 8, 8, 8, 8, 8, 8, 8, 8, 8, 8, 8, 8, 8, 8, 8, 8, 8, 8, 8, 8, 8, 8, 8, 8, 8])) : Str) (IntKind.u8.wrap x3))))) fun n3 =>
  some n3
noncomputable def bits_Len64_j2 (x2 : Int) (n1 : Int) : Option Int :=
  bif (decide ((256 : Int) ≤ x2)) then
    bits_Len64_j1 (bShr .u64 x2 (8 : Int)) (IntKind.i64.wrap (n1 + (8 : Int)))
  else
    bits_Len64_j1 x2 n1
noncomputable def bits_Len64_j3 (x1 : Int) (n : Int) : Option Int :=
  bif (decide ((65536 : Int) ≤ x1)) then
    bits_Len64_j2 (bShr .u64 x1 (16 : Int)) (IntKind.i64.wrap (n + (16 : Int)))
  else
    bits_Len64_j2 x1 n
noncomputable def bits_Len64 (x : Int) : Option Int :=
  bif (decide ((4294967296 : Int) ≤ x)) then
    bits_Len64_j3 (bShr .u64 x (32 : Int)) (32 : Int)
  else
    bits_Len64_j3 x (0 : Int)
/-- math bits.LeadingZeros64 -/
noncomputable def bits_LeadingZeros64 (x : Int) : Option Int :=
  (bits_Len64 x).bind fun y =>
  some (IntKind.i64.wrap ((64 : Int) - y))
/-- math bits.Div64 -/
noncomputable def bits_Div64_j1 (lo : Int) (y : Int) (y1 : Int) (q11 : Int) (un21 : Int) (q01 : Int) : Option (Int × Int) :=
  req (0 ≤ (IntKind.u64.wrap y1)) <|
  bindV (IntKind.u64.wrap ((IntKind.u64.wrap (q11 * (4294967296 : Int))) + q01)) fun quo =>
  bindV (bShr .u64 (IntKind.u64.wrap ((IntKind.u64.wrap ((IntKind.u64.wrap (un21 * (4294967296 : Int))) + (bAnd .u64 (bShl .u64 lo (IntKind.u64.wrap y1)) (4294967295 : Int)))) - (IntKind.u64.wrap (q01 * (bShl .u64 y (IntKind.u64.wrap y1)))))) (IntKind.u64.wrap y1)) fun rem =>
  some (quo, rem)
noncomputable def bits_Div64_l2 (lo : Int) (y : Int) (y1 : Int) : (Int × Int) → Option ((Int × Int) ⊕ Int) :=
  fun (rhat2, q02) =>
    bif ((decide ((4294967296 : Int) ≤ q02)) || (decide ((IntKind.u64.wrap ((IntKind.u64.wrap ((4294967296 : Int) * rhat2)) + (bAnd .u64 (bShl .u64 lo (IntKind.u64.wrap y1)) (4294967295 : Int)))) < (IntKind.u64.wrap (q02 * (bAnd .u64 (bShl .u64 y (IntKind.u64.wrap y1)) (4294967295 : Int))))))) then
      bindV (IntKind.u64.wrap (rhat2 + (bShr .u64 (bShl .u64 y (IntKind.u64.wrap y1)) (32 : Int)))) fun rhat3 =>
      bif (decide ((4294967296 : Int) ≤ rhat3)) then
        some (.inr (IntKind.u64.wrap (q02 - (1 : Int))))
      else
        some (.inl (rhat3, (IntKind.u64.wrap (q02 - (1 : Int)))))
    else
      some (.inr q02)
noncomputable def bits_Div64_j3 (lo : Int) (y : Int) (y1 : Int) (un32 : Int) (q11 : Int) : Option (Int × Int) :=
  bindV (IntKind.u64.wrap ((IntKind.u64.wrap ((IntKind.u64.wrap (un32 * (4294967296 : Int))) + (bShr .u64 (bShl .u64 lo (IntKind.u64.wrap y1)) (32 : Int)))) - (IntKind.u64.wrap (q11 * (bShl .u64 y (IntKind.u64.wrap y1)))))) fun un21 =>
  req ((bShr .u64 (bShl .u64 y (IntKind.u64.wrap y1)) (32 : Int)) ≠ 0) <|
  bindV (IntKind.u64.wrap (Int.tdiv un21 (bShr .u64 (bShl .u64 y (IntKind.u64.wrap y1)) (32 : Int)))) fun q0 =>
  bindV (IntKind.u64.wrap (un21 - (IntKind.u64.wrap (q0 * (bShr .u64 (bShl .u64 y (IntKind.u64.wrap y1)) (32 : Int)))))) fun rhat1 =>
  (iter (bits_Div64_l2 lo y y1) (rhat1, q0)).bind fun q03 =>
  bits_Div64_j1 lo y y1 q11 un21 q03
noncomputable def bits_Div64_l4 (lo : Int) (y : Int) (y1 : Int) : (Int × Int) → Option ((Int × Int) ⊕ Int) :=
  fun (q12, rhat4) =>
    bif ((decide ((4294967296 : Int) ≤ q12)) || (decide ((IntKind.u64.wrap ((IntKind.u64.wrap ((4294967296 : Int) * rhat4)) + (bShr .u64 (bShl .u64 lo (IntKind.u64.wrap y1)) (32 : Int)))) < (IntKind.u64.wrap (q12 * (bAnd .u64 (bShl .u64 y (IntKind.u64.wrap y1)) (4294967295 : Int))))))) then
      bindV (IntKind.u64.wrap (rhat4 + (bShr .u64 (bShl .u64 y (IntKind.u64.wrap y1)) (32 : Int)))) fun rhat5 =>
      bif (decide ((4294967296 : Int) ≤ rhat5)) then
        some (.inr (IntKind.u64.wrap (q12 - (1 : Int))))
      else
        some (.inl ((IntKind.u64.wrap (q12 - (1 : Int))), rhat5))
    else
      some (.inr q12)
noncomputable def bits_Div64_j5 (hi : Int) (lo : Int) (y : Int) : Option (Int × Int) :=
  bif (hi == (0 : Int)) then
    req (y ≠ 0) <|
    some ((IntKind.u64.wrap (Int.tdiv lo y)), (Int.tmod lo y))
  else
    (bits_LeadingZeros64 y).bind fun y1 =>
    req (0 ≤ (IntKind.u64.wrap y1)) <|
    req (0 ≤ (IntKind.u64.wrap y1) ∧ 0 ≤ (IntKind.u64.wrap ((64 : Int) - (IntKind.u64.wrap y1)))) <|
    bindV (bOr .u64 (bShl .u64 hi (IntKind.u64.wrap y1)) (bShr .u64 lo (IntKind.u64.wrap ((64 : Int) - (IntKind.u64.wrap y1))))) fun un32 =>
    req (0 ≤ (IntKind.u64.wrap y1)) <|
    req ((bShr .u64 (bShl .u64 y (IntKind.u64.wrap y1)) (32 : Int)) ≠ 0) <|
    bindV (IntKind.u64.wrap (Int.tdiv un32 (bShr .u64 (bShl .u64 y (IntKind.u64.wrap y1)) (32 : Int)))) fun q1 =>
    bindV (IntKind.u64.wrap (un32 - (IntKind.u64.wrap (q1 * (bShr .u64 (bShl .u64 y (IntKind.u64.wrap y1)) (32 : Int)))))) fun rhat =>
    (iter (bits_Div64_l4 lo y y1) (q1, rhat)).bind fun q13 =>
    bits_Div64_j3 lo y y1 un32 q13
noncomputable def bits_Div64_j6 (hi : Int) (lo : Int) (y : Int) : Option (Int × Int) :=
  bif (decide (y ≤ hi)) then
    none
  else
    bits_Div64_j5 hi lo y
noncomputable def bits_Div64 (hi : Int) (lo : Int) (y : Int) : Option (Int × Int) :=
  bif (y == (0 : Int)) then
    none
  else
    bits_Div64_j6 hi lo y
/-- math bits.Rem64 -/
noncomputable def bits_Rem64 (hi : Int) (lo : Int) (y : Int) : Option Int :=
  req (y ≠ 0) <|
  (bits_Div64 (Int.tmod hi y) lo y).bind fun (y1, y2) =>
  some y2
/-- (awardingbody ratio.wide).mod -/
noncomputable def ratio_wide_mod (a : ratio_wide) (d : Int) : Option Int :=
  (bits_Rem64 a.hi a.lo d).bind fun y =>
  some y
/-- awardingbody ratio.fitted -/
noncomputable def ratio_fitted_j1 (den : ratio_wide) (n : Int) : Option (api_Ratio × Int) :=
  some ((api_Ratio.mk n (IntKind.i64.wrap den.lo)), (0 : Int))
noncomputable def ratio_fitted (neg : Bool) (num : ratio_wide) (den : ratio_wide) : Option (api_Ratio × Int) :=
  bif ((((num.hi != (0 : Int)) || (den.hi != (0 : Int))) || (decide ((1152921504606846976 : Int) < num.lo))) || (decide ((1152921504606846976 : Int) < den.lo))) then
    some ((api_Ratio.mk (0 : Int) (0 : Int)), (6 : Int))
  else
    bif neg then
      ratio_fitted_j1 den (IntKind.i64.wrap (0 - (IntKind.i64.wrap num.lo)))
    else
      ratio_fitted_j1 den (IntKind.i64.wrap num.lo)
/-- (awardingbody ratio.wide).over -/
noncomputable def ratio_wide_over (a : ratio_wide) (d : Int) : Option ratio_wide :=
  req (d ≠ 0) <|
  (bits_Div64 (Int.tmod a.hi d) a.lo d).bind fun (y, y1) =>
  some (ratio_wide.mk (IntKind.u64.wrap (Int.tdiv a.hi d)) y)
/-- awardingbody ratio.reduced -/
noncomputable def ratio_reduced (num : ratio_signed) (den : Int) : Option (api_Ratio × Int) :=
  (ratio_wide_mod num.abs den).bind fun y =>
  (ratio_gcd y den).bind fun y1 =>
  (ratio_wide_over num.abs y1).bind fun y2 =>
  req (y1 ≠ 0) <|
  (ratio_fitted num.neg y2 (ratio_wide.mk (0 : Int) (IntKind.u64.wrap (Int.tdiv den y1)))).bind fun (y3, y4) =>
  some (y3, y4)
end Go.LS
