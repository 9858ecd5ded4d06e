/-
  Plain functions that the program's functions compute. No condition: definitions, printed by dec.py.
-/
import Derived.Test.YtamifffofclhkaaD1
namespace Go.LS
set_option linter.all false
set_option linter.unusedSimpArgs false
set_option linter.unusedVariables false
set_option maxRecDepth 20000

/-- math bits.Len64 -/
noncomputable def bits_Len64_j1 (x3 : Int) (n2 : Int) : Option Int :=
  req ((0 ≤ (IntKind.u8.wrap x3) ∧ (IntKind.u8.wrap x3) < (((List.append (List.append [0, 1, 2, 2, 3, 3, 3, 3, 4, 4, 4, 4, 4, 4, 4, 4, 5, 5, 5, 5, 5, 5, 5, 5, 5, 5, 5, 5, 5, 5, 5, 5, 6, 6, 6, 6, 6, 6, 6, 6, 6, 6, 6, 6, 6, 6, 6, 6, 6, 6, 6, 6, 6, 6, 6, 6, 6, 6, 6, 6, 6, 6, 6, 6] [7, 7, 7, 7, 7, 7, 7, 7, 7, 7, 7, 7, 7, 7, 7, 7, 7, 7, 7, 7, 7, 7, 7, 7, 7, 7, 7, 7, 7, 7, 7, 7, 7, 7, 7, 7, 7, 7, 7, 7, 7, 7, 7, 7, 7, 7, 7, 7, 7, 7, 7, 7, 7, 7, 7, 7, 7, 7, 7, 7, 7, 7, 7, 7]) (List.append [8, 8, 8, 8, 8, 8, 8, 8, 8, 8, 8, 8, 8, 8, 8, 8, 8, 8, 8, 8, 8, 8, 8, 8, 8, 8, 8, 8, 8, 8, 8, 8, 8, 8, 8, 8, 8, 8, 8, 8, 8, 8, 8, 8, 8, 8, 8, 8, 8, 8, 8, 8, 8, 8, 8, 8, 8, 8, 8, 8, 8, 8, 8, 8] [8, 8, 8, 8, 8, 8, 8, 8, 8, 8, 8, 8, 8, 8, 8, 8, 8, 8, 8, 8, 8, 8, 8, 8, 8, 8, 8, 8, 8, 8, 8, 8, 8, 8, 8, 8, 8, 8, 8, 8, 8, 8, 8, 8, 8, 8, 8, 8, 8, 8, 8, 8, 8, 8, 8, 8, 8, 8, 8, 8, 8, 8, 8, 8])) : Str).length : Int))) <|
  bindV (IntKind.i64.wrap (n2 + (IntKind.i64.wrap (sx ((List.append (List.append [0, 1, 2, 2, 3, 3, 3, 3, 4, 4, 4, 4, 4, 4, 4, 4, 5, 5, 5, 5, 5, 5, 5, 5, 5, 5, 5, 5, 5, 5, 5, 5, 6, 6, 6, 6, 6, 6, 6, 6, 6, 6, 6, 6, 6, 6, 6, 6, 6, 6, 6, 6, 6, 6, 6, 6, 6, 6, 6, 6, 6, 6, 6, 6] [7, 7, 7, 7, 7, 7, 7, 7, 7, 7, 7, 7, 7, 7, 7, 7, 7, 7, 7, 7, 7, 7, 7, 7, 7, 7, 7, 7, 7, 7, 7, 7, 7, 7, 7, 7, 7, 7, 7, 7, 7, 7, 7, 7, 7, 7, 7, 7, 7, 7, 7, 7, 7, 7, 7, 7, 7, 7, 7, 7, 7, 7, 7, 7]) (List.append [8, 8, 8, 8, 8, 8, 8, 8, 8, 8, 8, 8, 8, 8, 8, 8, 8, 8, 8, 8, 8, 8, 8, 8, 8, 8, 8, 8, 8, 8, 8, 8, 8, 8, 8, 8, 8, 8, 8, 8, 8, 8, 8, 8, 8, 8, 8, 8, 8, 8, 8, 8, 8, 8, 8, 8, 8, 8, 8, 8, 8, 8, 8, 8] [8, 8, 8, 8, 8, 8, 8, 8, 8, 8, 8, 8, 8, 8, 8, 8, 8, 8, 8, 8, 8, 8, 8, 8, 8, 8, 8, 8, 8, 8, 8, 8, 8, 8, 8, 8, 8, 8, 8, 8, 8, 8, 8, 8, 8, 8, 8, 8, 8, 8, 8, 8, 8, 8, 8, 8, 8, 8, 8, 8, 8, 8, 8, 8])) : Str) (IntKind.u8.wrap x3))))) fun n3 =>
  some n3
noncomputable def bits_Len64_j2 (x2 : Int) (n1 : Int) : Option Int :=
  bif (decide ((256 : Int) ≤ x2)) then
    bits_Len64_j1 (bShr .u64 x2 (8 : Int)) (IntKind.i64.wrap (n1 + (8 : Int)))
  else
    bits_Len64_j1 x2 n1
noncomputable def bits_Len64_j3 (x1 : Int) (n : Int) : Option Int :=
  bif (decide ((65536 : Int) ≤ x1)) then
    bits_Len64_j2 (bShr .u64 x1 (16 : Int)) (IntKind.i64.wrap (n + (16 : Int)))
  else
    bits_Len64_j2 x1 n
noncomputable def bits_Len64 (x : Int) : Option Int :=
  bif (decide ((4294967296 : Int) ≤ x)) then
    bits_Len64_j3 (bShr .u64 x (32 : Int)) (32 : Int)
  else
    bits_Len64_j3 x (0 : Int)
/-- math bits.LeadingZeros64 -/
noncomputable def bits_LeadingZeros64 (x : Int) : Option Int :=
  (bits_Len64 x).bind fun y =>
  some (IntKind.i64.wrap ((64 : Int) - y))
/-- math bits.Div64 -/
noncomputable def bits_Div64_j1 (lo : Int) (y : Int) (y1 : Int) (q11 : Int) (un21 : Int) (q01 : Int) : Option (Int × Int) :=
  req (0 ≤ (IntKind.u64.wrap y1)) <|
  bindV (IntKind.u64.wrap ((IntKind.u64.wrap (q11 * (4294967296 : Int))) + q01)) fun quo =>
  bindV (bShr .u64 (IntKind.u64.wrap ((IntKind.u64.wrap ((IntKind.u64.wrap (un21 * (4294967296 : Int))) + (bAnd .u64 (bShl .u64 lo (IntKind.u64.wrap y1)) (4294967295 : Int)))) - (IntKind.u64.wrap (q01 * (bShl .u64 y (IntKind.u64.wrap y1)))))) (IntKind.u64.wrap y1)) fun rem =>
  some (quo, rem)
noncomputable def bits_Div64_l2 (lo : Int) (y : Int) (y1 : Int) : (Int × Int) → Option ((Int × Int) ⊕ Int) :=
  fun (rhat2, q02) =>
    bif ((decide ((4294967296 : Int) ≤ q02)) || (decide ((IntKind.u64.wrap ((IntKind.u64.wrap ((4294967296 : Int) * rhat2)) + (bAnd .u64 (bShl .u64 lo (IntKind.u64.wrap y1)) (4294967295 : Int)))) < (IntKind.u64.wrap (q02 * (bAnd .u64 (bShl .u64 y (IntKind.u64.wrap y1)) (4294967295 : Int))))))) then
      bindV (IntKind.u64.wrap (rhat2 + (bShr .u64 (bShl .u64 y (IntKind.u64.wrap y1)) (32 : Int)))) fun rhat3 =>
      bif (decide ((4294967296 : Int) ≤ rhat3)) then
        some (.inr (IntKind.u64.wrap (q02 - (1 : Int))))
      else
        some (.inl (rhat3, (IntKind.u64.wrap (q02 - (1 : Int)))))
    else
      some (.inr q02)
noncomputable def bits_Div64_j3 (lo : Int) (y : Int) (y1 : Int) (un32 : Int) (q11 : Int) : Option (Int × Int) :=
  bindV (IntKind.u64.wrap ((IntKind.u64.wrap ((IntKind.u64.wrap (un32 * (4294967296 : Int))) + (bShr .u64 (bShl .u64 lo (IntKind.u64.wrap y1)) (32 : Int)))) - (IntKind.u64.wrap (q11 * (bShl .u64 y (IntKind.u64.wrap y1)))))) fun un21 =>
  req ((bShr .u64 (bShl .u64 y (IntKind.u64.wrap y1)) (32 : Int)) ≠ 0) <|
  bindV (IntKind.u64.wrap (Int.tdiv un21 (bShr .u64 (bShl .u64 y (IntKind.u64.wrap y1)) (32 : Int)))) fun q0 =>
  bindV (IntKind.u64.wrap (un21 - (IntKind.u64.wrap (q0 * (bShr .u64 (bShl .u64 y (IntKind.u64.wrap y1)) (32 : Int)))))) fun rhat1 =>
  (iter (bits_Div64_l2 lo y y1) (rhat1, q0)).bind fun q03 =>
  bits_Div64_j1 lo y y1 q11 un21 q03
noncomputable def bits_Div64_l4 (lo : Int) (y : Int) (y1 : Int) : (Int × Int) → Option ((Int × Int) ⊕ Int) :=
  fun (q12, rhat4) =>
    bif ((decide ((4294967296 : Int) ≤ q12)) || (decide ((IntKind.u64.wrap ((IntKind.u64.wrap ((4294967296 : Int) * rhat4)) + (bShr .u64 (bShl .u64 lo (IntKind.u64.wrap y1)) (32 : Int)))) < (IntKind.u64.wrap (q12 * (bAnd .u64 (bShl .u64 y (IntKind.u64.wrap y1)) (4294967295 : Int))))))) then
      bindV (IntKind.u64.wrap (rhat4 + (bShr .u64 (bShl .u64 y (IntKind.u64.wrap y1)) (32 : Int)))) fun rhat5 =>
      bif (decide ((4294967296 : Int) ≤ rhat5)) then
        some (.inr (IntKind.u64.wrap (q12 - (1 : Int))))
      else
        some (.inl ((IntKind.u64.wrap (q12 - (1 : Int))), rhat5))
    else
      some (.inr q12)
noncomputable def bits_Div64_j5 (hi : Int) (lo : Int) (y : Int) : Option (Int × Int) :=
  bif (hi == (0 : Int)) then
    req (y ≠ 0) <|
    some ((IntKind.u64.wrap (Int.tdiv lo y)), (Int.tmod lo y))
  else
    (bits_LeadingZeros64 y).bind fun y1 =>
    req (0 ≤ (IntKind.u64.wrap y1)) <|
    req (0 ≤ (IntKind.u64.wrap y1) ∧ 0 ≤ (IntKind.u64.wrap ((64 : Int) - (IntKind.u64.wrap y1)))) <|
    bindV (bOr .u64 (bShl .u64 hi (IntKind.u64.wrap y1)) (bShr .u64 lo (IntKind.u64.wrap ((64 : Int) - (IntKind.u64.wrap y1))))) fun un32 =>
    req (0 ≤ (IntKind.u64.wrap y1)) <|
    req ((bShr .u64 (bShl .u64 y (IntKind.u64.wrap y1)) (32 : Int)) ≠ 0) <|
    bindV (IntKind.u64.wrap (Int.tdiv un32 (bShr .u64 (bShl .u64 y (IntKind.u64.wrap y1)) (32 : Int)))) fun q1 =>
    bindV (IntKind.u64.wrap (un32 - (IntKind.u64.wrap (q1 * (bShr .u64 (bShl .u64 y (IntKind.u64.wrap y1)) (32 : Int)))))) fun rhat =>
    (iter (bits_Div64_l4 lo y y1) (q1, rhat)).bind fun q13 =>
    bits_Div64_j3 lo y y1 un32 q13
noncomputable def bits_Div64_j6 (hi : Int) (lo : Int) (y : Int) : Option (Int × Int) :=
  bif (decide (y ≤ hi)) then
    none
  else
    bits_Div64_j5 hi lo y
noncomputable def bits_Div64 (hi : Int) (lo : Int) (y : Int) : Option (Int × Int) :=
  bif (y == (0 : Int)) then
    none
  else
    bits_Div64_j6 hi lo y
/-- math bits.Rem64 -/
noncomputable def bits_Rem64 (hi : Int) (lo : Int) (y : Int) : Option Int :=
  req (y ≠ 0) <|
  (bits_Div64 (Int.tmod hi y) lo y).bind fun (y1, y2) =>
  some y2
/-- (awardingbody ratio.wide).mod -/
noncomputable def ratio_wide_mod (a : ratio_wide) (d : Int) : Option Int :=
  (bits_Rem64 a.hi a.lo d).bind fun y =>
  some y
/-- awardingbody ratio.fitted -/
noncomputable def ratio_fitted_j1 (den : ratio_wide) (n : Int) : Option (api_Ratio × Int) :=
  some ((api_Ratio.mk n (IntKind.i64.wrap den.lo)), (0 : Int))
noncomputable def ratio_fitted (neg : Bool) (num : ratio_wide) (den : ratio_wide) : Option (api_Ratio × Int) :=
  bif ((((num.hi != (0 : Int)) || (den.hi != (0 : Int))) || (decide ((1152921504606846976 : Int) < num.lo))) || (decide ((1152921504606846976 : Int) < den.lo))) then
    some ((api_Ratio.mk (0 : Int) (0 : Int)), (6 : Int))
  else
    bif neg then
      ratio_fitted_j1 den (IntKind.i64.wrap (0 - (IntKind.i64.wrap num.lo)))
    else
      ratio_fitted_j1 den (IntKind.i64.wrap num.lo)
/-- (awardingbody ratio.wide).over -/
noncomputable def ratio_wide_over (a : ratio_wide) (d : Int) : Option ratio_wide :=
  req (d ≠ 0) <|
  (bits_Div64 (Int.tmod a.hi d) a.lo d).bind fun (y, y1) =>
  some (ratio_wide.mk (IntKind.u64.wrap (Int.tdiv a.hi d)) y)
/-- awardingbody ratio.reduced -/
noncomputable def ratio_reduced (num : ratio_signed) (den : Int) : Option (api_Ratio × Int) :=
  (ratio_wide_mod num.abs den).bind fun y =>
  (ratio_gcd y den).bind fun y1 =>
  (ratio_wide_over num.abs y1).bind fun y2 =>
  req (y1 ≠ 0) <|
  (ratio_fitted num.neg y2 (ratio_wide.mk (0 : Int) (IntKind.u64.wrap (Int.tdiv den y1)))).bind fun (y3, y4) =>
  some (y3, y4)
/-- awardingbody ratio.New -/
noncomputable def ratio_New (num : Int) (den : Int) : Option (api_Ratio × Int) :=
  bif (den == (0 : Int)) then
    some ((api_Ratio.mk (0 : Int) (0 : Int)), (2 : Int))
  else
    (ratio_magnitude num).bind fun y =>
    (ratio_magnitude den).bind fun y1 =>
    (ratio_reduced (ratio_signed.mk (!((decide (num < (0 : Int))) == (decide (den < (0 : Int))))) (ratio_wide.mk (0 : Int) y)) y1).bind fun (y2, y3) =>
    some (y2, y3)
/-- math bits.Mul64 -/
noncomputable def bits_Mul64 (x : Int) (y : Int) : Option (Int × Int) :=
  bindV (IntKind.u64.wrap ((bAnd .u64 x (4294967295 : Int)) * (bAnd .u64 y (4294967295 : Int)))) fun w0 =>
  bindV (IntKind.u64.wrap ((IntKind.u64.wrap ((bShr .u64 x (32 : Int)) * (bAnd .u64 y (4294967295 : Int)))) + (bShr .u64 w0 (32 : Int)))) fun t =>
  bindV (IntKind.u64.wrap ((bAnd .u64 t (4294967295 : Int)) + (IntKind.u64.wrap ((bAnd .u64 x (4294967295 : Int)) * (bShr .u64 y (32 : Int)))))) fun w1 =>
  bindV (IntKind.u64.wrap ((IntKind.u64.wrap ((IntKind.u64.wrap ((bShr .u64 x (32 : Int)) * (bShr .u64 y (32 : Int)))) + (bShr .u64 t (32 : Int)))) + (bShr .u64 w1 (32 : Int)))) fun hi =>
  some (hi, (IntKind.u64.wrap (x * y)))
/-- awardingbody ratio.product -/
noncomputable def ratio_product (a : Int) (b : Int) : Option ratio_wide :=
  (bits_Mul64 a b).bind fun (y, y1) =>
  some (ratio_wide.mk y y1)
/-- awardingbody ratio.signedProduct -/
noncomputable def ratio_signedProduct (num : Int) (factor : Int) : Option ratio_signed :=
  (ratio_magnitude num).bind fun y =>
  (ratio_product y factor).bind fun y1 =>
  some (ratio_signed.mk (decide (num < (0 : Int))) y1)
/-- cmp.isNaN[uint64] -/
noncomputable def cmp_isNaN_uint64 (x : Int) : Option Bool :=
  some (x != x)
/-- cmp.Compare[uint64] -/
noncomputable def cmp_Compare_uint64 (x : Int) (y : Int) : Option Int :=
  (cmp_isNaN_uint64 x).bind fun y1 =>
  (cmp_isNaN_uint64 y).bind fun y2 =>
  bif y1 then
    bif y2 then
      some (0 : Int)
    else
      some (-1 : Int)
  else
    bif y2 then
      some (1 : Int)
    else
      bif (decide (x < y)) then
        some (-1 : Int)
      else
        bif (decide (y < x)) then
          some (1 : Int)
        else
          some (0 : Int)
/-- (awardingbody ratio.wide).compare -/
noncomputable def ratio_wide_compare (a : ratio_wide) (b : ratio_wide) : Option Int :=
  (cmp_Compare_uint64 a.hi b.hi).bind fun y =>
  bif (y != (0 : Int)) then
    some y
  else
    (cmp_Compare_uint64 a.lo b.lo).bind fun y1 =>
    some y1
/-- awardingbody ratio.Compare -/
noncomputable def ratio_Compare (a : api_Ratio) (b : api_Ratio) : Option Int :=
  (ratio_Valid a).bind fun y =>
  req (((!(!y)) = true → (ratio_Valid b).isSome = true)) <|
  bif ((!y) || (!((ratio_Valid b).getD default))) then
    some (0 : Int)
  else
    (ratio_signedProduct a.Num (IntKind.u64.wrap b.Den)).bind fun y1 =>
    (ratio_signedProduct b.Num (IntKind.u64.wrap a.Den)).bind fun y2 =>
    bif (y1.neg && y2.neg) then
      (ratio_wide_compare y2.abs y1.abs).bind fun y3 =>
      some y3
    else
      bif y1.neg then
        some (-1 : Int)
      else
        bif y2.neg then
          some (1 : Int)
        else
          (ratio_wide_compare y1.abs y2.abs).bind fun y4 =>
          some y4
/-- awardingbody boundary.compareShare -/
noncomputable def boundary_compareShare (part : Int) (all : Int) (share : api_Ratio) : Option Int :=
  (ratio_New part all).bind fun (y, y1) =>
  (ratio_Compare y share).bind fun y2 =>
  some y2
/-- awardingbody boundary.Share -/
noncomputable def boundary_Share_j1  : Option (Int × Int) :=
  some ((0 : Int), (0 : Int))
noncomputable def boundary_Share_l2 (share : api_Ratio) (y1 : List Int) : Int → Option (Int ⊕ (Unit ⊕ (Int × Int))) :=
  fun b =>
    bif (decide ((0 : Int) < b)) then
      req ((0 ≤ b ∧ b < (y1.length : Int)) ∧ (0 ≤ (0 : Int) ∧ (0 : Int) < (y1.length : Int))) <|
      (boundary_compareShare (ix y1 b) (ix y1 (0 : Int)) share).bind fun y2 =>
      bif (decide ((0 : Int) ≤ y2)) then
        some (.inr (.inr (b, (0 : Int))))
      else
        some (.inl (IntKind.i64.wrap (b - (1 : Int))))
    else
      some (.inr (.inl ()))
noncomputable def boundary_Share (d : api_Distribution) (share : api_Ratio) : Option (Int × Int) :=
  (boundary_check d share).bind fun y =>
  bif (y != (0 : Int)) then
    some ((0 : Int), y)
  else
    (boundary_reaching d).bind fun y1 =>
    (iter (boundary_Share_l2 share y1) (IntKind.i64.wrap ((y1.length : Int) - (1 : Int)))).bind fun x_ =>
    match x_ with
    | .inl () => boundary_Share_j1
    | .inr t_ => some t_
/-- awardingbody awardingbodylaw35.sane -/
noncomputable def law35_sane  : Option Bool :=
  (boundary_Share (api_Distribution.mk ([(1 : Int), (1 : Int), (1 : Int), (1 : Int)])) (api_Ratio.mk (1 : Int) (2 : Int))).bind fun (y, y1) =>
  (boundary_Share (api_Distribution.mk ([(1 : Int), (1 : Int), (1 : Int), (1 : Int)])) (api_Ratio.mk (0 : Int) (1 : Int))).bind fun (y2, y3) =>
  (boundary_Interpolate (70 : Int) (40 : Int) (4 : Int)).bind fun (y4, y5) =>
  (boundary_Tally (api_Distribution.mk ([(1 : Int), (1 : Int), (1 : Int), (1 : Int)])) ([(3 : Int), (1 : Int)])).bind fun (y6, y7) =>
  req ((((((((y1 == (0 : Int)) && (y3 == (0 : Int))) && (y5 == (0 : Int))) && (y7 == (0 : Int))) && (y == (2 : Int))) && (y2 == (4 : Int))) = true → (law35_same y4 ([(70 : Int), (62 : Int), (55 : Int), (47 : Int), (40 : Int)])).isSome = true) ∧ ((((((((y1 == (0 : Int)) && (y3 == (0 : Int))) && (y5 == (0 : Int))) && (y7 == (0 : Int))) && (y == (2 : Int))) && (y2 == (4 : Int))) && ((law35_same y4 ([(70 : Int), (62 : Int), (55 : Int), (47 : Int), (40 : Int)])).getD default)) = true → (law35_same y6 ([(1 : Int), (2 : Int), (1 : Int)])).isSome = true) ∧ (((((((((y1 == (0 : Int)) && (y3 == (0 : Int))) && (y5 == (0 : Int))) && (y7 == (0 : Int))) && (y == (2 : Int))) && (y2 == (4 : Int))) && ((law35_same y4 ([(70 : Int), (62 : Int), (55 : Int), (47 : Int), (40 : Int)])).getD default)) && ((law35_same y6 ([(1 : Int), (2 : Int), (1 : Int)])).getD default)) = true → (boundary_Grade ([(3 : Int), (1 : Int)]) (2 : Int)).isSome = true) ∧ ((((((((((y1 == (0 : Int)) && (y3 == (0 : Int))) && (y5 == (0 : Int))) && (y7 == (0 : Int))) && (y == (2 : Int))) && (y2 == (4 : Int))) && ((law35_same y4 ([(70 : Int), (62 : Int), (55 : Int), (47 : Int), (40 : Int)])).getD default)) && ((law35_same y6 ([(1 : Int), (2 : Int), (1 : Int)])).getD default)) && (((boundary_Grade ([(3 : Int), (1 : Int)]) (2 : Int)).getD default) == (1 : Int))) = true → (boundary_Check ([(3 : Int), (1 : Int)]) (3 : Int)).isSome = true)) <|
  some ((((((((((y1 == (0 : Int)) && (y3 == (0 : Int))) && (y5 == (0 : Int))) && (y7 == (0 : Int))) && (y == (2 : Int))) && (y2 == (4 : Int))) && ((law35_same y4 ([(70 : Int), (62 : Int), (55 : Int), (47 : Int), (40 : Int)])).getD default)) && ((law35_same y6 ([(1 : Int), (2 : Int), (1 : Int)])).getD default)) && (((boundary_Grade ([(3 : Int), (1 : Int)]) (2 : Int)).getD default) == (1 : Int))) && (((boundary_Check ([(3 : Int), (1 : Int)]) (3 : Int)).getD default) == (0 : Int)))
/-- awardingbody awardingbodylaw35.BoundaryGrades -/
noncomputable def law35_BoundaryGrades_j1 (y3 : api_Distribution) (y7 : List Int) (w : List Int) (sum : Int) : Option Bool :=
  (law35_same y7 w).bind fun y9 =>
  req ((y9 = true → (ref32_Count y3).isSome = true) ∧ ((y9 && (sum == ((ref32_Count y3).getD default))) = true → (law35_sane).isSome = true)) <|
  some ((y9 && (sum == ((ref32_Count y3).getD default))) && ((law35_sane).getD default))
noncomputable def law35_BoundaryGrades_l2 (y7 : List Int) : (Int × Int) → Option ((Int × Int) ⊕ Int) :=
  fun (sum1, v) =>
    bif (decide (v < (y7.length : Int))) then
      req ((0 ≤ v ∧ v < (y7.length : Int))) <|
      some (.inl ((IntKind.i64.wrap (sum1 + (ix y7 v))), (IntKind.i64.wrap (v + (1 : Int)))))
    else
      some (.inr sum1)
noncomputable def law35_BoundaryGrades_j3 (y3 : api_Distribution) (y7 : List Int) (w : List Int) : Option Bool :=
  (iter (law35_BoundaryGrades_l2 y7) ((0 : Int), (0 : Int))).bind fun sum2 =>
  law35_BoundaryGrades_j1 y3 y7 w sum2
noncomputable def law35_BoundaryGrades_j4 (m : Int) (last1 : Int) (w3 : List Int) : Option ((Int × Int × (List Int)) ⊕ ((List Int) ⊕ Bool)) :=
  some (.inl (last1, (IntKind.i64.wrap (m + (1 : Int))), w3))
noncomputable def law35_BoundaryGrades_j5 (y3 : api_Distribution) (m : Int) (w1 : List Int) (y10 : Int) : Option ((Int × Int × (List Int)) ⊕ ((List Int) ⊕ Bool)) :=
  req ((0 ≤ y10 ∧ y10 < (w1.length : Int)) ∧ (0 ≤ m ∧ m < (y3.Counts.length : Int))) <|
  law35_BoundaryGrades_j4 m y10 (setI w1 y10 (IntKind.i64.wrap ((ix w1 y10) + (ix y3.Counts m))))
noncomputable def law35_BoundaryGrades_l6 (y5 : List Int) (m : Int) (y10 : Int) : Int → Option (Int ⊕ (Unit ⊕ ((Int × Int × (List Int)) ⊕ ((List Int) ⊕ Bool)))) :=
  fun v1 =>
    bif (decide (v1 < (y5.length : Int))) then
      req ((0 ≤ v1 ∧ v1 < (y5.length : Int))) <|
      bif (!((decide ((ix y5 v1) ≤ m)) == (decide (y10 ≤ v1)))) then
        some (.inr (.inr (.inr (.inr false))))
      else
        some (.inl (IntKind.i64.wrap (v1 + (1 : Int))))
    else
      some (.inr (.inl ()))
noncomputable def law35_BoundaryGrades_l7 (y3 : api_Distribution) (y5 : List Int) : (Int × Int × (List Int)) → Option ((Int × Int × (List Int)) ⊕ ((List Int) ⊕ Bool)) :=
  fun (last, m, w1) =>
    bif (decide (m ≤ (IntKind.i64.wrap ((y3.Counts.length : Int) - (1 : Int))))) then
      (boundary_Grade y5 m).bind fun y10 =>
      bif ((decide (last < y10)) || (decide (y10 < (0 : Int)))) then
        some (.inr (.inr false))
      else
        (iter (law35_BoundaryGrades_l6 y5 m y10) (0 : Int)).bind fun x_ =>
        match x_ with
        | .inl () => law35_BoundaryGrades_j5 y3 m w1 y10
        | .inr t_ => some t_
    else
      some (.inr (.inl w1))
noncomputable def law35_BoundaryGrades (t : List Int) : Option Bool :=
  (mark_Light t).bind fun y =>
  bif (!y) then
    (law35_sane).bind fun y1 =>
    some y1
  else
    (mark_Roll t).bind fun y2 =>
    (mark_Dice_Distribution y2 (9 : Int) false).bind fun (y3, y4) =>
    (mark_Dice_Bounds y4 (IntKind.i64.wrap ((y3.Counts.length : Int) - (1 : Int)))).bind fun (y5, y6) =>
    (boundary_Tally y3 y5).bind fun (y7, y8) =>
    bif ((y8 != (0 : Int)) || ((y7.length : Int) != (IntKind.i64.wrap ((y5.length : Int) + (1 : Int))))) then
      some false
    else
      req ((0 ≤ (y7.length : Int) ∧ (y7.length : Int) * 8 ≤ 140737488355328)) <|
      (iter (law35_BoundaryGrades_l7 y3 y5) ((y5.length : Int), (0 : Int), (rep (y7.length : Int) (0 : Int)))).bind fun x_ =>
      match x_ with
      | .inl w2 => law35_BoundaryGrades_j3 y3 y7 w2
      | .inr t_ => some t_
/-- awardingbody awardingbodylaw35.BoundaryInterpolates -/
noncomputable def law35_BoundaryInterpolates_j1 (least : Int) (most : Int) : Option Bool :=
  req ((((decide ((0 : Int) ≤ least)) && (decide ((IntKind.i64.wrap (most - least)) ≤ (1 : Int)))) = true → (law35_sane).isSome = true)) <|
  some (((decide ((0 : Int) ≤ least)) && (decide ((IntKind.i64.wrap (most - least)) ≤ (1 : Int)))) && ((law35_sane).getD default))
noncomputable def law35_BoundaryInterpolates_l2 (n : Int) (y : List Int) : (Int × Int × Int) → Option ((Int × Int × Int) ⊕ (Int × Int)) :=
  fun (least1, most1, i) =>
    bif (decide (i ≤ n)) then
      req ((0 ≤ (IntKind.i64.wrap (i - (1 : Int))) ∧ (IntKind.i64.wrap (i - (1 : Int))) < (y.length : Int)) ∧ (0 ≤ i ∧ i < (y.length : Int))) <|
      bindV (imax most1 (IntKind.i64.wrap ((ix y (IntKind.i64.wrap (i - (1 : Int)))) - (ix y i)))) fun most3 =>
      bindV (imin least1 (IntKind.i64.wrap ((ix y (IntKind.i64.wrap (i - (1 : Int)))) - (ix y i)))) fun least3 =>
      some (.inl (least3, most3, (IntKind.i64.wrap (i + (1 : Int)))))
    else
      some (.inr (least1, most1))
noncomputable def law35_BoundaryInterpolates (high : Int) (low : Int) (steps : Int) : Option Bool :=
  bindV (IntKind.i64.wrap ((1 : Int) + (Int.tmod (IntKind.i64.wrap steps) (8 : Int)))) fun n =>
  bindV (IntKind.i64.wrap ((Int.tmod (IntKind.i64.wrap low) (100 : Int)) + (Int.tmod (IntKind.i64.wrap high) (100 : Int)))) fun hi =>
  (boundary_Interpolate hi (Int.tmod (IntKind.i64.wrap low) (100 : Int)) n).bind fun (y, y1) =>
  req (((!((y1 != (0 : Int)) || ((y.length : Int) != (IntKind.i64.wrap (n + (1 : Int)))))) = true → 0 ≤ (0 : Int) ∧ (0 : Int) < (y.length : Int)) ∧ ((!(((y1 != (0 : Int)) || ((y.length : Int) != (IntKind.i64.wrap (n + (1 : Int))))) || ((ix y (0 : Int)) != hi))) = true → 0 ≤ n ∧ n < (y.length : Int))) <|
  bif ((((y1 != (0 : Int)) || ((y.length : Int) != (IntKind.i64.wrap (n + (1 : Int))))) || ((ix y (0 : Int)) != hi)) || ((ix y n) != (Int.tmod (IntKind.i64.wrap low) (100 : Int)))) then
    some false
  else
    (iter (law35_BoundaryInterpolates_l2 n y) ((200 : Int), (0 : Int), (1 : Int))).bind fun (least2, most2) =>
    law35_BoundaryInterpolates_j1 least2 most2
/-- awardingbody awardingbodylaw35.BoundaryShares$1 -/
noncomputable def law35_BoundaryShares_f1 (b : Int) (c : Int) (c_1 : api_Distribution) : Option Int :=
  (ref32_Below c_1 b).bind fun y =>
  some (IntKind.i64.wrap (c - y))
/-- awardingbody awardingbodylaw35.BoundaryShares$2 -/
noncomputable def law35_BoundaryShares_f2 (b : Int) (c_1 : Int) (c_2 : Int) (c_3 : api_Distribution) : Option Int :=
  (law35_BoundaryShares_f1 b c_2 c_3).bind fun y =>
  (law35_BoundaryShares_f1 b c_2 c_3).bind fun y1 =>
  bindV (imax (IntKind.i64.wrap ((IntKind.i64.wrap (y * (12 : Int))) - (IntKind.i64.wrap (c_1 * c_2)))) (IntKind.i64.wrap ((IntKind.i64.wrap (c_1 * c_2)) - (IntKind.i64.wrap (y1 * (12 : Int)))))) fun v =>
  some v
/-- awardingbody awardingbodyref01.Twice -/
noncomputable def ref01_Twice (a : ref01_Wide) : Option ref01_Wide :=
  some (ref01_Wide.mk (bOr .u64 (bShl .u64 a.Hi (1 : Int)) (bShr .u64 a.Lo (63 : Int))) (bShl .u64 a.Lo (1 : Int)))
end Go.LS
