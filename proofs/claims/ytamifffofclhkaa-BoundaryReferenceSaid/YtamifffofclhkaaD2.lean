/-
  Plain functions that the program's functions compute. No condition: definitions, printed by dec.py.
-/
import Derived.Test.YtamifffofclhkaaD1
namespace Go.LS
set_option linter.all false
set_option linter.unusedSimpArgs false
set_option linter.unusedVariables false
set_option maxRecDepth 20000

/-- awardingbody boundary.check -/
noncomputable def boundary_check (d : api_Distribution) (share : api_Ratio) : Option Int :=
  (distribution_Valid d).bind fun y =>
  req (((!(!y)) = true → (ratio_Valid share).isSome = true)) <|
  bif ((!y) || (!((ratio_Valid share).getD default))) then
    some (1 : Int)
  else
    (distribution_Count d).bind fun y1 =>
    bif (y1 == (0 : Int)) then
      some (10 : Int)
    else
      bif ((decide (share.Num < (0 : Int))) || (decide (share.Den < share.Num))) then
        some (2 : Int)
      else
        some (0 : Int)
/-- awardingbody boundary.reaching -/
noncomputable def boundary_reaching_j1 (w : List Int) : Option (List Int) :=
  some w
noncomputable def boundary_reaching_l2 (d : api_Distribution) : (Int × (List Int)) → Option ((Int × (List Int)) ⊕ (List Int)) :=
  fun (i, w1) =>
    bif (decide ((0 : Int) ≤ i)) then
      req ((0 ≤ (IntKind.i64.wrap (i + (1 : Int))) ∧ (IntKind.i64.wrap (i + (1 : Int))) < (w1.length : Int)) ∧ (0 ≤ i ∧ i < (d.Counts.length : Int)) ∧ (0 ≤ i ∧ i < (w1.length : Int))) <|
      bindV (setI w1 i (IntKind.i64.wrap ((ix w1 (IntKind.i64.wrap (i + (1 : Int)))) + (ix d.Counts i)))) fun w3 =>
      some (.inl ((IntKind.i64.wrap (i - (1 : Int))), w3))
    else
      some (.inr w1)
noncomputable def boundary_reaching (d : api_Distribution) : Option (List Int) :=
  req ((0 ≤ (IntKind.i64.wrap ((d.Counts.length : Int) + (1 : Int))) ∧ (IntKind.i64.wrap ((d.Counts.length : Int) + (1 : Int))) * 8 ≤ 140737488355328)) <|
  (boundary_greatest d).bind fun y =>
  (iter (boundary_reaching_l2 d) (y, (rep (IntKind.i64.wrap ((d.Counts.length : Int) + (1 : Int))) (0 : Int)))).bind fun w2 =>
  boundary_reaching_j1 w2
/-- math bits.Len64 -/
noncomputable def bits_Len64_j1 (x3 : Int) (n2 : Int) : Option Int :=
  req ((0 ≤ (IntKind.u8.wrap x3) ∧ (IntKind.u8.wrap x3) < (((List.append (List.append [0, 1, 2, 2, 3, 3, 3, 3, 4, 4, 4, 4, 4, 4, 4, 4, 5, 5, 5, 5, 5, 5, 5, 5, 5, 5, 5, 5, 5, 5, 5, 5, 6, 6, 6, 6, 6, 6, 6, 6, 6, 6, 6, 6, 6, 6, 6, 6, 6, 6, 6, 6, 6, 6, 6, 6, 6, 6, 6, 6, 6, 6, 6, 6] [7, 7, 7, 7, 7, 7, 7, 7, 7, 7, 7, 7, 7, 7, 7, 7, 7, 7, 7, 7, 7, 7, 7, 7, 7, 7, 7, 7, 7, 7, 7, 7, 7, 7, 7, 7, 7, 7, 7, 7, 7, 7, 7, 7, 7, 7, 7, 7, 7, 7, 7, 7, 7, 7, 7, 7, 7, 7, 7, 7, 7, 7, 7, 7]) (List.append [8, 8, 8, 8, 8, 8, 8, 8, 8, 8, 8, 8, 8, 8, 8, 8, 8, 8, 8, 8, 8, 8, 8, 8, 8, 8, 8, 8, 8, 8, 8, 8, 8, 8, 8, 8, 8, 8, 8, 8, 8, 8, 8, 8, 8, 8, 8, 8, 8, 8, 8, 8, 8, 8, 8, 8, 8, 8, 8, 8, 8, 8, 8, 8] [8, 8, 8, 8, 8, 8, 8, 8, 8, 8, 8, 8, 8, 8, 8, 8, 8, 8, 8, 8, 8, 8, 8, 8, 8, 8, 8, 8, 8, 8, 8, 8, 8, 8, 8, 8, 8, 8, 8, 8, 8, 8, 8, 8, 8, 8, 8, 8, 8, 8, 8, 8, 8, 8, 8, 8, 8, 8, 8, 8, 8, 8, 8, 8])) : Str).length : Int))) <|
  bindV (IntKind.i64.wrap (n2 + (IntKind.i64.wrap (sx ((List.append (List.append [0, 1, 2, 2, 3, 3, 3, 3, 4, 4, 4, 4, 4, 4, 4, 4, 5, 5, 5, 5, 5, 5, 5, 5, 5, 5, 5, 5, 5, 5, 5, 5, 6, 6, 6, 6, 6, 6, 6, 6, 6, 6, 6, 6, 6, 6, 6, 6, 6, 6, 6, 6, 6, 6, 6, 6, 6, 6, 6, 6, 6, 6, 6, 6] [7, 7, 7, 7, 7, 7, 7, 7, 7, 7, 7, 7, 7, 7, 7, 7, 7, 7, 7, 7, 7, 7, 7, 7, 7, 7, 7, 7, 7, 7, 7, 7, 7, 7, 7, 7, 7, 7, 7, 7, 7, 7, 7, 7, 7, 7, 7, 7, 7, 7, 7, 7, 7, 7, 7, 7, 7, 7, 7, 7, 7, 7, 7, 7]) (List.append [8, 8, 8, 8, 8, 8, 8, 8, 8, 8, 8, 8, 8, 8, 8, 8, 8, 8, 8, 8, 8, 8, 8, 8, 8, 8, 8, 8, 8, 8, 8, 8, 8, 8, 8, 8, 8, 8, 8, 8, 8, 8, 8, 8, 8, 8, 8, 8, 8, 8, 8, 8, 8, 8, 8, 8, 8, 8, 8, 8, 8, 8, 8, 8] [8, 8, 8, 8, 8, 8, 8, 8, 8, 8, 8, 8, 8, 8, 8, 8, 8, 8, 8, 8, 8, 8, 8, 8, 8, 8, 8, 8, 8, 8, 8, 8, 8, 8, 8, 8, 8, 8, 8, 8, 8, 8, 8, 8, 8, 8, 8, 8, 8, 8, 8, 8, 8, 8, 8, 8, 8, 8, 8, 8, 8, 8, 8, 8])) : Str) (IntKind.u8.wrap x3))))) fun n3 =>
  some n3
noncomputable def bits_Len64_j2 (x2 : Int) (n1 : Int) : Option Int :=
  bif (decide ((256 : Int) ≤ x2)) then
    bits_Len64_j1 (bShr .u64 x2 (8 : Int)) (IntKind.i64.wrap (n1 + (8 : Int)))
  else
    bits_Len64_j1 x2 n1
noncomputable def bits_Len64_j3 (x1 : Int) (n : Int) : Option Int :=
  bif (decide ((65536 : Int) ≤ x1)) then
    bits_Len64_j2 (bShr .u64 x1 (16 : Int)) (IntKind.i64.wrap (n + (16 : Int)))
  else
    bits_Len64_j2 x1 n
noncomputable def bits_Len64 (x : Int) : Option Int :=
  bif (decide ((4294967296 : Int) ≤ x)) then
    bits_Len64_j3 (bShr .u64 x (32 : Int)) (32 : Int)
  else
    bits_Len64_j3 x (0 : Int)
/-- math bits.LeadingZeros64 -/
noncomputable def bits_LeadingZeros64 (x : Int) : Option Int :=
  (bits_Len64 x).bind fun y =>
  some (IntKind.i64.wrap ((64 : Int) - y))
/-- math bits.Div64 -/
noncomputable def bits_Div64_j1 (lo : Int) (y : Int) (y1 : Int) (q11 : Int) (un21 : Int) (q01 : Int) : Option (Int × Int) :=
  req (0 ≤ (IntKind.u64.wrap y1)) <|
  bindV (IntKind.u64.wrap ((IntKind.u64.wrap (q11 * (4294967296 : Int))) + q01)) fun quo =>
  bindV (bShr .u64 (IntKind.u64.wrap ((IntKind.u64.wrap ((IntKind.u64.wrap (un21 * (4294967296 : Int))) + (bAnd .u64 (bShl .u64 lo (IntKind.u64.wrap y1)) (4294967295 : Int)))) - (IntKind.u64.wrap (q01 * (bShl .u64 y (IntKind.u64.wrap y1)))))) (IntKind.u64.wrap y1)) fun rem =>
  some (quo, rem)
noncomputable def bits_Div64_l2 (lo : Int) (y : Int) (y1 : Int) : (Int × Int) → Option ((Int × Int) ⊕ Int) :=
  fun (rhat2, q02) =>
    bif ((decide ((4294967296 : Int) ≤ q02)) || (decide ((IntKind.u64.wrap ((IntKind.u64.wrap ((4294967296 : Int) * rhat2)) + (bAnd .u64 (bShl .u64 lo (IntKind.u64.wrap y1)) (4294967295 : Int)))) < (IntKind.u64.wrap (q02 * (bAnd .u64 (bShl .u64 y (IntKind.u64.wrap y1)) (4294967295 : Int))))))) then
      bindV (IntKind.u64.wrap (rhat2 + (bShr .u64 (bShl .u64 y (IntKind.u64.wrap y1)) (32 : Int)))) fun rhat3 =>
      bif (decide ((4294967296 : Int) ≤ rhat3)) then
        some (.inr (IntKind.u64.wrap (q02 - (1 : Int))))
      else
        some (.inl (rhat3, (IntKind.u64.wrap (q02 - (1 : Int)))))
    else
      some (.inr q02)
noncomputable def bits_Div64_j3 (lo : Int) (y : Int) (y1 : Int) (un32 : Int) (q11 : Int) : Option (Int × Int) :=
  bindV (IntKind.u64.wrap ((IntKind.u64.wrap ((IntKind.u64.wrap (un32 * (4294967296 : Int))) + (bShr .u64 (bShl .u64 lo (IntKind.u64.wrap y1)) (32 : Int)))) - (IntKind.u64.wrap (q11 * (bShl .u64 y (IntKind.u64.wrap y1)))))) fun un21 =>
  req ((bShr .u64 (bShl .u64 y (IntKind.u64.wrap y1)) (32 : Int)) ≠ 0) <|
  bindV (IntKind.u64.wrap (Int.tdiv un21 (bShr .u64 (bShl .u64 y (IntKind.u64.wrap y1)) (32 : Int)))) fun q0 =>
  bindV (IntKind.u64.wrap (un21 - (IntKind.u64.wrap (q0 * (bShr .u64 (bShl .u64 y (IntKind.u64.wrap y1)) (32 : Int)))))) fun rhat1 =>
  (iter (bits_Div64_l2 lo y y1) (rhat1, q0)).bind fun q03 =>
  bits_Div64_j1 lo y y1 q11 un21 q03
noncomputable def bits_Div64_l4 (lo : Int) (y : Int) (y1 : Int) : (Int × Int) → Option ((Int × Int) ⊕ Int) :=
  fun (q12, rhat4) =>
    bif ((decide ((4294967296 : Int) ≤ q12)) || (decide ((IntKind.u64.wrap ((IntKind.u64.wrap ((4294967296 : Int) * rhat4)) + (bShr .u64 (bShl .u64 lo (IntKind.u64.wrap y1)) (32 : Int)))) < (IntKind.u64.wrap (q12 * (bAnd .u64 (bShl .u64 y (IntKind.u64.wrap y1)) (4294967295 : Int))))))) then
      bindV (IntKind.u64.wrap (rhat4 + (bShr .u64 (bShl .u64 y (IntKind.u64.wrap y1)) (32 : Int)))) fun rhat5 =>
      bif (decide ((4294967296 : Int) ≤ rhat5)) then
        some (.inr (IntKind.u64.wrap (q12 - (1 : Int))))
      else
        some (.inl ((IntKind.u64.wrap (q12 - (1 : Int))), rhat5))
    else
      some (.inr q12)
noncomputable def bits_Div64_j5 (hi : Int) (lo : Int) (y : Int) : Option (Int × Int) :=
  bif (hi == (0 : Int)) then
    req (y ≠ 0) <|
    some ((IntKind.u64.wrap (Int.tdiv lo y)), (Int.tmod lo y))
  else
    (bits_LeadingZeros64 y).bind fun y1 =>
    req (0 ≤ (IntKind.u64.wrap y1)) <|
    req (0 ≤ (IntKind.u64.wrap y1) ∧ 0 ≤ (IntKind.u64.wrap ((64 : Int) - (IntKind.u64.wrap y1)))) <|
    bindV (bOr .u64 (bShl .u64 hi (IntKind.u64.wrap y1)) (bShr .u64 lo (IntKind.u64.wrap ((64 : Int) - (IntKind.u64.wrap y1))))) fun un32 =>
    req (0 ≤ (IntKind.u64.wrap y1)) <|
    req ((bShr .u64 (bShl .u64 y (IntKind.u64.wrap y1)) (32 : Int)) ≠ 0) <|
    bindV (IntKind.u64.wrap (Int.tdiv un32 (bShr .u64 (bShl .u64 y (IntKind.u64.wrap y1)) (32 : Int)))) fun q1 =>
    bindV (IntKind.u64.wrap (un32 - (IntKind.u64.wrap (q1 * (bShr .u64 (bShl .u64 y (IntKind.u64.wrap y1)) (32 : Int)))))) fun rhat =>
    (iter (bits_Div64_l4 lo y y1) (q1, rhat)).bind fun q13 =>
    bits_Div64_j3 lo y y1 un32 q13
noncomputable def bits_Div64_j6 (hi : Int) (lo : Int) (y : Int) : Option (Int × Int) :=
  bif (decide (y ≤ hi)) then
    none
  else
    bits_Div64_j5 hi lo y
noncomputable def bits_Div64 (hi : Int) (lo : Int) (y : Int) : Option (Int × Int) :=
  bif (y == (0 : Int)) then
    none
  else
    bits_Div64_j6 hi lo y
/-- math bits.Rem64 -/
noncomputable def bits_Rem64 (hi : Int) (lo : Int) (y : Int) : Option Int :=
  req (y ≠ 0) <|
  (bits_Div64 (Int.tmod hi y) lo y).bind fun (y1, y2) =>
  some y2
/-- (awardingbody ratio.wide).mod -/
noncomputable def ratio_wide_mod (a : ratio_wide) (d : Int) : Option Int :=
  (bits_Rem64 a.hi a.lo d).bind fun y =>
  some y
/-- awardingbody ratio.fitted -/
noncomputable def ratio_fitted_j1 (den : ratio_wide) (n : Int) : Option (api_Ratio × Int) :=
  some ((api_Ratio.mk n (IntKind.i64.wrap den.lo)), (0 : Int))
noncomputable def ratio_fitted (neg : Bool) (num : ratio_wide) (den : ratio_wide) : Option (api_Ratio × Int) :=
  bif ((((num.hi != (0 : Int)) || (den.hi != (0 : Int))) || (decide ((1152921504606846976 : Int) < num.lo))) || (decide ((1152921504606846976 : Int) < den.lo))) then
    some ((api_Ratio.mk (0 : Int) (0 : Int)), (6 : Int))
  else
    bif neg then
      ratio_fitted_j1 den (IntKind.i64.wrap (0 - (IntKind.i64.wrap num.lo)))
    else
      ratio_fitted_j1 den (IntKind.i64.wrap num.lo)
/-- (awardingbody ratio.wide).over -/
noncomputable def ratio_wide_over (a : ratio_wide) (d : Int) : Option ratio_wide :=
  req (d ≠ 0) <|
  (bits_Div64 (Int.tmod a.hi d) a.lo d).bind fun (y, y1) =>
  some (ratio_wide.mk (IntKind.u64.wrap (Int.tdiv a.hi d)) y)
/-- awardingbody ratio.reduced -/
noncomputable def ratio_reduced (num : ratio_signed) (den : Int) : Option (api_Ratio × Int) :=
  (ratio_wide_mod num.abs den).bind fun y =>
  (ratio_gcd y den).bind fun y1 =>
  (ratio_wide_over num.abs y1).bind fun y2 =>
  req (y1 ≠ 0) <|
  (ratio_fitted num.neg y2 (ratio_wide.mk (0 : Int) (IntKind.u64.wrap (Int.tdiv den y1)))).bind fun (y3, y4) =>
  some (y3, y4)
/-- awardingbody ratio.New -/
noncomputable def ratio_New (num : Int) (den : Int) : Option (api_Ratio × Int) :=
  bif (den == (0 : Int)) then
    some ((api_Ratio.mk (0 : Int) (0 : Int)), (2 : Int))
  else
    (ratio_magnitude num).bind fun y =>
    (ratio_magnitude den).bind fun y1 =>
    (ratio_reduced (ratio_signed.mk (!((decide (num < (0 : Int))) == (decide (den < (0 : Int))))) (ratio_wide.mk (0 : Int) y)) y1).bind fun (y2, y3) =>
    some (y2, y3)
/-- math bits.Mul64 -/
noncomputable def bits_Mul64 (x : Int) (y : Int) : Option (Int × Int) :=
  bindV (IntKind.u64.wrap ((bAnd .u64 x (4294967295 : Int)) * (bAnd .u64 y (4294967295 : Int)))) fun w0 =>
  bindV (IntKind.u64.wrap ((IntKind.u64.wrap ((bShr .u64 x (32 : Int)) * (bAnd .u64 y (4294967295 : Int)))) + (bShr .u64 w0 (32 : Int)))) fun t =>
  bindV (IntKind.u64.wrap ((bAnd .u64 t (4294967295 : Int)) + (IntKind.u64.wrap ((bAnd .u64 x (4294967295 : Int)) * (bShr .u64 y (32 : Int)))))) fun w1 =>
  bindV (IntKind.u64.wrap ((IntKind.u64.wrap ((IntKind.u64.wrap ((bShr .u64 x (32 : Int)) * (bShr .u64 y (32 : Int)))) + (bShr .u64 t (32 : Int)))) + (bShr .u64 w1 (32 : Int)))) fun hi =>
  some (hi, (IntKind.u64.wrap (x * y)))
/-- awardingbody ratio.product -/
noncomputable def ratio_product (a : Int) (b : Int) : Option ratio_wide :=
  (bits_Mul64 a b).bind fun (y, y1) =>
  some (ratio_wide.mk y y1)
/-- awardingbody ratio.signedProduct -/
noncomputable def ratio_signedProduct (num : Int) (factor : Int) : Option ratio_signed :=
  (ratio_magnitude num).bind fun y =>
  (ratio_product y factor).bind fun y1 =>
  some (ratio_signed.mk (decide (num < (0 : Int))) y1)
end Go.LS
