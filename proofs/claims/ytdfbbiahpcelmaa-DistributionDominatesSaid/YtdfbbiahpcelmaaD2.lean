/-
  Plain functions that the program's functions compute. No condition: definitions, printed by dec.py.
-/
import Derived.Test.YtdfbbiahpcelmaaD1
namespace Go.LS
set_option linter.all false
set_option linter.unusedSimpArgs false
set_option linter.unusedVariables false
set_option maxRecDepth 20000

/-- (awardingbody ratio.wide).over -/
noncomputable def ratio_wide_over (a : ratio_wide) (d : Int) : Option ratio_wide :=
  req (d ≠ 0) <|
  (bits_Div64 (Int.tmod a.hi d) a.lo d).bind fun (y, y1) =>
  some (ratio_wide.mk (IntKind.u64.wrap (Int.tdiv a.hi d)) y)
/-- awardingbody ratio.reduced -/
noncomputable def ratio_reduced (num : ratio_signed) (den : Int) : Option (api_Ratio × Int) :=
  (ratio_wide_mod num.abs den).bind fun y =>
  (ratio_gcd y den).bind fun y1 =>
  (ratio_wide_over num.abs y1).bind fun y2 =>
  req (y1 ≠ 0) <|
  (ratio_fitted num.neg y2 (ratio_wide.mk (0 : Int) (IntKind.u64.wrap (Int.tdiv den y1)))).bind fun (y3, y4) =>
  some (y3, y4)
/-- awardingbody ratio.New -/
noncomputable def ratio_New (num : Int) (den : Int) : Option (api_Ratio × Int) :=
  bif (den == (0 : Int)) then
    some ((api_Ratio.mk (0 : Int) (0 : Int)), (2 : Int))
  else
    (ratio_magnitude num).bind fun y =>
    (ratio_magnitude den).bind fun y1 =>
    (ratio_reduced (ratio_signed.mk (!((decide (num < (0 : Int))) == (decide (den < (0 : Int))))) (ratio_wide.mk (0 : Int) y)) y1).bind fun (y2, y3) =>
    some (y2, y3)
/-- math bits.Mul64 -/
noncomputable def bits_Mul64 (x : Int) (y : Int) : Option (Int × Int) :=
  bindV (IntKind.u64.wrap ((bAnd .u64 x (4294967295 : Int)) * (bAnd .u64 y (4294967295 : Int)))) fun w0 =>
  bindV (IntKind.u64.wrap ((IntKind.u64.wrap ((bShr .u64 x (32 : Int)) * (bAnd .u64 y (4294967295 : Int)))) + (bShr .u64 w0 (32 : Int)))) fun t =>
  bindV (IntKind.u64.wrap ((bAnd .u64 t (4294967295 : Int)) + (IntKind.u64.wrap ((bAnd .u64 x (4294967295 : Int)) * (bShr .u64 y (32 : Int)))))) fun w1 =>
  bindV (IntKind.u64.wrap ((IntKind.u64.wrap ((IntKind.u64.wrap ((bShr .u64 x (32 : Int)) * (bShr .u64 y (32 : Int)))) + (bShr .u64 t (32 : Int)))) + (bShr .u64 w1 (32 : Int)))) fun hi =>
  some (hi, (IntKind.u64.wrap (x * y)))
/-- awardingbody ratio.product -/
noncomputable def ratio_product (a : Int) (b : Int) : Option ratio_wide :=
  (bits_Mul64 a b).bind fun (y, y1) =>
  some (ratio_wide.mk y y1)
/-- awardingbody ratio.signedProduct -/
noncomputable def ratio_signedProduct (num : Int) (factor : Int) : Option ratio_signed :=
  (ratio_magnitude num).bind fun y =>
  (ratio_product y factor).bind fun y1 =>
  some (ratio_signed.mk (decide (num < (0 : Int))) y1)
/-- cmp.isNaN[uint64] -/
noncomputable def cmp_isNaN_uint64 (x : Int) : Option Bool :=
  some (x != x)
/-- cmp.Compare[uint64] -/
noncomputable def cmp_Compare_uint64 (x : Int) (y : Int) : Option Int :=
  (cmp_isNaN_uint64 x).bind fun y1 =>
  (cmp_isNaN_uint64 y).bind fun y2 =>
  bif y1 then
    bif y2 then
      some (0 : Int)
    else
      some (-1 : Int)
  else
    bif y2 then
      some (1 : Int)
    else
      bif (decide (x < y)) then
        some (-1 : Int)
      else
        bif (decide (y < x)) then
          some (1 : Int)
        else
          some (0 : Int)
/-- (awardingbody ratio.wide).compare -/
noncomputable def ratio_wide_compare (a : ratio_wide) (b : ratio_wide) : Option Int :=
  (cmp_Compare_uint64 a.hi b.hi).bind fun y =>
  bif (y != (0 : Int)) then
    some y
  else
    (cmp_Compare_uint64 a.lo b.lo).bind fun y1 =>
    some y1
/-- awardingbody ratio.Compare -/
noncomputable def ratio_Compare (a : api_Ratio) (b : api_Ratio) : Option Int :=
  (ratio_Valid a).bind fun y =>
  req (((!(!y)) = true → (ratio_Valid b).isSome = true)) <|
  bif ((!y) || (!((ratio_Valid b).getD default))) then
    some (0 : Int)
  else
    (ratio_signedProduct a.Num (IntKind.u64.wrap b.Den)).bind fun y1 =>
    (ratio_signedProduct b.Num (IntKind.u64.wrap a.Den)).bind fun y2 =>
    bif (y1.neg && y2.neg) then
      (ratio_wide_compare y2.abs y1.abs).bind fun y3 =>
      some y3
    else
      bif y1.neg then
        some (-1 : Int)
      else
        bif y2.neg then
          some (1 : Int)
        else
          (ratio_wide_compare y1.abs y2.abs).bind fun y4 =>
          some y4
/-- awardingbody distribution.Quantile -/
noncomputable def distribution_Quantile_j1 (d : api_Distribution) : Option (Int × Int) :=
  some ((IntKind.i64.wrap ((d.Counts.length : Int) - (1 : Int))), (0 : Int))
noncomputable def distribution_Quantile_l2 (d : api_Distribution) (share : api_Ratio) (y1 : Int) : (Int × Int) → Option ((Int × Int) ⊕ (Unit ⊕ (Int × Int))) :=
  fun (sum, v) =>
    bif (decide (v < (d.Counts.length : Int))) then
      req ((0 ≤ v ∧ v < (d.Counts.length : Int))) <|
      (ratio_New (IntKind.i64.wrap (sum + (ix d.Counts v))) y1).bind fun (y3, y4) =>
      bif (y4 != (0 : Int)) then
        some (.inr (.inr ((0 : Int), y4)))
      else
        (ratio_Compare y3 share).bind fun y5 =>
        bif (decide ((0 : Int) ≤ y5)) then
          some (.inr (.inr (v, (0 : Int))))
        else
          some (.inl ((IntKind.i64.wrap (sum + (ix d.Counts v))), (IntKind.i64.wrap (v + (1 : Int)))))
    else
      some (.inr (.inl ()))
noncomputable def distribution_Quantile (d : api_Distribution) (share : api_Ratio) : Option (Int × Int) :=
  (distribution_Valid d).bind fun y =>
  req (((!(!y)) = true → (ratio_Valid share).isSome = true)) <|
  bif ((!y) || (!((ratio_Valid share).getD default))) then
    some ((0 : Int), (1 : Int))
  else
    (distribution_check d).bind fun (y1, y2) =>
    bif (y2 != (0 : Int)) then
      some ((0 : Int), y2)
    else
      bif ((decide (share.Num < (0 : Int))) || (decide (share.Den < share.Num))) then
        some ((0 : Int), (2 : Int))
      else
        (iter (distribution_Quantile_l2 d share y1) ((0 : Int), (0 : Int))).bind fun x_ =>
        match x_ with
        | .inl () => distribution_Quantile_j1 d
        | .inr t_ => some t_
/-- awardingbody distribution.sumOfScores -/
noncomputable def distribution_sumOfScores_j1 (sum : Int) : Option Int :=
  some sum
noncomputable def distribution_sumOfScores_l2 (d : api_Distribution) : (Int × Int) → Option ((Int × Int) ⊕ Int) :=
  fun (sum1, v) =>
    bif (decide (v < (d.Counts.length : Int))) then
      req ((0 ≤ v ∧ v < (d.Counts.length : Int))) <|
      some (.inl ((IntKind.i64.wrap (sum1 + (IntKind.i64.wrap (v * (ix d.Counts v))))), (IntKind.i64.wrap (v + (1 : Int)))))
    else
      some (.inr sum1)
noncomputable def distribution_sumOfScores (d : api_Distribution) : Option Int :=
  (iter (distribution_sumOfScores_l2 d) ((0 : Int), (0 : Int))).bind fun sum2 =>
  distribution_sumOfScores_j1 sum2
/-- awardingbody distribution.Mean -/
noncomputable def distribution_Mean (d : api_Distribution) : Option (api_Ratio × Int) :=
  (distribution_check d).bind fun (y, y1) =>
  bif (y1 != (0 : Int)) then
    some ((api_Ratio.mk (0 : Int) (0 : Int)), y1)
  else
    (distribution_sumOfScores d).bind fun y2 =>
    (ratio_New y2 y).bind fun (y3, y4) =>
    some (y3, y4)
/-- awardingbody distribution.Rank -/
noncomputable def distribution_Rank_j1 (d : api_Distribution) (score : Int) (y : Int) (here : Int) : Option (api_Ratio × Int) :=
  (distribution_Below d score).bind fun y2 =>
  (ratio_New (IntKind.i64.wrap ((IntKind.i64.wrap ((2 : Int) * y2)) + here)) (IntKind.i64.wrap ((2 : Int) * y))).bind fun (y3, y4) =>
  some (y3, y4)
noncomputable def distribution_Rank (d : api_Distribution) (score : Int) : Option (api_Ratio × Int) :=
  (distribution_check d).bind fun (y, y1) =>
  bif (y1 != (0 : Int)) then
    some ((api_Ratio.mk (0 : Int) (0 : Int)), y1)
  else
    bif ((decide ((0 : Int) ≤ score)) && (decide (score < (d.Counts.length : Int)))) then
      req ((0 ≤ score ∧ score < (d.Counts.length : Int))) <|
      distribution_Rank_j1 d score y (ix d.Counts score)
    else
      distribution_Rank_j1 d score y (0 : Int)
end Go.LS
