/-
  Plain functions that the program's functions compute. No condition: definitions, printed by dec.py.
-/
import Derived.Test.YtncjhljkjgejlaaD2
namespace Go.LS
set_option linter.all false
set_option linter.unusedSimpArgs false
set_option linter.unusedVariables false
set_option maxRecDepth 20000

/-- awardingbody awardingbodyref01.floor -/
noncomputable def ref01_floor_j1 (q : Int) : Option Int :=
  some q
noncomputable def ref01_floor (n : Int) (d : Int) : Option Int :=
  req (d ≠ 0) <|
  req (d ≠ 0) <|
  bif (decide ((Int.tmod n d) < (0 : Int))) then
    ref01_floor_j1 (IntKind.i64.wrap ((IntKind.i64.wrap (Int.tdiv n d)) - (1 : Int)))
  else
    ref01_floor_j1 (IntKind.i64.wrap (Int.tdiv n d))
/-- awardingbody awardingbodyref01.Floor -/
noncomputable def ref01_Floor (a : api_Ratio) : Option Int :=
  (ref01_Valid a).bind fun y =>
  bif (!y) then
    some (0 : Int)
  else
    (ref01_floor a.Num a.Den).bind fun y1 =>
    some y1
/-- awardingbody ratio.toCeil -/
noncomputable def ratio_toCeil (floor : Int) (rest : Int) (den : Int) : Option Int :=
  bif (decide ((0 : Int) < rest)) then
    some (IntKind.i64.wrap (floor + (1 : Int)))
  else
    some floor
/-- awardingbody ratio.rounded -/
noncomputable def ratio_rounded_ratio_toCeil_j1 (a : api_Ratio) (floor : Int) (rest : Int) : Option Int :=
  (ratio_toCeil floor rest a.Den).bind fun y1 =>
  some y1
noncomputable def ratio_rounded_ratio_toCeil (a : api_Ratio) : Option Int :=
  (ratio_Valid a).bind fun y =>
  bif (!y) then
    some (0 : Int)
  else
    req (a.Den ≠ 0) <|
    bif (decide ((Int.tmod a.Num a.Den) < (0 : Int))) then
      bindV (IntKind.i64.wrap ((IntKind.i64.wrap (Int.tdiv a.Num a.Den)) - (1 : Int))) fun floor1 =>
      ratio_rounded_ratio_toCeil_j1 a floor1 (IntKind.i64.wrap ((Int.tmod a.Num a.Den) + a.Den))
    else
      ratio_rounded_ratio_toCeil_j1 a (IntKind.i64.wrap (Int.tdiv a.Num a.Den)) (Int.tmod a.Num a.Den)
/-- awardingbody ratio.Ceil -/
noncomputable def ratio_Ceil (a : api_Ratio) : Option Int :=
  (ratio_rounded_ratio_toCeil a).bind fun y =>
  some y
/-- awardingbody awardingbodyref01.Ceil -/
noncomputable def ref01_Ceil (a : api_Ratio) : Option Int :=
  (ref01_Valid a).bind fun y =>
  bif (!y) then
    some (0 : Int)
  else
    (ref01_floor (IntKind.i64.wrap (0 - a.Num)) a.Den).bind fun y1 =>
    some (IntKind.i64.wrap (0 - y1))
/-- awardingbody ratio.toRound -/
noncomputable def ratio_toRound (floor : Int) (rest : Int) (den : Int) : Option Int :=
  bif (decide ((IntKind.i64.wrap (den - rest)) ≤ rest)) then
    some (IntKind.i64.wrap (floor + (1 : Int)))
  else
    some floor
/-- awardingbody ratio.rounded -/
noncomputable def ratio_rounded_ratio_toRound_j1 (a : api_Ratio) (floor : Int) (rest : Int) : Option Int :=
  (ratio_toRound floor rest a.Den).bind fun y1 =>
  some y1
noncomputable def ratio_rounded_ratio_toRound (a : api_Ratio) : Option Int :=
  (ratio_Valid a).bind fun y =>
  bif (!y) then
    some (0 : Int)
  else
    req (a.Den ≠ 0) <|
    bif (decide ((Int.tmod a.Num a.Den) < (0 : Int))) then
      bindV (IntKind.i64.wrap ((IntKind.i64.wrap (Int.tdiv a.Num a.Den)) - (1 : Int))) fun floor1 =>
      ratio_rounded_ratio_toRound_j1 a floor1 (IntKind.i64.wrap ((Int.tmod a.Num a.Den) + a.Den))
    else
      ratio_rounded_ratio_toRound_j1 a (IntKind.i64.wrap (Int.tdiv a.Num a.Den)) (Int.tmod a.Num a.Den)
/-- awardingbody ratio.Round -/
noncomputable def ratio_Round (a : api_Ratio) : Option Int :=
  (ratio_rounded_ratio_toRound a).bind fun y =>
  some y
/-- awardingbody awardingbodyref01.Round -/
noncomputable def ref01_Round (a : api_Ratio) : Option Int :=
  (ref01_Valid a).bind fun y =>
  bif (!y) then
    some (0 : Int)
  else
    (ref01_floor (IntKind.i64.wrap ((IntKind.i64.wrap ((2 : Int) * a.Num)) + a.Den)) (IntKind.i64.wrap ((2 : Int) * a.Den))).bind fun y1 =>
    some y1
/-- awardingbody ratio.toEven -/
noncomputable def ratio_toEven (floor : Int) (rest : Int) (den : Int) : Option Int :=
  bif ((decide ((IntKind.i64.wrap (den - rest)) < rest)) || ((rest == (IntKind.i64.wrap (den - rest))) && ((Int.tmod floor (2 : Int)) != (0 : Int)))) then
    some (IntKind.i64.wrap (floor + (1 : Int)))
  else
    some floor
/-- awardingbody ratio.rounded -/
noncomputable def ratio_rounded_ratio_toEven_j1 (a : api_Ratio) (floor : Int) (rest : Int) : Option Int :=
  (ratio_toEven floor rest a.Den).bind fun y1 =>
  some y1
noncomputable def ratio_rounded_ratio_toEven (a : api_Ratio) : Option Int :=
  (ratio_Valid a).bind fun y =>
  bif (!y) then
    some (0 : Int)
  else
    req (a.Den ≠ 0) <|
    bif (decide ((Int.tmod a.Num a.Den) < (0 : Int))) then
      bindV (IntKind.i64.wrap ((IntKind.i64.wrap (Int.tdiv a.Num a.Den)) - (1 : Int))) fun floor1 =>
      ratio_rounded_ratio_toEven_j1 a floor1 (IntKind.i64.wrap ((Int.tmod a.Num a.Den) + a.Den))
    else
      ratio_rounded_ratio_toEven_j1 a (IntKind.i64.wrap (Int.tdiv a.Num a.Den)) (Int.tmod a.Num a.Den)
/-- awardingbody ratio.Even -/
noncomputable def ratio_Even (a : api_Ratio) : Option Int :=
  (ratio_rounded_ratio_toEven a).bind fun y =>
  some y
/-- awardingbody awardingbodyref01.Even -/
noncomputable def ref01_Even (a : api_Ratio) : Option Int :=
  (ref01_Valid a).bind fun y =>
  bif (!y) then
    some (0 : Int)
  else
    (ref01_floor a.Num a.Den).bind fun y1 =>
    bif ((decide (a.Den < (IntKind.i64.wrap ((2 : Int) * (IntKind.i64.wrap (a.Num - (IntKind.i64.wrap (y1 * a.Den)))))))) || (((IntKind.i64.wrap ((2 : Int) * (IntKind.i64.wrap (a.Num - (IntKind.i64.wrap (y1 * a.Den)))))) == a.Den) && ((Int.tmod y1 (2 : Int)) != (0 : Int)))) then
      some (IntKind.i64.wrap (y1 + (1 : Int)))
    else
      some y1
/-- awardingbody awardingbodylaw01.RatioRounds -/
noncomputable def law01_RatioRounds (t : List Int) : Option Bool :=
  (make_New t).bind fun y =>
  (make_Tape_Loose y).bind fun (y1, y2) =>
  (ratio_Floor y1).bind fun y3 =>
  (ref01_Floor y1).bind fun y4 =>
  req (((y3 == y4) = true → (ratio_Ceil y1).isSome = true) ∧ ((y3 == y4) = true → (ref01_Ceil y1).isSome = true) ∧ (((y3 == y4) && (((ratio_Ceil y1).getD default) == ((ref01_Ceil y1).getD default))) = true → (ratio_Round y1).isSome = true) ∧ (((y3 == y4) && (((ratio_Ceil y1).getD default) == ((ref01_Ceil y1).getD default))) = true → (ref01_Round y1).isSome = true) ∧ ((((y3 == y4) && (((ratio_Ceil y1).getD default) == ((ref01_Ceil y1).getD default))) && (((ratio_Round y1).getD default) == ((ref01_Round y1).getD default))) = true → (ratio_Even y1).isSome = true) ∧ ((((y3 == y4) && (((ratio_Ceil y1).getD default) == ((ref01_Ceil y1).getD default))) && (((ratio_Round y1).getD default) == ((ref01_Round y1).getD default))) = true → (ref01_Even y1).isSome = true) ∧ (((((y3 == y4) && (((ratio_Ceil y1).getD default) == ((ref01_Ceil y1).getD default))) && (((ratio_Round y1).getD default) == ((ref01_Round y1).getD default))) && (((ratio_Even y1).getD default) == ((ref01_Even y1).getD default))) = true → (law01_awake).isSome = true)) <|
  some (((((y3 == y4) && (((ratio_Ceil y1).getD default) == ((ref01_Ceil y1).getD default))) && (((ratio_Round y1).getD default) == ((ref01_Round y1).getD default))) && (((ratio_Even y1).getD default) == ((ref01_Even y1).getD default))) && ((law01_awake).getD default))
/-- math bits.Mul64 -/
noncomputable def bits_Mul64 (x : Int) (y : Int) : Option (Int × Int) :=
  bindV (IntKind.u64.wrap ((bAnd .u64 x (4294967295 : Int)) * (bAnd .u64 y (4294967295 : Int)))) fun w0 =>
  bindV (IntKind.u64.wrap ((IntKind.u64.wrap ((bShr .u64 x (32 : Int)) * (bAnd .u64 y (4294967295 : Int)))) + (bShr .u64 w0 (32 : Int)))) fun t =>
  bindV (IntKind.u64.wrap ((bAnd .u64 t (4294967295 : Int)) + (IntKind.u64.wrap ((bAnd .u64 x (4294967295 : Int)) * (bShr .u64 y (32 : Int)))))) fun w1 =>
  bindV (IntKind.u64.wrap ((IntKind.u64.wrap ((IntKind.u64.wrap ((bShr .u64 x (32 : Int)) * (bShr .u64 y (32 : Int)))) + (bShr .u64 t (32 : Int)))) + (bShr .u64 w1 (32 : Int)))) fun hi =>
  some (hi, (IntKind.u64.wrap (x * y)))
/-- awardingbody ratio.product -/
noncomputable def ratio_product (a : Int) (b : Int) : Option ratio_wide :=
  (bits_Mul64 a b).bind fun (y, y1) =>
  some (ratio_wide.mk y y1)
/-- awardingbody ratio.Mul -/
noncomputable def ratio_Mul (a : api_Ratio) (b : api_Ratio) : Option (api_Ratio × Int) :=
  (ratio_Valid a).bind fun y =>
  req (((!(!y)) = true → (ratio_Valid b).isSome = true)) <|
  bif ((!y) || (!((ratio_Valid b).getD default))) then
    some ((api_Ratio.mk (0 : Int) (0 : Int)), (1 : Int))
  else
    (ratio_magnitude a.Num).bind fun y1 =>
    (ratio_magnitude b.Num).bind fun y2 =>
    (ratio_gcd y1 (IntKind.u64.wrap b.Den)).bind fun y3 =>
    (ratio_gcd y2 (IntKind.u64.wrap a.Den)).bind fun y4 =>
    req (y3 ≠ 0 ∧ y4 ≠ 0) <|
    (ratio_product (IntKind.u64.wrap (Int.tdiv y1 y3)) (IntKind.u64.wrap (Int.tdiv y2 y4))).bind fun y5 =>
    req (y4 ≠ 0 ∧ y3 ≠ 0) <|
    (ratio_product (IntKind.u64.wrap (Int.tdiv (IntKind.u64.wrap a.Den) y4)) (IntKind.u64.wrap (Int.tdiv (IntKind.u64.wrap b.Den) y3))).bind fun y6 =>
    (ratio_fitted (!((decide (a.Num < (0 : Int))) == (decide (b.Num < (0 : Int))))) y5 y6).bind fun (y7, y8) =>
    some (y7, y8)
/-- awardingbody awardingbodyref01.Product -/
noncomputable def ref01_Product (a : Int) (b : Int) : Option ref01_Wide :=
  (bits_Mul64 a b).bind fun (y, y1) =>
  some (ref01_Wide.mk y y1)
/-- awardingbody awardingbodyref01.Mul -/
noncomputable def ref01_Mul (a : api_Ratio) (b : api_Ratio) : Option (api_Ratio × Int) :=
  (ref01_Valid a).bind fun y =>
  req (((!(!y)) = true → (ref01_Valid b).isSome = true)) <|
  bif ((!y) || (!((ref01_Valid b).getD default))) then
    some ((api_Ratio.mk (0 : Int) (0 : Int)), (1 : Int))
  else
    (ref01_Size a.Num).bind fun y1 =>
    (ref01_Size b.Num).bind fun y2 =>
    (ref01_Product y1 y2).bind fun y3 =>
    (ref01_Size a.Den).bind fun y4 =>
    (ref01_Size b.Den).bind fun y5 =>
    (ref01_Product y4 y5).bind fun y6 =>
    (ref01_Reduce (!((decide (a.Num < (0 : Int))) == (decide (b.Num < (0 : Int))))) y3 y6).bind fun (y7, y8) =>
    some (y7, y8)
/-- awardingbody ratio.Div -/
noncomputable def ratio_Div_j1 (a : api_Ratio) (inverse : Int) (inverse1 : Int) : Option (api_Ratio × Int) :=
  (ratio_Mul a (api_Ratio.mk inverse inverse1)).bind fun (y1, y2) =>
  some (y1, y2)
noncomputable def ratio_Div (a : api_Ratio) (b : api_Ratio) : Option (api_Ratio × Int) :=
  (ratio_Valid a).bind fun y =>
  req (((!(!y)) = true → (ratio_Valid b).isSome = true)) <|
  bif ((!y) || (!((ratio_Valid b).getD default))) then
    some ((api_Ratio.mk (0 : Int) (0 : Int)), (1 : Int))
  else
    bif (b.Num == (0 : Int)) then
      some ((api_Ratio.mk (0 : Int) (0 : Int)), (2 : Int))
    else
      bif (decide (b.Num < (0 : Int))) then
        ratio_Div_j1 a (IntKind.i64.wrap (0 - b.Den)) (IntKind.i64.wrap (0 - b.Num))
      else
        ratio_Div_j1 a b.Den b.Num
/-- awardingbody awardingbodyref01.Div -/
noncomputable def ref01_Div (a : api_Ratio) (b : api_Ratio) : Option (api_Ratio × Int) :=
  (ref01_Valid a).bind fun y =>
  req (((!(!y)) = true → (ref01_Valid b).isSome = true)) <|
  bif ((!y) || (!((ref01_Valid b).getD default))) then
    some ((api_Ratio.mk (0 : Int) (0 : Int)), (1 : Int))
  else
    bif (b.Num == (0 : Int)) then
      some ((api_Ratio.mk (0 : Int) (0 : Int)), (2 : Int))
    else
      (ref01_Size a.Num).bind fun y1 =>
      (ref01_Size b.Den).bind fun y2 =>
      (ref01_Product y1 y2).bind fun y3 =>
      (ref01_Size a.Den).bind fun y4 =>
      (ref01_Size b.Num).bind fun y5 =>
      (ref01_Product y4 y5).bind fun y6 =>
      (ref01_Reduce (!((decide (a.Num < (0 : Int))) == (decide (b.Num < (0 : Int))))) y3 y6).bind fun (y7, y8) =>
      some (y7, y8)
/-- awardingbody awardingbodylaw01.RatioMultiplies -/
noncomputable def law01_RatioMultiplies (t : List Int) : Option Bool :=
  (make_New t).bind fun y =>
  (make_Tape_Loose y).bind fun (y1, y2) =>
  (make_Tape_Loose y2).bind fun (y3, y4) =>
  (ratio_Mul y1 y3).bind fun (y5, y6) =>
  (ref01_Mul y1 y3).bind fun (y7, y8) =>
  (ratio_Div y1 y3).bind fun (y9, y10) =>
  (ref01_Div y1 y3).bind fun (y11, y12) =>
  req (((((((y5.Num == y7.Num) && (y5.Den == y7.Den)) && (y6 == y8)) && ((y9.Num == y11.Num) && (y9.Den == y11.Den))) && (y10 == y12)) = true → (law01_awake).isSome = true)) <|
  some ((((((y5.Num == y7.Num) && (y5.Den == y7.Den)) && (y6 == y8)) && ((y9.Num == y11.Num) && (y9.Den == y11.Den))) && (y10 == y12)) && ((law01_awake).getD default))
/-- awardingbody ratio.signedProduct -/
noncomputable def ratio_signedProduct (num : Int) (factor : Int) : Option ratio_signed :=
  (ratio_magnitude num).bind fun y =>
  (ratio_product y factor).bind fun y1 =>
  some (ratio_signed.mk (decide (num < (0 : Int))) y1)
/-- cmp.isNaN[uint64] -/
noncomputable def cmp_isNaN_uint64 (x : Int) : Option Bool :=
  some (x != x)
/-- cmp.Compare[uint64] -/
noncomputable def cmp_Compare_uint64 (x : Int) (y : Int) : Option Int :=
  (cmp_isNaN_uint64 x).bind fun y1 =>
  (cmp_isNaN_uint64 y).bind fun y2 =>
  bif y1 then
    bif y2 then
      some (0 : Int)
    else
      some (-1 : Int)
  else
    bif y2 then
      some (1 : Int)
    else
      bif (decide (x < y)) then
        some (-1 : Int)
      else
        bif (decide (y < x)) then
          some (1 : Int)
        else
          some (0 : Int)
/-- (awardingbody ratio.wide).compare -/
noncomputable def ratio_wide_compare (a : ratio_wide) (b : ratio_wide) : Option Int :=
  (cmp_Compare_uint64 a.hi b.hi).bind fun y =>
  bif (y != (0 : Int)) then
    some y
  else
    (cmp_Compare_uint64 a.lo b.lo).bind fun y1 =>
    some y1
end Go.LS
