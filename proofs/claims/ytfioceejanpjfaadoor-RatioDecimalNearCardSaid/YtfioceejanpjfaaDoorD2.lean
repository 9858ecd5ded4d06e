/-
  Plain functions that the program's functions compute. No condition: definitions, printed by dec.py.
-/
import Derived.Test.YtfioceejanpjfaaDoorD1
namespace Go.LS
set_option linter.all false
set_option linter.unusedSimpArgs false
set_option linter.unusedVariables false
set_option maxRecDepth 20000

/-- awardingbody ratio.Apportion -/
noncomputable def ratio_Apportion_j1 (w2 : List Int) : Option ((List Int) × Int) :=
  some (w2, (0 : Int))
noncomputable def ratio_Apportion_l2 (left : Int) (y : List Int) : (Int × (List Int)) → Option ((Int × (List Int)) ⊕ (List Int)) :=
  fun (k, w3) =>
    bif ((decide (k < left)) && (decide (k < (y.length : Int)))) then
      req ((0 ≤ k ∧ k < (y.length : Int)) ∧ (0 ≤ (ix y k) ∧ (ix y k) < (w3.length : Int))) <|
      some (.inl ((IntKind.i64.wrap (k + (1 : Int))), (setI w3 (ix y k) (IntKind.i64.wrap ((ix w3 (ix y k)) + (1 : Int))))))
    else
      some (.inr w3)
noncomputable def ratio_Apportion_j3 (total : Int) (weights : List Int) (sum : Int) (left : Int) (w : List Int) (w1 : List Int) : Option ((List Int) × Int) :=
  (slices_SortStableFunc_intint_ratio_Apportion_f1 w1 total weights sum).bind fun (y, y1, y2, y3) =>
  req (y.length = w1.length) <|
  (iter (ratio_Apportion_l2 left y) ((0 : Int), w)).bind fun w4 =>
  ratio_Apportion_j1 w4
noncomputable def ratio_Apportion_l4 (total : Int) (weights : List Int) (sum : Int) : (Int × Int × (List Int) × (List Int)) → Option ((Int × Int × (List Int) × (List Int)) ⊕ (Int × (List Int) × (List Int))) :=
  fun (left1, v, w5, w6) =>
    bif (decide (v < (weights.length : Int))) then
      req ((0 ≤ v ∧ v < (weights.length : Int))) <|
      req (sum ≠ 0 ∧ (0 ≤ v ∧ v < (w5.length : Int))) <|
      bindV (setI w5 v (IntKind.i64.wrap (Int.tdiv (IntKind.i64.wrap (total * (ix weights v))) sum))) fun w9 =>
      req ((0 ≤ v ∧ v < (w6.length : Int))) <|
      req ((0 ≤ v ∧ v < (w9.length : Int))) <|
      some (.inl ((IntKind.i64.wrap (left1 - (ix w9 v))), (IntKind.i64.wrap (v + (1 : Int))), w9, (setI w6 v v)))
    else
      some (.inr (left1, w5, w6))
noncomputable def ratio_Apportion_j5 (total : Int) (weights : List Int) (sum : Int) : Option ((List Int) × Int) :=
  bif (sum == (0 : Int)) then
    some (([] : List Int), (10 : Int))
  else
    req ((0 ≤ (weights.length : Int) ∧ (weights.length : Int) * 8 ≤ 140737488355328)) <|
    req ((0 ≤ (weights.length : Int) ∧ (weights.length : Int) * 8 ≤ 140737488355328)) <|
    (iter (ratio_Apportion_l4 total weights sum) (total, (0 : Int), (rep (weights.length : Int) (0 : Int)), (rep (weights.length : Int) (0 : Int)))).bind fun (left2, w7, w8) =>
    ratio_Apportion_j3 total weights sum left2 w7 w8
noncomputable def ratio_Apportion_l6 (weights : List Int) : (Int × Int) → Option ((Int × Int) ⊕ (Int ⊕ ((List Int) × Int))) :=
  fun (v1, sum1) =>
    bif (decide (v1 < (weights.length : Int))) then
      req ((0 ≤ v1 ∧ v1 < (weights.length : Int))) <|
      bif ((decide ((ix weights v1) < (0 : Int))) || (decide ((1073741824 : Int) < (ix weights v1)))) then
        some (.inr (.inr (([] : List Int), (2 : Int))))
      else
        some (.inl ((IntKind.i64.wrap (v1 + (1 : Int))), (IntKind.i64.wrap (sum1 + (ix weights v1)))))
    else
      some (.inr (.inl sum1))
noncomputable def ratio_Apportion (total : Int) (weights : List Int) : Option ((List Int) × Int) :=
  bif (decide ((100 : Int) < (weights.length : Int))) then
    some (([] : List Int), (3 : Int))
  else
    bif ((decide (total < (0 : Int))) || (decide ((1073741824 : Int) < total))) then
      some (([] : List Int), (2 : Int))
    else
      (iter (ratio_Apportion_l6 weights) ((0 : Int), (0 : Int))).bind fun x_ =>
      match x_ with
      | .inl sum2 => ratio_Apportion_j5 total weights sum2
      | .inr t_ => some t_
/-- awardingbody awardingbodylaw01.awake -/
noncomputable def law01_awake  : Option Bool :=
  (ratio_New (6 : Int) (-4 : Int)).bind fun (y, y1) =>
  (ratio_Apportion (3 : Int) ([(5 : Int), (3 : Int), (0 : Int)])).bind fun (y2, y3) =>
  req ((((((y1 == (0 : Int)) && ((y.Num == (-3 : Int)) && (y.Den == (2 : Int)))) && (y3 == (0 : Int))) && ((y2.length : Int) == (3 : Int))) = true → 0 ≤ (0 : Int) ∧ (0 : Int) < (y2.length : Int)) ∧ ((((((y1 == (0 : Int)) && ((y.Num == (-3 : Int)) && (y.Den == (2 : Int)))) && (y3 == (0 : Int))) && ((y2.length : Int) == (3 : Int))) && ((ix y2 (0 : Int)) == (2 : Int))) = true → 0 ≤ (1 : Int) ∧ (1 : Int) < (y2.length : Int)) ∧ (((((((y1 == (0 : Int)) && ((y.Num == (-3 : Int)) && (y.Den == (2 : Int)))) && (y3 == (0 : Int))) && ((y2.length : Int) == (3 : Int))) && ((ix y2 (0 : Int)) == (2 : Int))) && ((ix y2 (1 : Int)) == (1 : Int))) = true → 0 ≤ (2 : Int) ∧ (2 : Int) < (y2.length : Int))) <|
  some (((((((y1 == (0 : Int)) && ((y.Num == (-3 : Int)) && (y.Den == (2 : Int)))) && (y3 == (0 : Int))) && ((y2.length : Int) == (3 : Int))) && ((ix y2 (0 : Int)) == (2 : Int))) && ((ix y2 (1 : Int)) == (1 : Int))) && ((ix y2 (2 : Int)) == (0 : Int)))
/-- awardingbody awardingbodymake.New -/
noncomputable def make_New_j1 (l1 : List Int) : Option make_Tape :=
  some (make_Tape.mk l1 (0 : Int))
noncomputable def make_New (l : List Int) : Option make_Tape :=
  bif (decide ((600 : Int) < (l.length : Int))) then
    req ((0 ≤ (600 : Int) ∧ (600 : Int) ≤ (l.length : Int))) <|
    make_New_j1 (List.take (600 : Int).toNat l)
  else
    make_New_j1 l
/-- (ptr awardingbody awardingbodymake.Tape).Raw -/
noncomputable def make_Tape_Raw (t : make_Tape) : Option (Int × make_Tape) :=
  bif (decide ((t.L.length : Int) ≤ t.At)) then
    some ((0 : Int), t)
  else
    req ((0 ≤ (IntKind.i64.wrap ((IntKind.i64.wrap (t.At + (1 : Int))) - (1 : Int))) ∧ (IntKind.i64.wrap ((IntKind.i64.wrap (t.At + (1 : Int))) - (1 : Int))) < (t.L.length : Int))) <|
    bindV (ix t.L (IntKind.i64.wrap ((IntKind.i64.wrap (t.At + (1 : Int))) - (1 : Int)))) fun v =>
    some (v, (make_Tape.mk t.L (IntKind.i64.wrap (t.At + (1 : Int)))))
/-- awardingbody awardingbodymake.Cut -/
noncomputable def make_Cut_j1 (x1 : Int) : Option Int :=
  some x1
noncomputable def make_Cut (x : Int) (n : Int) : Option Int :=
  bif (decide (n < (1 : Int))) then
    some (0 : Int)
  else
    req (n ≠ 0) <|
    bif (decide ((Int.tmod x n) < (0 : Int))) then
      make_Cut_j1 (IntKind.i64.wrap ((Int.tmod x n) + n))
    else
      make_Cut_j1 (Int.tmod x n)
/-- (ptr awardingbody awardingbodymake.Tape).Next -/
noncomputable def make_Tape_Next (t : make_Tape) (n : Int) : Option (Int × make_Tape) :=
  (make_Tape_Raw t).bind fun (y, y1) =>
  (make_Cut y n).bind fun y2 =>
  some (y2, y1)
/-- (ptr awardingbody awardingbodymake.Tape).One -/
noncomputable def make_Tape_One (t : make_Tape) (n : Int) : Option (Bool × make_Tape) :=
  (make_Tape_Next t n).bind fun (y, y1) =>
  some ((y == (IntKind.i64.wrap (n - (1 : Int)))), y1)
/-- (ptr awardingbody awardingbodymake.Tape).Range -/
noncomputable def make_Tape_Range (t : make_Tape) (low : Int) (high : Int) : Option (Int × make_Tape) :=
  (make_Tape_Next t (IntKind.i64.wrap ((IntKind.i64.wrap (high - low)) + (1 : Int)))).bind fun (y, y1) =>
  some ((IntKind.i64.wrap (low + y)), y1)
/-- awardingbody awardingbodyref01.Reduce -/
noncomputable def ref01_Reduce_j1 (y3 : ref01_Wide) (out : Int) : Option (api_Ratio × Int) :=
  some ((api_Ratio.mk out (IntKind.i64.wrap y3.Lo)), (0 : Int))
noncomputable def ref01_Reduce (negative : Bool) (num : ref01_Wide) (den : ref01_Wide) : Option (api_Ratio × Int) :=
  (ref01_Divisor num den).bind fun y =>
  (ref01_Divide num y).bind fun (y1, y2) =>
  (ref01_Divide den y).bind fun (y3, y4) =>
  bif ((((decide ((0 : Int) < y1.Hi)) || (decide ((0 : Int) < y3.Hi))) || (decide ((1152921504606846976 : Int) < y1.Lo))) || (decide ((1152921504606846976 : Int) < y3.Lo))) then
    some ((api_Ratio.mk (0 : Int) (0 : Int)), (6 : Int))
  else
    bif negative then
      ref01_Reduce_j1 y3 (IntKind.i64.wrap (0 - (IntKind.i64.wrap y1.Lo)))
    else
      ref01_Reduce_j1 y3 (IntKind.i64.wrap y1.Lo)
/-- awardingbody awardingbodyref01.New -/
noncomputable def ref01_New (num : Int) (den : Int) : Option (api_Ratio × Int) :=
  bif (den == (0 : Int)) then
    some ((api_Ratio.mk (0 : Int) (0 : Int)), (2 : Int))
  else
    (ref01_Size num).bind fun y =>
    (ref01_Size den).bind fun y1 =>
    (ref01_Reduce (!((decide (num < (0 : Int))) == (decide (den < (0 : Int))))) (ref01_Wide.mk (0 : Int) y) (ref01_Wide.mk (0 : Int) y1)).bind fun (y2, y3) =>
    some (y2, y3)
/-- (ptr awardingbody awardingbodymake.Tape).Pick -/
noncomputable def make_Tape_Pick (t : make_Tape) (l : List Int) : Option (Int × make_Tape) :=
  (make_Tape_Next t (l.length : Int)).bind fun (y, y1) =>
  req ((0 ≤ y ∧ y < (l.length : Int))) <|
  some ((ix l y), y1)
/-- (ptr awardingbody awardingbodymake.Tape).Ratio -/
noncomputable def make_Tape_Ratio_j1 (num : Int) (den : Int) (t3 : List Int) (t4 : Int) : Option (api_Ratio × make_Tape) :=
  (ref01_New num den).bind fun (y4, y5) =>
  bif (y5 != (0 : Int)) then
    some ((api_Ratio.mk (1 : Int) (1 : Int)), (make_Tape.mk t3 t4))
  else
    some (y4, (make_Tape.mk t3 t4))
noncomputable def make_Tape_Ratio_j2 (y2 : Int) (num : Int) (t1 : List Int) (t2 : Int) : Option (api_Ratio × make_Tape) :=
  (make_Tape_One (make_Tape.mk t1 t2) (4 : Int)).bind fun (y6, y7) =>
  bif y6 then
    (make_Tape_Pick y7 ([(1152921504606846976 : Int), (1152921504606846975 : Int), (576460752303423488 : Int), (1073741824 : Int), (1000000000 : Int), (1000000007 : Int), (432345564227567616 : Int), (1152921504606846869 : Int)])).bind fun (y8, y9) =>
    make_Tape_Ratio_j1 num y8 y9.L y9.At
  else
    make_Tape_Ratio_j1 num y2 y7.L y7.At
noncomputable def make_Tape_Ratio (t : make_Tape) : Option (api_Ratio × make_Tape) :=
  (make_Tape_Range t (-9 : Int) (9 : Int)).bind fun (y, y1) =>
  (make_Tape_Range y1 (1 : Int) (9 : Int)).bind fun (y2, y3) =>
  (make_Tape_One y3 (4 : Int)).bind fun (y10, y11) =>
  bif y10 then
    (make_Tape_Pick y11 ([(1152921504606846976 : Int), (1152921504606846975 : Int), (-1152921504606846976 : Int), (576460752303423488 : Int), (1073741824 : Int), (3486784401 : Int), (-1000000007 : Int), (1152921504606846883 : Int)])).bind fun (y12, y13) =>
    make_Tape_Ratio_j2 y2 y12 y13.L y13.At
  else
    make_Tape_Ratio_j2 y2 y y11.L y11.At
/-- (ptr awardingbody awardingbodymake.Tape).Wild -/
noncomputable def make_Tape_Wild (t : make_Tape) : Option (Int × make_Tape) :=
  (make_Tape_Pick t ([(-1 : Int), (0 : Int), (1 : Int), (2 : Int), (31 : Int), (32 : Int), (99 : Int), (100 : Int), (200 : Int), (201 : Int), (9999 : Int), (10000 : Int), (1000000 : Int), (1000001 : Int), (1152921504606846976 : Int), (1152921504606846977 : Int), (-1152921504606846976 : Int), (9223372036854775807 : Int), (-9223372036854775808 : Int)])).bind fun (y, y1) =>
  some (y, y1)
/-- (ptr awardingbody awardingbodymake.Tape).Spoil -/
noncomputable def make_Tape_Spoil (t : make_Tape) (x : Int) (n : Int) : Option (Int × make_Tape) :=
  bif (decide ((0 : Int) < n)) then
    (make_Tape_One t n).bind fun (y, y1) =>
    bif y then
      (make_Tape_Wild y1).bind fun (y2, y3) =>
      some (y2, y3)
    else
      some (x, y1)
  else
    some (x, t)
/-- (ptr awardingbody awardingbodymake.Tape).Loose -/
noncomputable def make_Tape_Loose (t : make_Tape) : Option (api_Ratio × make_Tape) :=
  (make_Tape_Ratio t).bind fun (y, y1) =>
  (make_Tape_One y1 (3 : Int)).bind fun (y2, y3) =>
  bif y2 then
    (make_Tape_Range y3 (-8 : Int) (8 : Int)).bind fun (y4, y5) =>
    (make_Tape_Spoil y5 y4 (3 : Int)).bind fun (y6, y7) =>
    (make_Tape_Range y7 (-1 : Int) (8 : Int)).bind fun (y8, y9) =>
    (make_Tape_Spoil y9 y8 (3 : Int)).bind fun (y10, y11) =>
    some ((api_Ratio.mk y6 y10), y11)
  else
    some (y, y3)
/-- awardingbody ratio.Valid -/
noncomputable def ratio_Valid (a : api_Ratio) : Option Bool :=
  bif ((((decide (a.Den < (1 : Int))) || (decide ((1152921504606846976 : Int) < a.Den))) || (decide (a.Num < (-1152921504606846976 : Int)))) || (decide ((1152921504606846976 : Int) < a.Num))) then
    some false
  else
    (ratio_magnitude a.Num).bind fun y =>
    (ratio_gcd y (IntKind.u64.wrap a.Den)).bind fun y1 =>
    some (y1 == (1 : Int))
/-- awardingbody ratio.power -/
noncomputable def ratio_power_j1 (p : Int) : Option Int :=
  some p
noncomputable def ratio_power_l2 (n : Int) : (Int × Int) → Option ((Int × Int) ⊕ Int) :=
  fun (p1, v) =>
    bif (decide (v < n)) then
      some (.inl ((IntKind.u64.wrap (p1 * (10 : Int))), (IntKind.i64.wrap (v + (1 : Int)))))
    else
      some (.inr p1)
noncomputable def ratio_power (n : Int) : Option Int :=
  (iter (ratio_power_l2 n) ((1 : Int), (0 : Int))).bind fun p2 =>
  ratio_power_j1 p2
/-- awardingbody ratio.product -/
noncomputable def ratio_product (a : Int) (b : Int) : Option ratio_wide :=
  (bits_Mul64 a b).bind fun (y, y1) =>
  some (ratio_wide.mk y y1)
/-- awardingbody ratio.Decimal -/
noncomputable def ratio_Decimal_j1 (text1 : Str) : Option Str :=
  some text1
noncomputable def ratio_Decimal_j2 (a : api_Ratio) (whole : Int) (places1 : Int) (text : Str) : Option Str :=
  bif ((decide (a.Num < (0 : Int))) && ((whole != (0 : Int)) || (places1 != (0 : Int)))) then
    req (([45] : Str).length + text.length ≤ 140737488355328) <|
    ratio_Decimal_j1 (([45] : Str) ++ text)
  else
    ratio_Decimal_j1 text
noncomputable def ratio_Decimal_j3 (a : api_Ratio) (whole : Int) (places1 : Int) (y7 : Str) (behind : Str) : Option Str :=
  req (([46] : Str).length + behind.length ≤ 140737488355328 ∧ y7.length + (([46] : Str) ++ behind).length ≤ 140737488355328) <|
  ratio_Decimal_j2 a whole places1 (y7 ++ (([46] : Str) ++ behind))
noncomputable def ratio_Decimal_l4 (digits : Int) : Str → Option (Str ⊕ Str) :=
  fun behind1 =>
    bif (decide ((behind1.length : Int) < digits)) then
      req (([48] : Str).length + behind1.length ≤ 140737488355328) <|
      some (.inl (([48] : Str) ++ behind1))
    else
      some (.inr behind1)
noncomputable def ratio_Decimal_j5 (a : api_Ratio) (digits : Int) (whole : Int) (places1 : Int) : Option Str :=
  (strconv_FormatUint whole (10 : Int)).bind fun y7 =>
  bif (decide ((0 : Int) < digits)) then
    (strconv_FormatUint places1 (10 : Int)).bind fun y8 =>
    (iter (ratio_Decimal_l4 digits) y8).bind fun behind2 =>
    ratio_Decimal_j3 a whole places1 y7 behind2
  else
    ratio_Decimal_j2 a whole places1 y7
noncomputable def ratio_Decimal_j6 (a : api_Ratio) (digits : Int) (y1 : Int) (y2 : Int) (places : Int) : Option Str :=
  bif (decide (y1 ≤ places)) then
    bindV (IntKind.u64.wrap ((IntKind.u64.wrap (Int.tdiv y2 (IntKind.u64.wrap a.Den))) + (1 : Int))) fun whole1 =>
    ratio_Decimal_j5 a digits whole1 (IntKind.u64.wrap (places - y1))
  else
    ratio_Decimal_j5 a digits (IntKind.u64.wrap (Int.tdiv y2 (IntKind.u64.wrap a.Den))) places
noncomputable def ratio_Decimal_j7 (a : api_Ratio) (digits : Int) (y1 : Int) (y2 : Int) (y5 : ratio_wide) (y6 : Int) (odd : Bool) : Option Str :=
  bif ((decide ((IntKind.u64.wrap ((IntKind.u64.wrap a.Den) - y6)) < y6)) || ((y6 == (IntKind.u64.wrap ((IntKind.u64.wrap a.Den) - y6))) && odd)) then
    ratio_Decimal_j6 a digits y1 y2 (IntKind.u64.wrap (y5.lo + (1 : Int)))
  else
    ratio_Decimal_j6 a digits y1 y2 y5.lo
noncomputable def ratio_Decimal (a : api_Ratio) (digits : Int) : Option Str :=
  (ratio_Valid a).bind fun y =>
  bif (((!y) || (decide (digits < (0 : Int)))) || (decide ((9 : Int) < digits))) then
    some ([] : Str)
  else
    (ratio_power digits).bind fun y1 =>
    (ratio_magnitude a.Num).bind fun y2 =>
    req ((IntKind.u64.wrap a.Den) ≠ 0) <|
    (ratio_magnitude a.Num).bind fun y3 =>
    req ((IntKind.u64.wrap a.Den) ≠ 0) <|
    (ratio_product (Int.tmod y3 (IntKind.u64.wrap a.Den)) y1).bind fun y4 =>
    (ratio_wide_over y4 (IntKind.u64.wrap a.Den)).bind fun y5 =>
    (ratio_wide_mod y4 (IntKind.u64.wrap a.Den)).bind fun y6 =>
    bif (digits == (0 : Int)) then
      ratio_Decimal_j7 a digits y1 y2 y5 y6 ((Int.tmod (IntKind.u64.wrap (Int.tdiv y2 (IntKind.u64.wrap a.Den))) (2 : Int)) == (1 : Int))
    else
      ratio_Decimal_j7 a digits y1 y2 y5 y6 ((Int.tmod y5.lo (2 : Int)) == (1 : Int))
/-- awardingbody awardingbodylaw01.RatioDecimals -/
noncomputable def law01_RatioDecimals (t : List Int) (digits : Int) : Option Bool :=
  (make_New t).bind fun y =>
  (make_Tape_Loose y).bind fun (y1, y2) =>
  (make_Cut digits (10 : Int)).bind fun y3 =>
  (ratio_Decimal y1 digits).bind fun y4 =>
  (ref01_Decimal y1 digits).bind fun y5 =>
  req (((y4 == y5) = true → (ratio_Decimal y1 y3).isSome = true) ∧ ((y4 == y5) = true → (ref01_Decimal y1 y3).isSome = true) ∧ (((y4 == y5) && (((ratio_Decimal y1 y3).getD default) == ((ref01_Decimal y1 y3).getD default))) = true → (law01_awake).isSome = true)) <|
  some (((y4 == y5) && (((ratio_Decimal y1 y3).getD default) == ((ref01_Decimal y1 y3).getD default))) && ((law01_awake).getD default))
/-- awardingbody ratio.Format -/
noncomputable def ratio_Format (a : api_Ratio) : Option Str :=
  (ratio_Valid a).bind fun y =>
  bif (!y) then
    some ([] : Str)
  else
    bif (a.Den == (1 : Int)) then
      (strconv_Itoa a.Num).bind fun y1 =>
      some y1
    else
      (strconv_Itoa a.Num).bind fun y2 =>
      req (y2.length + ([47] : Str).length ≤ 140737488355328) <|
      (strconv_Itoa a.Den).bind fun y3 =>
      req ((y2 ++ ([47] : Str)).length + y3.length ≤ 140737488355328) <|
      some ((y2 ++ ([47] : Str)) ++ y3)
/-- awardingbody awardingbodyref01.Format -/
noncomputable def ref01_Format_j1 (a : api_Ratio) (s : Str) : Option Str :=
  bif (a.Den == (1 : Int)) then
    some s
  else
    req (s.length + ([47] : Str).length ≤ 140737488355328) <|
    (ref01_Size a.Den).bind fun y3 =>
    (ref01_Digits (ref01_Wide.mk (0 : Int) y3)).bind fun y4 =>
    req ((s ++ ([47] : Str)).length + y4.length ≤ 140737488355328) <|
    some ((s ++ ([47] : Str)) ++ y4)
noncomputable def ref01_Format (a : api_Ratio) : Option Str :=
  (ref01_Valid a).bind fun y =>
  bif (!y) then
    some ([] : Str)
  else
    (ref01_Size a.Num).bind fun y1 =>
    (ref01_Digits (ref01_Wide.mk (0 : Int) y1)).bind fun y2 =>
    bif (decide (a.Num < (0 : Int))) then
      req (([45] : Str).length + y2.length ≤ 140737488355328) <|
      ref01_Format_j1 a (([45] : Str) ++ y2)
    else
      ref01_Format_j1 a y2
/-- awardingbody ratio.digitsOf -/
noncomputable def ratio_digitsOf_j1 (n : Int) : Option (Int × Bool) :=
  some (n, true)
noncomputable def ratio_digitsOf_l2 (s : Str) : (Int × Int) → Option ((Int × Int) ⊕ (Int ⊕ (Int × Bool))) :=
  fun (n1, i) =>
    bif (decide (i < (s.length : Int))) then
      req ((0 ≤ i ∧ i < (s.length : Int)) ∧ ((!(decide ((sx s i) < (48 : Int)))) = true → 0 ≤ i ∧ i < (s.length : Int))) <|
      bif ((decide ((sx s i) < (48 : Int))) || (decide ((57 : Int) < (sx s i)))) then
        some (.inr (.inr ((0 : Int), false)))
      else
        req ((0 ≤ i ∧ i < (s.length : Int))) <|
        bindV (IntKind.u64.wrap ((IntKind.u64.wrap (n1 * (10 : Int))) + (IntKind.u64.wrap (IntKind.u8.wrap ((sx s i) - (48 : Int)))))) fun n3 =>
        some (.inl (n3, (IntKind.i64.wrap (i + (1 : Int)))))
    else
      some (.inr (.inl n1))
noncomputable def ratio_digitsOf (s : Str) (most : Int) : Option (Int × Bool) :=
  bif ((decide ((s.length : Int) < (1 : Int))) || (decide (most < (s.length : Int)))) then
    some ((0 : Int), false)
  else
    (iter (ratio_digitsOf_l2 s) ((0 : Int), (0 : Int))).bind fun x_ =>
    match x_ with
    | .inl n2 => ratio_digitsOf_j1 n2
    | .inr t_ => some t_
/-- (awardingbody ratio.wide).plus -/
noncomputable def ratio_wide_plus (a : ratio_wide) (b : ratio_wide) : Option ratio_wide :=
  (bits_Add64 a.lo b.lo (0 : Int)).bind fun (y, y1) =>
  (bits_Add64 a.hi b.hi y1).bind fun (y2, y3) =>
  some (ratio_wide.mk y2 y)
/-- awardingbody ratio.Parse -/
noncomputable def ratio_Parse_j1 (s1 : Str) (neg : Bool) (cut : Int) : Option (api_Ratio × Int) :=
  req ((0 ≤ cut ∧ cut ≤ (s1.length : Int))) <|
  (ratio_digitsOf (List.take cut.toNat s1) (19 : Int)).bind fun (y, y1) =>
  bif (!y1) then
    some ((api_Ratio.mk (0 : Int) (0 : Int)), (7 : Int))
  else
    bif (cut == (s1.length : Int)) then
      (ratio_reduced (ratio_signed.mk neg (ratio_wide.mk (0 : Int) y)) (1 : Int)).bind fun (y2, y3) =>
      some (y2, y3)
    else
      req ((0 ≤ (IntKind.i64.wrap (cut + (1 : Int))) ∧ (IntKind.i64.wrap (cut + (1 : Int))) ≤ (s1.length : Int))) <|
      req ((0 ≤ cut ∧ cut < (s1.length : Int))) <|
      bif ((sx s1 cut) == (47 : Int)) then
        (ratio_digitsOf (List.drop (IntKind.i64.wrap (cut + (1 : Int))).toNat s1) (19 : Int)).bind fun (y4, y5) =>
        bif (!y5) then
          some ((api_Ratio.mk (0 : Int) (0 : Int)), (7 : Int))
        else
          bif (y4 == (0 : Int)) then
            some ((api_Ratio.mk (0 : Int) (0 : Int)), (2 : Int))
          else
            (ratio_reduced (ratio_signed.mk neg (ratio_wide.mk (0 : Int) y)) y4).bind fun (y6, y7) =>
            some (y6, y7)
      else
        (ratio_digitsOf (List.drop (IntKind.i64.wrap (cut + (1 : Int))).toNat s1) (9 : Int)).bind fun (y8, y9) =>
        bif (!y9) then
          some ((api_Ratio.mk (0 : Int) (0 : Int)), (7 : Int))
        else
          (ratio_power ((List.drop (IntKind.i64.wrap (cut + (1 : Int))).toNat s1).length : Int)).bind fun y10 =>
          (ratio_product y y10).bind fun y11 =>
          (ratio_wide_plus y11 (ratio_wide.mk (0 : Int) y8)).bind fun y12 =>
          (ratio_reduced (ratio_signed.mk neg y12) y10).bind fun (y13, y14) =>
          some (y13, y14)
noncomputable def ratio_Parse_l2 (s1 : Str) : Int → Option (Int ⊕ Int) :=
  fun cut1 =>
    req (((decide (cut1 < (s1.length : Int))) = true → 0 ≤ cut1 ∧ cut1 < (s1.length : Int)) ∧ (((decide (cut1 < (s1.length : Int))) && ((sx s1 cut1) != (47 : Int))) = true → 0 ≤ cut1 ∧ cut1 < (s1.length : Int))) <|
    bif (((decide (cut1 < (s1.length : Int))) && ((sx s1 cut1) != (47 : Int))) && ((sx s1 cut1) != (46 : Int))) then
      some (.inl (IntKind.i64.wrap (cut1 + (1 : Int))))
    else
      some (.inr cut1)
noncomputable def ratio_Parse_j3 (s1 : Str) (neg : Bool) : Option (api_Ratio × Int) :=
  (iter (ratio_Parse_l2 s1) (0 : Int)).bind fun cut2 =>
  ratio_Parse_j1 s1 neg cut2
noncomputable def ratio_Parse (s : Str) : Option (api_Ratio × Int) :=
  req (((decide ((0 : Int) < (s.length : Int))) = true → 0 ≤ (0 : Int) ∧ (0 : Int) < (s.length : Int))) <|
  bif ((decide ((0 : Int) < (s.length : Int))) && ((sx s (0 : Int)) == (45 : Int))) then
    req ((0 ≤ (1 : Int) ∧ (1 : Int) ≤ (s.length : Int))) <|
    ratio_Parse_j3 (List.drop (1 : Int).toNat s) true
  else
    ratio_Parse_j3 s false
/-- awardingbody awardingbodylaw01.RatioBack -/
noncomputable def law01_RatioBack (t : List Int) : Option Bool :=
  (make_New t).bind fun y =>
  (make_Tape_Loose y).bind fun (y1, y2) =>
  (ratio_Format y1).bind fun y3 =>
  (ref01_Format y1).bind fun y4 =>
  bif (!(y3 == y4)) then
    some false
  else
    (ratio_Parse y3).bind fun (y5, y6) =>
    (ref01_Valid y1).bind fun y7 =>
    bif (!y7) then
      req (((y6 == (7 : Int)) = true → (law01_awake).isSome = true)) <|
      some ((y6 == (7 : Int)) && ((law01_awake).getD default))
    else
      req ((((y6 == (0 : Int)) && ((y5.Num == y1.Num) && (y5.Den == y1.Den))) = true → (law01_awake).isSome = true)) <|
      some (((y6 == (0 : Int)) && ((y5.Num == y1.Num) && (y5.Den == y1.Den))) && ((law01_awake).getD default))
/-- (ptr awardingbody awardingbodymake.Tape).Small -/
noncomputable def make_Tape_Small (t : make_Tape) : Option (api_Ratio × make_Tape) :=
  (make_Tape_Range t (-30 : Int) (30 : Int)).bind fun (y, y1) =>
  (make_Tape_Range y1 (1 : Int) (12 : Int)).bind fun (y2, y3) =>
  (ref01_New y y2).bind fun (y4, y5) =>
  some (y4, y3)
/-- awardingbody ratio.signedProduct -/
noncomputable def ratio_signedProduct (num : Int) (factor : Int) : Option ratio_signed :=
  (ratio_magnitude num).bind fun y =>
  (ratio_product y factor).bind fun y1 =>
  some (ratio_signed.mk (decide (num < (0 : Int))) y1)
/-- cmp.isNaN[uint64] -/
noncomputable def cmp_isNaN_uint64 (x : Int) : Option Bool :=
  some (x != x)
/-- cmp.Compare[uint64] -/
noncomputable def cmp_Compare_uint64 (x : Int) (y : Int) : Option Int :=
  (cmp_isNaN_uint64 x).bind fun y1 =>
  (cmp_isNaN_uint64 y).bind fun y2 =>
  bif y1 then
    bif y2 then
      some (0 : Int)
    else
      some (-1 : Int)
  else
    bif y2 then
      some (1 : Int)
    else
      bif (decide (x < y)) then
        some (-1 : Int)
      else
        bif (decide (y < x)) then
          some (1 : Int)
        else
          some (0 : Int)
/-- (awardingbody ratio.wide).compare -/
noncomputable def ratio_wide_compare (a : ratio_wide) (b : ratio_wide) : Option Int :=
  (cmp_Compare_uint64 a.hi b.hi).bind fun y =>
  bif (y != (0 : Int)) then
    some y
  else
    (cmp_Compare_uint64 a.lo b.lo).bind fun y1 =>
    some y1
/-- (awardingbody ratio.wide).minus -/
noncomputable def ratio_wide_minus (a : ratio_wide) (b : ratio_wide) : Option ratio_wide :=
  (bits_Sub64 a.lo b.lo (0 : Int)).bind fun (y, y1) =>
  (bits_Sub64 a.hi b.hi y1).bind fun (y2, y3) =>
  some (ratio_wide.mk y2 y)
/-- (awardingbody ratio.signed).plus -/
noncomputable def ratio_signed_plus (a : ratio_signed) (b : ratio_signed) : Option ratio_signed :=
  bif (a.neg == b.neg) then
    (ratio_wide_plus a.abs b.abs).bind fun y =>
    some (ratio_signed.mk a.neg y)
  else
    (ratio_wide_compare a.abs b.abs).bind fun y1 =>
    bif (decide ((0 : Int) ≤ y1)) then
      (ratio_wide_minus a.abs b.abs).bind fun y2 =>
      some (ratio_signed.mk a.neg y2)
    else
      (ratio_wide_minus b.abs a.abs).bind fun y3 =>
      some (ratio_signed.mk b.neg y3)
/-- awardingbody ratio.Add -/
noncomputable def ratio_Add (a : api_Ratio) (b : api_Ratio) : Option (api_Ratio × Int) :=
  (ratio_Valid a).bind fun y =>
  req (((!(!y)) = true → (ratio_Valid b).isSome = true)) <|
  bif ((!y) || (!((ratio_Valid b).getD default))) then
    some ((api_Ratio.mk (0 : Int) (0 : Int)), (1 : Int))
  else
    (ratio_gcd (IntKind.u64.wrap a.Den) (IntKind.u64.wrap b.Den)).bind fun y1 =>
    req (y1 ≠ 0) <|
    (ratio_signedProduct a.Num (IntKind.u64.wrap (Int.tdiv (IntKind.u64.wrap b.Den) y1))).bind fun y2 =>
    req (y1 ≠ 0) <|
    (ratio_signedProduct b.Num (IntKind.u64.wrap (Int.tdiv (IntKind.u64.wrap a.Den) y1))).bind fun y3 =>
    (ratio_signed_plus y2 y3).bind fun y4 =>
    (ratio_wide_mod y4.abs y1).bind fun y5 =>
    (ratio_gcd y5 y1).bind fun y6 =>
    (ratio_wide_over y4.abs y6).bind fun y7 =>
    req (y1 ≠ 0 ∧ y6 ≠ 0) <|
    (ratio_product (IntKind.u64.wrap (Int.tdiv (IntKind.u64.wrap a.Den) y1)) (IntKind.u64.wrap (Int.tdiv (IntKind.u64.wrap b.Den) y6))).bind fun y8 =>
    (ratio_fitted y4.neg y7 y8).bind fun (y9, y10) =>
    some (y9, y10)
end Go.LS
