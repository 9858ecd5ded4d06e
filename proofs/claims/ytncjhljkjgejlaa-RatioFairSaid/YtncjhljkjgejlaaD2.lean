/-
  Plain functions that the program's functions compute. No condition: definitions, printed by dec.py.
-/
import Derived.Test.YtncjhljkjgejlaaD1
namespace Go.LS
set_option linter.all false
set_option linter.unusedSimpArgs false
set_option linter.unusedVariables false
set_option maxRecDepth 20000

/-- (ptr awardingbody awardingbodymake.Tape).Raw -/
noncomputable def make_Tape_Raw (t : make_Tape) : Option (Int × make_Tape) :=
  bif (decide ((t.L.length : Int) ≤ t.At)) then
    some ((0 : Int), t)
  else
    req ((0 ≤ (IntKind.i64.wrap ((IntKind.i64.wrap (t.At + (1 : Int))) - (1 : Int))) ∧ (IntKind.i64.wrap ((IntKind.i64.wrap (t.At + (1 : Int))) - (1 : Int))) < (t.L.length : Int))) <|
    bindV (ix t.L (IntKind.i64.wrap ((IntKind.i64.wrap (t.At + (1 : Int))) - (1 : Int)))) fun v =>
    some (v, (make_Tape.mk t.L (IntKind.i64.wrap (t.At + (1 : Int)))))
/-- (ptr awardingbody awardingbodymake.Tape).Next -/
noncomputable def make_Tape_Next (t : make_Tape) (n : Int) : Option (Int × make_Tape) :=
  (make_Tape_Raw t).bind fun (y, y1) =>
  (make_Cut y n).bind fun y2 =>
  some (y2, y1)
/-- (ptr awardingbody awardingbodymake.Tape).Range -/
noncomputable def make_Tape_Range (t : make_Tape) (low : Int) (high : Int) : Option (Int × make_Tape) :=
  (make_Tape_Next t (IntKind.i64.wrap ((IntKind.i64.wrap (high - low)) + (1 : Int)))).bind fun (y, y1) =>
  some ((IntKind.i64.wrap (low + y)), y1)
/-- (ptr awardingbody awardingbodymake.Tape).Ints -/
noncomputable def make_Tape_Ints_j1 (t1 : List Int) (t2 : Int) (out : List Int) : Option ((List Int) × make_Tape) :=
  some (out, (make_Tape.mk t1 t2))
noncomputable def make_Tape_Ints_l2 (low : Int) (high : Int) : (Int × (List Int) × Int × (List Int)) → Option ((Int × (List Int) × Int × (List Int)) ⊕ ((List Int) × Int × (List Int))) :=
  fun (i, t3, t4, out1) =>
    bif (decide ((0 : Int) < i)) then
      (make_Tape_Range (make_Tape.mk t3 t4) low high).bind fun (y2, y3) =>
      req ((out1.length + ([y2]).length) * 8 ≤ 140737488355328) <|
      some (.inl ((IntKind.i64.wrap (i - (1 : Int))), y3.L, y3.At, (out1 ++ [y2])))
    else
      some (.inr (t3, t4, out1))
noncomputable def make_Tape_Ints (t : make_Tape) (most : Int) (low : Int) (high : Int) : Option ((List Int) × make_Tape) :=
  (make_Tape_Range t (0 : Int) most).bind fun (y, y1) =>
  (iter (make_Tape_Ints_l2 low high) (y, y1.L, y1.At, ([] : List Int))).bind fun (t5, t6, out2) =>
  make_Tape_Ints_j1 t5 t6 out2
/-- awardingbody awardingbodylaw01.RatioFair -/
noncomputable def law01_RatioFair_j1 (left : Int) : Option Bool :=
  req (((left == (0 : Int)) = true → (law01_awake).isSome = true)) <|
  some ((left == (0 : Int)) && ((law01_awake).getD default))
noncomputable def law01_RatioFair_j2 (y4 : List Int) (left1 : Int) (i : Int) : Option ((Int × Int) ⊕ (Int ⊕ Bool)) :=
  some (.inl ((IntKind.i64.wrap (left1 - (ix y4 i))), (IntKind.i64.wrap (i + (1 : Int)))))
noncomputable def law01_RatioFair_l3 (y1 : List Int) (y4 : List Int) (i : Int) : Int → Option (Int ⊕ (Unit ⊕ ((Int × Int) ⊕ (Int ⊕ Bool)))) :=
  fun k =>
    bif (decide (k < (y1.length : Int))) then
      req ((0 ≤ i ∧ i < (y1.length : Int)) ∧ (0 ≤ k ∧ k < (y1.length : Int)) ∧ ((decide ((ix y1 k) < (ix y1 i))) = true → 0 ≤ i ∧ i < (y4.length : Int)) ∧ ((decide ((ix y1 k) < (ix y1 i))) = true → 0 ≤ k ∧ k < (y4.length : Int))) <|
      bif ((decide ((ix y1 k) < (ix y1 i))) && (decide ((ix y4 i) < (ix y4 k)))) then
        some (.inr (.inr (.inr (.inr false))))
      else
        some (.inl (IntKind.i64.wrap (k + (1 : Int))))
    else
      some (.inr (.inl ()))
noncomputable def law01_RatioFair_l4 (y1 : List Int) (y3 : Int) (sum : Int) (y4 : List Int) : (Int × Int) → Option ((Int × Int) ⊕ (Int ⊕ Bool)) :=
  fun (left1, i) =>
    bif (decide (i < (y1.length : Int))) then
      req ((0 ≤ i ∧ i < (y4.length : Int))) <|
      req ((0 ≤ i ∧ i < (y4.length : Int)) ∧ (0 ≤ i ∧ i < (y1.length : Int)) ∧ ((!(decide ((IntKind.i64.wrap ((ix y4 i) * sum)) ≤ (IntKind.i64.wrap ((IntKind.i64.wrap (y3 * (ix y1 i))) - sum))))) = true → 0 ≤ i ∧ i < (y4.length : Int)) ∧ ((!(decide ((IntKind.i64.wrap ((ix y4 i) * sum)) ≤ (IntKind.i64.wrap ((IntKind.i64.wrap (y3 * (ix y1 i))) - sum))))) = true → 0 ≤ i ∧ i < (y1.length : Int))) <|
      bif ((decide ((IntKind.i64.wrap ((ix y4 i) * sum)) ≤ (IntKind.i64.wrap ((IntKind.i64.wrap (y3 * (ix y1 i))) - sum)))) || (decide ((IntKind.i64.wrap ((IntKind.i64.wrap (y3 * (ix y1 i))) + sum)) ≤ (IntKind.i64.wrap ((ix y4 i) * sum))))) then
        some (.inr (.inr false))
      else
        (iter (law01_RatioFair_l3 y1 y4 i) (0 : Int)).bind fun x_ =>
        match x_ with
        | .inl () => law01_RatioFair_j2 y4 left1 i
        | .inr t_ => some t_
    else
      some (.inr (.inl left1))
noncomputable def law01_RatioFair_j5 (y1 : List Int) (y3 : Int) (sum : Int) : Option Bool :=
  (ratio_Apportion y3 y1).bind fun (y4, y5) =>
  bif (sum == (0 : Int)) then
    req ((((y5 == (10 : Int)) && ((y4.length : Int) == (0 : Int))) = true → (law01_awake).isSome = true)) <|
    some (((y5 == (10 : Int)) && ((y4.length : Int) == (0 : Int))) && ((law01_awake).getD default))
  else
    bif ((y5 != (0 : Int)) || ((y4.length : Int) != (y1.length : Int))) then
      some false
    else
      (iter (law01_RatioFair_l4 y1 y3 sum y4) (y3, (0 : Int))).bind fun x_ =>
      match x_ with
      | .inl left2 => law01_RatioFair_j1 left2
      | .inr t_ => some t_
noncomputable def law01_RatioFair_l6 (y1 : List Int) : (Int × Int) → Option ((Int × Int) ⊕ Int) :=
  fun (sum1, i1) =>
    bif (decide (i1 < (y1.length : Int))) then
      req ((0 ≤ i1 ∧ i1 < (y1.length : Int))) <|
      some (.inl ((IntKind.i64.wrap (sum1 + (ix y1 i1))), (IntKind.i64.wrap (i1 + (1 : Int)))))
    else
      some (.inr sum1)
noncomputable def law01_RatioFair (t : List Int) (total : Int) : Option Bool :=
  (make_New t).bind fun y =>
  (make_Tape_Ints y (8 : Int) (0 : Int) (60 : Int)).bind fun (y1, y2) =>
  (make_Cut total (500 : Int)).bind fun y3 =>
  (iter (law01_RatioFair_l6 y1) ((0 : Int), (0 : Int))).bind fun sum2 =>
  law01_RatioFair_j5 y1 y3 sum2
/-- awardingbody awardingbodyref01.Order -/
noncomputable def ref01_Order (a : ref01_Wide) (b : ref01_Wide) : Option Int :=
  bif ((decide (a.Hi < b.Hi)) || ((a.Hi == b.Hi) && (decide (a.Lo < b.Lo)))) then
    some (-1 : Int)
  else
    bif ((a.Hi == b.Hi) && (a.Lo == b.Lo)) then
      some (0 : Int)
    else
      some (1 : Int)
/-- awardingbody awardingbodyref01.Minus -/
noncomputable def ref01_Minus (a : ref01_Wide) (b : ref01_Wide) : Option ref01_Wide :=
  (bits_Sub64 a.Lo b.Lo (0 : Int)).bind fun (y, y1) =>
  (bits_Sub64 a.Hi b.Hi y1).bind fun (y2, y3) =>
  some (ref01_Wide.mk y2 y)
/-- awardingbody awardingbodyref01.Twice -/
noncomputable def ref01_Twice (a : ref01_Wide) : Option ref01_Wide :=
  some (ref01_Wide.mk (bOr .u64 (bShl .u64 a.Hi (1 : Int)) (bShr .u64 a.Lo (63 : Int))) (bShl .u64 a.Lo (1 : Int)))
/-- awardingbody awardingbodyref01.Divide -/
noncomputable def ref01_Divide_j1 (q : Int) (q1 : Int) (r : Int) (r1 : Int) : Option (ref01_Wide × ref01_Wide) :=
  some ((ref01_Wide.mk q q1), (ref01_Wide.mk r r1))
noncomputable def ref01_Divide_j2 (i : Int) (q6 : Int) (q7 : Int) (r6 : Int) (r7 : Int) : Option ((Int × Int × Int × Int × Int) ⊕ (Int × Int × Int × Int)) :=
  some (.inl ((IntKind.i64.wrap (i - (1 : Int))), q6, q7, r6, r7))
noncomputable def ref01_Divide_j3 (b : ref01_Wide) (i : Int) (q2 : Int) (q3 : Int) (r2 : Int) (r3 : Int) (bit1 : Int) : Option ((Int × Int × Int × Int × Int) ⊕ (Int × Int × Int × Int)) :=
  (ref01_Twice (ref01_Wide.mk r2 r3)).bind fun y =>
  (ref01_Twice (ref01_Wide.mk q2 q3)).bind fun y1 =>
  req (((!((bShr .u64 r2 (63 : Int)) == (1 : Int))) = true → (ref01_Order (ref01_Wide.mk y.Hi (bOr .u64 y.Lo bit1)) b).isSome = true)) <|
  bif (((bShr .u64 r2 (63 : Int)) == (1 : Int)) || (decide ((0 : Int) ≤ ((ref01_Order (ref01_Wide.mk y.Hi (bOr .u64 y.Lo bit1)) b).getD default)))) then
    (ref01_Minus (ref01_Wide.mk y.Hi (bOr .u64 y.Lo bit1)) b).bind fun y2 =>
    ref01_Divide_j2 i y1.Hi (bOr .u64 y1.Lo (1 : Int)) y2.Hi y2.Lo
  else
    ref01_Divide_j2 i y1.Hi y1.Lo y.Hi (bOr .u64 y.Lo bit1)
noncomputable def ref01_Divide_l4 (a : ref01_Wide) (b : ref01_Wide) : (Int × Int × Int × Int × Int) → Option ((Int × Int × Int × Int × Int) ⊕ (Int × Int × Int × Int)) :=
  fun (i, q2, q3, r2, r3) =>
    bif (decide ((0 : Int) ≤ i)) then
      req (0 ≤ (IntKind.u64.wrap (Int.tmod i (64 : Int)))) <|
      bindV (bAnd .u64 (bShr .u64 a.Lo (IntKind.u64.wrap (Int.tmod i (64 : Int)))) (1 : Int)) fun bit =>
      bif (decide ((64 : Int) ≤ i)) then
        req (0 ≤ (IntKind.u64.wrap (IntKind.i64.wrap (i - (64 : Int))))) <|
        bindV (bAnd .u64 (bShr .u64 a.Hi (IntKind.u64.wrap (IntKind.i64.wrap (i - (64 : Int))))) (1 : Int)) fun bit2 =>
        ref01_Divide_j3 b i q2 q3 r2 r3 bit2
      else
        ref01_Divide_j3 b i q2 q3 r2 r3 bit
    else
      some (.inr (q2, q3, r2, r3))
noncomputable def ref01_Divide (a : ref01_Wide) (b : ref01_Wide) : Option (ref01_Wide × ref01_Wide) :=
  bif ((a.Hi == (0 : Int)) && (b.Hi == (0 : Int))) then
    req (b.Lo ≠ 0) <|
    some ((ref01_Wide.mk (0 : Int) (IntKind.u64.wrap (Int.tdiv a.Lo b.Lo))), (ref01_Wide.mk (0 : Int) (Int.tmod a.Lo b.Lo)))
  else
    (iter (ref01_Divide_l4 a b) ((127 : Int), (0 : Int), (0 : Int), (0 : Int), (0 : Int))).bind fun (q4, q5, r4, r5) =>
    ref01_Divide_j1 q4 q5 r4 r5
/-- awardingbody awardingbodyref01.Divisor -/
noncomputable def ref01_Divisor_j1 (a1 : Int) (a2 : Int) : Option ref01_Wide :=
  some (ref01_Wide.mk a1 a2)
noncomputable def ref01_Divisor_l2  : (Int × Int × Int × Int) → Option ((Int × Int × Int × Int) ⊕ (Int × Int)) :=
  fun (a3, a4, b1, b2) =>
    bif (!((b1 == (0 : Int)) && (b2 == (0 : Int)))) then
      (ref01_Divide (ref01_Wide.mk a3 a4) (ref01_Wide.mk b1 b2)).bind fun (y, y1) =>
      some (.inl (b1, b2, y1.Hi, y1.Lo))
    else
      some (.inr (a3, a4))
noncomputable def ref01_Divisor (a : ref01_Wide) (b : ref01_Wide) : Option ref01_Wide :=
  (iter (ref01_Divisor_l2) (a.Hi, a.Lo, b.Hi, b.Lo)).bind fun (a5, a6) =>
  ref01_Divisor_j1 a5 a6
/-- awardingbody awardingbodyref01.Reduce -/
noncomputable def ref01_Reduce_j1 (y3 : ref01_Wide) (out : Int) : Option (api_Ratio × Int) :=
  some ((api_Ratio.mk out (IntKind.i64.wrap y3.Lo)), (0 : Int))
noncomputable def ref01_Reduce (negative : Bool) (num : ref01_Wide) (den : ref01_Wide) : Option (api_Ratio × Int) :=
  (ref01_Divisor num den).bind fun y =>
  (ref01_Divide num y).bind fun (y1, y2) =>
  (ref01_Divide den y).bind fun (y3, y4) =>
  bif ((((decide ((0 : Int) < y1.Hi)) || (decide ((0 : Int) < y3.Hi))) || (decide ((1152921504606846976 : Int) < y1.Lo))) || (decide ((1152921504606846976 : Int) < y3.Lo))) then
    some ((api_Ratio.mk (0 : Int) (0 : Int)), (6 : Int))
  else
    bif negative then
      ref01_Reduce_j1 y3 (IntKind.i64.wrap (0 - (IntKind.i64.wrap y1.Lo)))
    else
      ref01_Reduce_j1 y3 (IntKind.i64.wrap y1.Lo)
/-- awardingbody awardingbodyref01.Size -/
noncomputable def ref01_Size (n : Int) : Option Int :=
  bif (decide (n < (0 : Int))) then
    bindV (IntKind.u64.wrap ((IntKind.u64.wrap (IntKind.i64.wrap (0 - (IntKind.i64.wrap (n + (1 : Int)))))) + (1 : Int))) fun v =>
    some v
  else
    some (IntKind.u64.wrap n)
/-- awardingbody awardingbodyref01.New -/
noncomputable def ref01_New (num : Int) (den : Int) : Option (api_Ratio × Int) :=
  bif (den == (0 : Int)) then
    some ((api_Ratio.mk (0 : Int) (0 : Int)), (2 : Int))
  else
    (ref01_Size num).bind fun y =>
    (ref01_Size den).bind fun y1 =>
    (ref01_Reduce (!((decide (num < (0 : Int))) == (decide (den < (0 : Int))))) (ref01_Wide.mk (0 : Int) y) (ref01_Wide.mk (0 : Int) y1)).bind fun (y2, y3) =>
    some (y2, y3)
/-- awardingbody awardingbodylaw01.RatioMakes -/
noncomputable def law01_RatioMakes (num : Int) (den : Int) : Option Bool :=
  (ratio_New num den).bind fun (y, y1) =>
  (ref01_New num den).bind fun (y2, y3) =>
  req (((((y.Num == y2.Num) && (y.Den == y2.Den)) && (y1 == y3)) = true → (law01_awake).isSome = true)) <|
  some ((((y.Num == y2.Num) && (y.Den == y2.Den)) && (y1 == y3)) && ((law01_awake).getD default))
/-- awardingbody ratio.Valid -/
noncomputable def ratio_Valid (a : api_Ratio) : Option Bool :=
  bif ((((decide (a.Den < (1 : Int))) || (decide ((1152921504606846976 : Int) < a.Den))) || (decide (a.Num < (-1152921504606846976 : Int)))) || (decide ((1152921504606846976 : Int) < a.Num))) then
    some false
  else
    (ratio_magnitude a.Num).bind fun y =>
    (ratio_gcd y (IntKind.u64.wrap a.Den)).bind fun y1 =>
    some (y1 == (1 : Int))
/-- awardingbody awardingbodyref01.Valid -/
noncomputable def ref01_Valid (a : api_Ratio) : Option Bool :=
  bif ((((decide (a.Den < (1 : Int))) || (decide ((1152921504606846976 : Int) < a.Den))) || (decide (a.Num < (-1152921504606846976 : Int)))) || (decide ((1152921504606846976 : Int) < a.Num))) then
    some false
  else
    (ref01_Size a.Num).bind fun y =>
    (ref01_Size a.Den).bind fun y1 =>
    (ref01_Divisor (ref01_Wide.mk (0 : Int) y) (ref01_Wide.mk (0 : Int) y1)).bind fun y2 =>
    some ((y2.Hi == (0 : Int)) && (y2.Lo == (1 : Int)))
/-- awardingbody awardingbodylaw01.RatioValid -/
noncomputable def law01_RatioValid (num : Int) (den : Int) : Option Bool :=
  (ratio_Valid (api_Ratio.mk num den)).bind fun y =>
  (ref01_Valid (api_Ratio.mk num den)).bind fun y1 =>
  req (((y == y1) = true → (law01_awake).isSome = true)) <|
  some ((y == y1) && ((law01_awake).getD default))
/-- (ptr awardingbody awardingbodymake.Tape).One -/
noncomputable def make_Tape_One (t : make_Tape) (n : Int) : Option (Bool × make_Tape) :=
  (make_Tape_Next t n).bind fun (y, y1) =>
  some ((y == (IntKind.i64.wrap (n - (1 : Int)))), y1)
/-- (ptr awardingbody awardingbodymake.Tape).Pick -/
noncomputable def make_Tape_Pick (t : make_Tape) (l : List Int) : Option (Int × make_Tape) :=
  (make_Tape_Next t (l.length : Int)).bind fun (y, y1) =>
  req ((0 ≤ y ∧ y < (l.length : Int))) <|
  some ((ix l y), y1)
/-- (ptr awardingbody awardingbodymake.Tape).Ratio -/
noncomputable def make_Tape_Ratio_j1 (num : Int) (den : Int) (t3 : List Int) (t4 : Int) : Option (api_Ratio × make_Tape) :=
  (ref01_New num den).bind fun (y4, y5) =>
  bif (y5 != (0 : Int)) then
    some ((api_Ratio.mk (1 : Int) (1 : Int)), (make_Tape.mk t3 t4))
  else
    some (y4, (make_Tape.mk t3 t4))
noncomputable def make_Tape_Ratio_j2 (y2 : Int) (num : Int) (t1 : List Int) (t2 : Int) : Option (api_Ratio × make_Tape) :=
  (make_Tape_One (make_Tape.mk t1 t2) (4 : Int)).bind fun (y6, y7) =>
  bif y6 then
    (make_Tape_Pick y7 ([(1152921504606846976 : Int), (1152921504606846975 : Int), (576460752303423488 : Int), (1073741824 : Int), (1000000000 : Int), (1000000007 : Int), (432345564227567616 : Int), (1152921504606846869 : Int)])).bind fun (y8, y9) =>
    make_Tape_Ratio_j1 num y8 y9.L y9.At
  else
    make_Tape_Ratio_j1 num y2 y7.L y7.At
noncomputable def make_Tape_Ratio (t : make_Tape) : Option (api_Ratio × make_Tape) :=
  (make_Tape_Range t (-9 : Int) (9 : Int)).bind fun (y, y1) =>
  (make_Tape_Range y1 (1 : Int) (9 : Int)).bind fun (y2, y3) =>
  (make_Tape_One y3 (4 : Int)).bind fun (y10, y11) =>
  bif y10 then
    (make_Tape_Pick y11 ([(1152921504606846976 : Int), (1152921504606846975 : Int), (-1152921504606846976 : Int), (576460752303423488 : Int), (1073741824 : Int), (3486784401 : Int), (-1000000007 : Int), (1152921504606846883 : Int)])).bind fun (y12, y13) =>
    make_Tape_Ratio_j2 y2 y12 y13.L y13.At
  else
    make_Tape_Ratio_j2 y2 y y11.L y11.At
/-- (ptr awardingbody awardingbodymake.Tape).Wild -/
noncomputable def make_Tape_Wild (t : make_Tape) : Option (Int × make_Tape) :=
  (make_Tape_Pick t ([(-1 : Int), (0 : Int), (1 : Int), (2 : Int), (31 : Int), (32 : Int), (99 : Int), (100 : Int), (200 : Int), (201 : Int), (9999 : Int), (10000 : Int), (1000000 : Int), (1000001 : Int), (1152921504606846976 : Int), (1152921504606846977 : Int), (-1152921504606846976 : Int), (9223372036854775807 : Int), (-9223372036854775808 : Int)])).bind fun (y, y1) =>
  some (y, y1)
/-- (ptr awardingbody awardingbodymake.Tape).Spoil -/
noncomputable def make_Tape_Spoil (t : make_Tape) (x : Int) (n : Int) : Option (Int × make_Tape) :=
  bif (decide ((0 : Int) < n)) then
    (make_Tape_One t n).bind fun (y, y1) =>
    bif y then
      (make_Tape_Wild y1).bind fun (y2, y3) =>
      some (y2, y3)
    else
      some (x, y1)
  else
    some (x, t)
/-- (ptr awardingbody awardingbodymake.Tape).Loose -/
noncomputable def make_Tape_Loose (t : make_Tape) : Option (api_Ratio × make_Tape) :=
  (make_Tape_Ratio t).bind fun (y, y1) =>
  (make_Tape_One y1 (3 : Int)).bind fun (y2, y3) =>
  bif y2 then
    (make_Tape_Range y3 (-8 : Int) (8 : Int)).bind fun (y4, y5) =>
    (make_Tape_Spoil y5 y4 (3 : Int)).bind fun (y6, y7) =>
    (make_Tape_Range y7 (-1 : Int) (8 : Int)).bind fun (y8, y9) =>
    (make_Tape_Spoil y9 y8 (3 : Int)).bind fun (y10, y11) =>
    some ((api_Ratio.mk y6 y10), y11)
  else
    some (y, y3)
/-- awardingbody ratio.toFloor -/
noncomputable def ratio_toFloor (floor : Int) (rest : Int) (den : Int) : Option Int :=
  some floor
/-- awardingbody ratio.rounded -/
noncomputable def ratio_rounded_ratio_toFloor_j1 (a : api_Ratio) (floor : Int) (rest : Int) : Option Int :=
  (ratio_toFloor floor rest a.Den).bind fun y1 =>
  some y1
noncomputable def ratio_rounded_ratio_toFloor (a : api_Ratio) : Option Int :=
  (ratio_Valid a).bind fun y =>
  bif (!y) then
    some (0 : Int)
  else
    req (a.Den ≠ 0) <|
    bif (decide ((Int.tmod a.Num a.Den) < (0 : Int))) then
      bindV (IntKind.i64.wrap ((IntKind.i64.wrap (Int.tdiv a.Num a.Den)) - (1 : Int))) fun floor1 =>
      ratio_rounded_ratio_toFloor_j1 a floor1 (IntKind.i64.wrap ((Int.tmod a.Num a.Den) + a.Den))
    else
      ratio_rounded_ratio_toFloor_j1 a (IntKind.i64.wrap (Int.tdiv a.Num a.Den)) (Int.tmod a.Num a.Den)
/-- awardingbody ratio.Floor -/
noncomputable def ratio_Floor (a : api_Ratio) : Option Int :=
  (ratio_rounded_ratio_toFloor a).bind fun y =>
  some y
end Go.LS
