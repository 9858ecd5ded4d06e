/-
  Plain functions that the program's functions compute. No condition: definitions, printed by dec.py.
-/
import Derived.Test.YtfioceejanpjfaaD1
namespace Go.LS
set_option linter.all false
set_option linter.unusedSimpArgs false
set_option linter.unusedVariables false
set_option maxRecDepth 20000

/-- awardingbody awardingbodyref01.number -/
noncomputable def ref01_number_j1 (n : Int) : Option (Int × Bool) :=
  some (n, true)
noncomputable def ref01_number_l2 (s : Str) : (Int × Int) → Option ((Int × Int) ⊕ (Int ⊕ (Int × Bool))) :=
  fun (n1, i) =>
    bif (decide (i < (s.length : Int))) then
      req ((0 ≤ i ∧ i < (s.length : Int)) ∧ ((!(decide ((sx s i) < (48 : Int)))) = true → 0 ≤ i ∧ i < (s.length : Int))) <|
      bif ((decide ((sx s i) < (48 : Int))) || (decide ((57 : Int) < (sx s i)))) then
        some (.inr (.inr ((0 : Int), false)))
      else
        req ((0 ≤ i ∧ i < (s.length : Int))) <|
        bindV (IntKind.u64.wrap ((IntKind.u64.wrap ((10 : Int) * n1)) + (IntKind.u64.wrap (IntKind.u8.wrap ((sx s i) - (48 : Int)))))) fun n3 =>
        some (.inl (n3, (IntKind.i64.wrap (i + (1 : Int)))))
    else
      some (.inr (.inl n1))
noncomputable def ref01_number (s : Str) (most : Int) : Option (Int × Bool) :=
  bif ((decide ((s.length : Int) < (1 : Int))) || (decide (most < (s.length : Int)))) then
    some ((0 : Int), false)
  else
    (iter (ref01_number_l2 s) ((0 : Int), (0 : Int))).bind fun x_ =>
    match x_ with
    | .inl n2 => ref01_number_j1 n2
    | .inr t_ => some t_
/-- awardingbody awardingbodyref01.Twice -/
noncomputable def ref01_Twice (a : ref01_Wide) : Option ref01_Wide :=
  some (ref01_Wide.mk (bOr .u64 (bShl .u64 a.Hi (1 : Int)) (bShr .u64 a.Lo (63 : Int))) (bShl .u64 a.Lo (1 : Int)))
/-- awardingbody awardingbodyref01.Order -/
noncomputable def ref01_Order (a : ref01_Wide) (b : ref01_Wide) : Option Int :=
  bif ((decide (a.Hi < b.Hi)) || ((a.Hi == b.Hi) && (decide (a.Lo < b.Lo)))) then
    some (-1 : Int)
  else
    bif ((a.Hi == b.Hi) && (a.Lo == b.Lo)) then
      some (0 : Int)
    else
      some (1 : Int)
/-- awardingbody awardingbodyref01.Minus -/
noncomputable def ref01_Minus (a : ref01_Wide) (b : ref01_Wide) : Option ref01_Wide :=
  (bits_Sub64 a.Lo b.Lo (0 : Int)).bind fun (y, y1) =>
  (bits_Sub64 a.Hi b.Hi y1).bind fun (y2, y3) =>
  some (ref01_Wide.mk y2 y)
/-- awardingbody awardingbodyref01.Divide -/
noncomputable def ref01_Divide_j1 (q : Int) (q1 : Int) (r : Int) (r1 : Int) : Option (ref01_Wide × ref01_Wide) :=
  some ((ref01_Wide.mk q q1), (ref01_Wide.mk r r1))
noncomputable def ref01_Divide_j2 (i : Int) (q6 : Int) (q7 : Int) (r6 : Int) (r7 : Int) : Option ((Int × Int × Int × Int × Int) ⊕ (Int × Int × Int × Int)) :=
  some (.inl ((IntKind.i64.wrap (i - (1 : Int))), q6, q7, r6, r7))
noncomputable def ref01_Divide_j3 (b : ref01_Wide) (i : Int) (q2 : Int) (q3 : Int) (r2 : Int) (r3 : Int) (bit1 : Int) : Option ((Int × Int × Int × Int × Int) ⊕ (Int × Int × Int × Int)) :=
  (ref01_Twice (ref01_Wide.mk r2 r3)).bind fun y =>
  (ref01_Twice (ref01_Wide.mk q2 q3)).bind fun y1 =>
  req (((!((bShr .u64 r2 (63 : Int)) == (1 : Int))) = true → (ref01_Order (ref01_Wide.mk y.Hi (bOr .u64 y.Lo bit1)) b).isSome = true)) <|
  bif (((bShr .u64 r2 (63 : Int)) == (1 : Int)) || (decide ((0 : Int) ≤ ((ref01_Order (ref01_Wide.mk y.Hi (bOr .u64 y.Lo bit1)) b).getD default)))) then
    (ref01_Minus (ref01_Wide.mk y.Hi (bOr .u64 y.Lo bit1)) b).bind fun y2 =>
    ref01_Divide_j2 i y1.Hi (bOr .u64 y1.Lo (1 : Int)) y2.Hi y2.Lo
  else
    ref01_Divide_j2 i y1.Hi y1.Lo y.Hi (bOr .u64 y.Lo bit1)
noncomputable def ref01_Divide_l4 (a : ref01_Wide) (b : ref01_Wide) : (Int × Int × Int × Int × Int) → Option ((Int × Int × Int × Int × Int) ⊕ (Int × Int × Int × Int)) :=
  fun (i, q2, q3, r2, r3) =>
    bif (decide ((0 : Int) ≤ i)) then
      req (0 ≤ (IntKind.u64.wrap (Int.tmod i (64 : Int)))) <|
      bindV (bAnd .u64 (bShr .u64 a.Lo (IntKind.u64.wrap (Int.tmod i (64 : Int)))) (1 : Int)) fun bit =>
      bif (decide ((64 : Int) ≤ i)) then
        req (0 ≤ (IntKind.u64.wrap (IntKind.i64.wrap (i - (64 : Int))))) <|
        bindV (bAnd .u64 (bShr .u64 a.Hi (IntKind.u64.wrap (IntKind.i64.wrap (i - (64 : Int))))) (1 : Int)) fun bit2 =>
        ref01_Divide_j3 b i q2 q3 r2 r3 bit2
      else
        ref01_Divide_j3 b i q2 q3 r2 r3 bit
    else
      some (.inr (q2, q3, r2, r3))
noncomputable def ref01_Divide (a : ref01_Wide) (b : ref01_Wide) : Option (ref01_Wide × ref01_Wide) :=
  bif ((a.Hi == (0 : Int)) && (b.Hi == (0 : Int))) then
    req (b.Lo ≠ 0) <|
    some ((ref01_Wide.mk (0 : Int) (IntKind.u64.wrap (Int.tdiv a.Lo b.Lo))), (ref01_Wide.mk (0 : Int) (Int.tmod a.Lo b.Lo)))
  else
    (iter (ref01_Divide_l4 a b) ((127 : Int), (0 : Int), (0 : Int), (0 : Int), (0 : Int))).bind fun (q4, q5, r4, r5) =>
    ref01_Divide_j1 q4 q5 r4 r5
/-- awardingbody awardingbodyref01.Divisor -/
noncomputable def ref01_Divisor_j1 (a1 : Int) (a2 : Int) : Option ref01_Wide :=
  some (ref01_Wide.mk a1 a2)
noncomputable def ref01_Divisor_l2  : (Int × Int × Int × Int) → Option ((Int × Int × Int × Int) ⊕ (Int × Int)) :=
  fun (a3, a4, b1, b2) =>
    bif (!((b1 == (0 : Int)) && (b2 == (0 : Int)))) then
      (ref01_Divide (ref01_Wide.mk a3 a4) (ref01_Wide.mk b1 b2)).bind fun (y, y1) =>
      some (.inl (b1, b2, y1.Hi, y1.Lo))
    else
      some (.inr (a3, a4))
noncomputable def ref01_Divisor (a : ref01_Wide) (b : ref01_Wide) : Option ref01_Wide :=
  (iter (ref01_Divisor_l2) (a.Hi, a.Lo, b.Hi, b.Lo)).bind fun (a5, a6) =>
  ref01_Divisor_j1 a5 a6
/-- awardingbody awardingbodyref01.Reduce -/
noncomputable def ref01_Reduce_j1 (y3 : ref01_Wide) (out : Int) : Option (api_Ratio × Int) :=
  some ((api_Ratio.mk out (IntKind.i64.wrap y3.Lo)), (0 : Int))
noncomputable def ref01_Reduce (negative : Bool) (num : ref01_Wide) (den : ref01_Wide) : Option (api_Ratio × Int) :=
  (ref01_Divisor num den).bind fun y =>
  (ref01_Divide num y).bind fun (y1, y2) =>
  (ref01_Divide den y).bind fun (y3, y4) =>
  bif ((((decide ((0 : Int) < y1.Hi)) || (decide ((0 : Int) < y3.Hi))) || (decide ((1152921504606846976 : Int) < y1.Lo))) || (decide ((1152921504606846976 : Int) < y3.Lo))) then
    some ((api_Ratio.mk (0 : Int) (0 : Int)), (6 : Int))
  else
    bif negative then
      ref01_Reduce_j1 y3 (IntKind.i64.wrap (0 - (IntKind.i64.wrap y1.Lo)))
    else
      ref01_Reduce_j1 y3 (IntKind.i64.wrap y1.Lo)
/-- awardingbody awardingbodyref01.Plus -/
noncomputable def ref01_Plus (a : ref01_Wide) (b : ref01_Wide) : Option ref01_Wide :=
  (bits_Add64 a.Lo b.Lo (0 : Int)).bind fun (y, y1) =>
  (bits_Add64 a.Hi b.Hi y1).bind fun (y2, y3) =>
  some (ref01_Wide.mk y2 y)
/-- awardingbody awardingbodyref01.Product -/
noncomputable def ref01_Product (a : Int) (b : Int) : Option ref01_Wide :=
  (bits_Mul64 a b).bind fun (y, y1) =>
  some (ref01_Wide.mk y y1)
/-- awardingbody awardingbodyref01.Parse -/
noncomputable def ref01_Parse_j1 (s : Str) (y12 : Int) (y14 : Int) (ten : Int) : Option (api_Ratio × Int) :=
  (ref01_Product y12 ten).bind fun y16 =>
  (ref01_Plus y16 (ref01_Wide.mk (0 : Int) y14)).bind fun y17 =>
  (ref01_Reduce (((decide ((0 : Int) < (s.length : Int))) && ((sx s (0 : Int)) == (45 : Int))) && (!((y17.Hi == (0 : Int)) && (y17.Lo == (0 : Int))))) y17 (ref01_Wide.mk (0 : Int) ten)).bind fun (y18, y19) =>
  some (y18, y19)
noncomputable def ref01_Parse_l2 (s1 : Str) : (Int × Int) → Option ((Int × Int) ⊕ Int) :=
  fun (ten1, i) =>
    bif (decide (i < (s1.length : Int))) then
      some (.inl ((IntKind.u64.wrap (ten1 * (10 : Int))), (IntKind.i64.wrap (i + (1 : Int)))))
    else
      some (.inr ten1)
noncomputable def ref01_Parse_j3 (s : Str) (s1 : Str) : Option (api_Ratio × Int) :=
  (ref01_index s1 (47 : Int)).bind fun y =>
  (ref01_index s1 (46 : Int)).bind fun y1 =>
  bif (decide ((0 : Int) ≤ y)) then
    req ((0 ≤ y ∧ y ≤ (s1.length : Int))) <|
    (ref01_number (List.take y.toNat s1) (19 : Int)).bind fun (y2, y3) =>
    req ((0 ≤ (IntKind.i64.wrap (y + (1 : Int))) ∧ (IntKind.i64.wrap (y + (1 : Int))) ≤ (s1.length : Int))) <|
    (ref01_number (List.drop (IntKind.i64.wrap (y + (1 : Int))).toNat s1) (19 : Int)).bind fun (y4, y5) =>
    bif ((!y3) || (!y5)) then
      some ((api_Ratio.mk (0 : Int) (0 : Int)), (7 : Int))
    else
      bif (y4 == (0 : Int)) then
        some ((api_Ratio.mk (0 : Int) (0 : Int)), (2 : Int))
      else
        (ref01_Reduce (((decide ((0 : Int) < (s.length : Int))) && ((sx s (0 : Int)) == (45 : Int))) && (decide ((0 : Int) < y2))) (ref01_Wide.mk (0 : Int) y2) (ref01_Wide.mk (0 : Int) y4)).bind fun (y6, y7) =>
        some (y6, y7)
  else
    bif (decide (y1 < (0 : Int))) then
      (ref01_number s1 (19 : Int)).bind fun (y8, y9) =>
      bif (!y9) then
        some ((api_Ratio.mk (0 : Int) (0 : Int)), (7 : Int))
      else
        (ref01_Reduce (((decide ((0 : Int) < (s.length : Int))) && ((sx s (0 : Int)) == (45 : Int))) && (decide ((0 : Int) < y8))) (ref01_Wide.mk (0 : Int) y8) (ref01_Wide.mk (0 : Int) (1 : Int))).bind fun (y10, y11) =>
        some (y10, y11)
    else
      req ((0 ≤ y1 ∧ y1 ≤ (s1.length : Int))) <|
      (ref01_number (List.take y1.toNat s1) (19 : Int)).bind fun (y12, y13) =>
      req ((0 ≤ (IntKind.i64.wrap (y1 + (1 : Int))) ∧ (IntKind.i64.wrap (y1 + (1 : Int))) ≤ (s1.length : Int))) <|
      (ref01_number (List.drop (IntKind.i64.wrap (y1 + (1 : Int))).toNat s1) (9 : Int)).bind fun (y14, y15) =>
      bif ((!y13) || (!y15)) then
        some ((api_Ratio.mk (0 : Int) (0 : Int)), (7 : Int))
      else
        (iter (ref01_Parse_l2 s1) ((1 : Int), (IntKind.i64.wrap (y1 + (1 : Int))))).bind fun ten2 =>
        ref01_Parse_j1 s y12 y14 ten2
noncomputable def ref01_Parse (s : Str) : Option (api_Ratio × Int) :=
  req (((decide ((0 : Int) < (s.length : Int))) = true → 0 ≤ (0 : Int) ∧ (0 : Int) < (s.length : Int))) <|
  bif ((decide ((0 : Int) < (s.length : Int))) && ((sx s (0 : Int)) == (45 : Int))) then
    req ((0 ≤ (1 : Int) ∧ (1 : Int) ≤ (s.length : Int))) <|
    ref01_Parse_j3 s (List.drop (1 : Int).toNat s)
  else
    ref01_Parse_j3 s s
/-- awardingbody awardingbodylaw01.RatioParses -/
noncomputable def law01_RatioParses (s : Str) : Option Bool :=
  bif (decide ((60 : Int) < (s.length : Int))) then
    some true
  else
    (ratio_Parse s).bind fun (y, y1) =>
    (ref01_Parse s).bind fun (y2, y3) =>
    req (((((y.Num == y2.Num) && (y.Den == y2.Den)) && (y1 == y3)) = true → (law01_awake).isSome = true)) <|
    some ((((y.Num == y2.Num) && (y.Den == y2.Den)) && (y1 == y3)) && ((law01_awake).getD default))
/-- awardingbody awardingbodymake.Cut -/
noncomputable def make_Cut_j1 (x1 : Int) : Option Int :=
  some x1
noncomputable def make_Cut (x : Int) (n : Int) : Option Int :=
  bif (decide (n < (1 : Int))) then
    some (0 : Int)
  else
    req (n ≠ 0) <|
    bif (decide ((Int.tmod x n) < (0 : Int))) then
      make_Cut_j1 (IntKind.i64.wrap ((Int.tmod x n) + n))
    else
      make_Cut_j1 (Int.tmod x n)
/-- awardingbody ratio.Valid -/
noncomputable def ratio_Valid (a : api_Ratio) : Option Bool :=
  bif ((((decide (a.Den < (1 : Int))) || (decide ((1152921504606846976 : Int) < a.Den))) || (decide (a.Num < (-1152921504606846976 : Int)))) || (decide ((1152921504606846976 : Int) < a.Num))) then
    some false
  else
    (ratio_magnitude a.Num).bind fun y =>
    (ratio_gcd y (IntKind.u64.wrap a.Den)).bind fun y1 =>
    some (y1 == (1 : Int))
/-- awardingbody ratio.Mul -/
noncomputable def ratio_Mul (a : api_Ratio) (b : api_Ratio) : Option (api_Ratio × Int) :=
  (ratio_Valid a).bind fun y =>
  req (((!(!y)) = true → (ratio_Valid b).isSome = true)) <|
  bif ((!y) || (!((ratio_Valid b).getD default))) then
    some ((api_Ratio.mk (0 : Int) (0 : Int)), (1 : Int))
  else
    (ratio_magnitude a.Num).bind fun y1 =>
    (ratio_magnitude b.Num).bind fun y2 =>
    (ratio_gcd y1 (IntKind.u64.wrap b.Den)).bind fun y3 =>
    (ratio_gcd y2 (IntKind.u64.wrap a.Den)).bind fun y4 =>
    req (y3 ≠ 0 ∧ y4 ≠ 0) <|
    (ratio_product (IntKind.u64.wrap (Int.tdiv y1 y3)) (IntKind.u64.wrap (Int.tdiv y2 y4))).bind fun y5 =>
    req (y4 ≠ 0 ∧ y3 ≠ 0) <|
    (ratio_product (IntKind.u64.wrap (Int.tdiv (IntKind.u64.wrap a.Den) y4)) (IntKind.u64.wrap (Int.tdiv (IntKind.u64.wrap b.Den) y3))).bind fun y6 =>
    (ratio_fitted (!((decide (a.Num < (0 : Int))) == (decide (b.Num < (0 : Int))))) y5 y6).bind fun (y7, y8) =>
    some (y7, y8)
/-- cmp.isNaN[uint64] -/
noncomputable def cmp_isNaN_uint64 (x : Int) : Option Bool :=
  some (x != x)
/-- cmp.Compare[uint64] -/
noncomputable def cmp_Compare_uint64 (x : Int) (y : Int) : Option Int :=
  (cmp_isNaN_uint64 x).bind fun y1 =>
  (cmp_isNaN_uint64 y).bind fun y2 =>
  bif y1 then
    bif y2 then
      some (0 : Int)
    else
      some (-1 : Int)
  else
    bif y2 then
      some (1 : Int)
    else
      bif (decide (x < y)) then
        some (-1 : Int)
      else
        bif (decide (y < x)) then
          some (1 : Int)
        else
          some (0 : Int)
/-- (awardingbody ratio.wide).compare -/
noncomputable def ratio_wide_compare (a : ratio_wide) (b : ratio_wide) : Option Int :=
  (cmp_Compare_uint64 a.hi b.hi).bind fun y =>
  bif (y != (0 : Int)) then
    some y
  else
    (cmp_Compare_uint64 a.lo b.lo).bind fun y1 =>
    some y1
/-- (awardingbody ratio.wide).minus -/
noncomputable def ratio_wide_minus (a : ratio_wide) (b : ratio_wide) : Option ratio_wide :=
  (bits_Sub64 a.lo b.lo (0 : Int)).bind fun (y, y1) =>
  (bits_Sub64 a.hi b.hi y1).bind fun (y2, y3) =>
  some (ratio_wide.mk y2 y)
/-- (awardingbody ratio.signed).plus -/
noncomputable def ratio_signed_plus (a : ratio_signed) (b : ratio_signed) : Option ratio_signed :=
  bif (a.neg == b.neg) then
    (ratio_wide_plus a.abs b.abs).bind fun y =>
    some (ratio_signed.mk a.neg y)
  else
    (ratio_wide_compare a.abs b.abs).bind fun y1 =>
    bif (decide ((0 : Int) ≤ y1)) then
      (ratio_wide_minus a.abs b.abs).bind fun y2 =>
      some (ratio_signed.mk a.neg y2)
    else
      (ratio_wide_minus b.abs a.abs).bind fun y3 =>
      some (ratio_signed.mk b.neg y3)
/-- awardingbody ratio.signedProduct -/
noncomputable def ratio_signedProduct (num : Int) (factor : Int) : Option ratio_signed :=
  (ratio_magnitude num).bind fun y =>
  (ratio_product y factor).bind fun y1 =>
  some (ratio_signed.mk (decide (num < (0 : Int))) y1)
/-- awardingbody ratio.Sum -/
noncomputable def ratio_Sum_j1 (common : Int) (sum : Bool) (sum1 : Int) (sum2 : Int) : Option (api_Ratio × Int) :=
  (ratio_reduced (ratio_signed.mk sum (ratio_wide.mk sum1 sum2)) common).bind fun (y, y1) =>
  some (y, y1)
noncomputable def ratio_Sum_l2 (l : List api_Ratio) (common : Int) : (Int × Bool × Int × Int) → Option ((Int × Bool × Int × Int) ⊕ (Bool × Int × Int)) :=
  fun (v, sum3, sum4, sum5) =>
    bif (decide (v < (l.length : Int))) then
      req ((0 ≤ v ∧ v < (l.length : Int))) <|
      req ((IntKind.u64.wrap ((ix l v).Den)) ≠ 0) <|
      (ratio_signedProduct ((ix l v).Num) (IntKind.u64.wrap (Int.tdiv common (IntKind.u64.wrap ((ix l v).Den))))).bind fun y2 =>
      (ratio_signed_plus (ratio_signed.mk sum3 (ratio_wide.mk sum4 sum5)) y2).bind fun y3 =>
      some (.inl ((IntKind.i64.wrap (v + (1 : Int))), y3.neg, y3.abs.hi, y3.abs.lo))
    else
      some (.inr (sum3, sum4, sum5))
noncomputable def ratio_Sum_j3 (l : List api_Ratio) (common : Int) : Option (api_Ratio × Int) :=
  (iter (ratio_Sum_l2 l common) ((0 : Int), false, (0 : Int), (0 : Int))).bind fun (sum6, sum7, sum8) =>
  ratio_Sum_j1 common sum6 sum7 sum8
noncomputable def ratio_Sum_l4 (l : List api_Ratio) : (Int × Int) → Option ((Int × Int) ⊕ (Int ⊕ (api_Ratio × Int))) :=
  fun (common1, v1) =>
    bif (decide (v1 < (l.length : Int))) then
      req ((0 ≤ v1 ∧ v1 < (l.length : Int))) <|
      (ratio_gcd common1 (IntKind.u64.wrap ((ix l v1).Den))).bind fun y4 =>
      req (y4 ≠ 0) <|
      (ratio_product common1 (IntKind.u64.wrap (Int.tdiv (IntKind.u64.wrap ((ix l v1).Den)) y4))).bind fun y5 =>
      bif ((y5.hi != (0 : Int)) || (decide ((1152921504606846976 : Int) < y5.lo))) then
        some (.inr (.inr ((api_Ratio.mk (0 : Int) (0 : Int)), (6 : Int))))
      else
        some (.inl (y5.lo, (IntKind.i64.wrap (v1 + (1 : Int)))))
    else
      some (.inr (.inl common1))
noncomputable def ratio_Sum_j5 (l : List api_Ratio) : Option (api_Ratio × Int) :=
  (iter (ratio_Sum_l4 l) ((1 : Int), (0 : Int))).bind fun x_ =>
  match x_ with
  | .inl common2 => ratio_Sum_j3 l common2
  | .inr t_ => some t_
noncomputable def ratio_Sum_l6 (l : List api_Ratio) : Int → Option (Int ⊕ (Unit ⊕ (api_Ratio × Int))) :=
  fun v2 =>
    bif (decide (v2 < (l.length : Int))) then
      req ((0 ≤ v2 ∧ v2 < (l.length : Int))) <|
      (ratio_Valid (ix l v2)).bind fun y6 =>
      bif (!y6) then
        some (.inr (.inr ((api_Ratio.mk (0 : Int) (0 : Int)), (1 : Int))))
      else
        some (.inl (IntKind.i64.wrap (v2 + (1 : Int))))
    else
      some (.inr (.inl ()))
noncomputable def ratio_Sum (l : List api_Ratio) : Option (api_Ratio × Int) :=
  bif (decide ((100 : Int) < (l.length : Int))) then
    some ((api_Ratio.mk (0 : Int) (0 : Int)), (3 : Int))
  else
    (iter (ratio_Sum_l6 l) (0 : Int)).bind fun x_ =>
    match x_ with
    | .inl () => ratio_Sum_j5 l
    | .inr t_ => some t_
/-- awardingbody awardingbodylaw01.RatioSumsLong -/
noncomputable def law01_RatioSumsLong_j1 (y : Int) (y4 : Int) (y6 : Int) (y7 : api_Ratio) (y8 : Int) (l : List api_Ratio) : Option Bool :=
  (ratio_Sum l).bind fun (y9, y10) =>
  bif (decide ((100 : Int) < y)) then
    req (((((y9.Num == (0 : Int)) && (y9.Den == (0 : Int))) && (y10 == (3 : Int))) = true → (law01_awake).isSome = true)) <|
    some ((((y9.Num == (0 : Int)) && (y9.Den == (0 : Int))) && (y10 == (3 : Int))) && ((law01_awake).getD default))
  else
    req (((((((y4 == (0 : Int)) && (y6 == (0 : Int))) && (y8 == (0 : Int))) && (y10 == (0 : Int))) && ((y9.Num == y7.Num) && (y9.Den == y7.Den))) = true → (law01_awake).isSome = true)) <|
    some ((((((y4 == (0 : Int)) && (y6 == (0 : Int))) && (y8 == (0 : Int))) && (y10 == (0 : Int))) && ((y9.Num == y7.Num) && (y9.Den == y7.Den))) && ((law01_awake).getD default))
noncomputable def law01_RatioSumsLong_l2 (y : Int) (y3 : api_Ratio) : (Int × (List api_Ratio)) → Option ((Int × (List api_Ratio)) ⊕ (List api_Ratio)) :=
  fun (i, l1) =>
    bif (decide (i < y)) then
      req ((l1.length + ([y3]).length) * 16 ≤ 140737488355328) <|
      some (.inl ((IntKind.i64.wrap (i + (1 : Int))), (l1 ++ [y3])))
    else
      some (.inr l1)
noncomputable def law01_RatioSumsLong (n : Int) (num : Int) (den : Int) : Option Bool :=
  (make_Cut n (110 : Int)).bind fun y =>
  (make_Cut num (1000 : Int)).bind fun y1 =>
  (make_Cut den (1000 : Int)).bind fun y2 =>
  (ratio_New (IntKind.i64.wrap (y1 - (500 : Int))) (IntKind.i64.wrap ((1 : Int) + y2))).bind fun (y3, y4) =>
  (ratio_New y (1 : Int)).bind fun (y5, y6) =>
  (ratio_Mul y3 y5).bind fun (y7, y8) =>
  (iter (law01_RatioSumsLong_l2 y y3) ((0 : Int), ([] : List api_Ratio))).bind fun l2 =>
  law01_RatioSumsLong_j1 y y4 y6 y7 y8 l2
/-- awardingbody awardingbodymake.New -/
noncomputable def make_New_j1 (l1 : List Int) : Option make_Tape :=
  some (make_Tape.mk l1 (0 : Int))
noncomputable def make_New (l : List Int) : Option make_Tape :=
  bif (decide ((600 : Int) < (l.length : Int))) then
    req ((0 ≤ (600 : Int) ∧ (600 : Int) ≤ (l.length : Int))) <|
    make_New_j1 (List.take (600 : Int).toNat l)
  else
    make_New_j1 l
/-- (ptr awardingbody awardingbodymake.Tape).Raw -/
noncomputable def make_Tape_Raw (t : make_Tape) : Option (Int × make_Tape) :=
  bif (decide ((t.L.length : Int) ≤ t.At)) then
    some ((0 : Int), t)
  else
    req ((0 ≤ (IntKind.i64.wrap ((IntKind.i64.wrap (t.At + (1 : Int))) - (1 : Int))) ∧ (IntKind.i64.wrap ((IntKind.i64.wrap (t.At + (1 : Int))) - (1 : Int))) < (t.L.length : Int))) <|
    bindV (ix t.L (IntKind.i64.wrap ((IntKind.i64.wrap (t.At + (1 : Int))) - (1 : Int)))) fun v =>
    some (v, (make_Tape.mk t.L (IntKind.i64.wrap (t.At + (1 : Int)))))
/-- (ptr awardingbody awardingbodymake.Tape).Next -/
noncomputable def make_Tape_Next (t : make_Tape) (n : Int) : Option (Int × make_Tape) :=
  (make_Tape_Raw t).bind fun (y, y1) =>
  (make_Cut y n).bind fun y2 =>
  some (y2, y1)
/-- (ptr awardingbody awardingbodymake.Tape).Range -/
noncomputable def make_Tape_Range (t : make_Tape) (low : Int) (high : Int) : Option (Int × make_Tape) :=
  (make_Tape_Next t (IntKind.i64.wrap ((IntKind.i64.wrap (high - low)) + (1 : Int)))).bind fun (y, y1) =>
  some ((IntKind.i64.wrap (low + y)), y1)
/-- awardingbody awardingbodyref01.Size -/
noncomputable def ref01_Size (n : Int) : Option Int :=
  bif (decide (n < (0 : Int))) then
    bindV (IntKind.u64.wrap ((IntKind.u64.wrap (IntKind.i64.wrap (0 - (IntKind.i64.wrap (n + (1 : Int)))))) + (1 : Int))) fun v =>
    some v
  else
    some (IntKind.u64.wrap n)
/-- awardingbody awardingbodyref01.New -/
noncomputable def ref01_New (num : Int) (den : Int) : Option (api_Ratio × Int) :=
  bif (den == (0 : Int)) then
    some ((api_Ratio.mk (0 : Int) (0 : Int)), (2 : Int))
  else
    (ref01_Size num).bind fun y =>
    (ref01_Size den).bind fun y1 =>
    (ref01_Reduce (!((decide (num < (0 : Int))) == (decide (den < (0 : Int))))) (ref01_Wide.mk (0 : Int) y) (ref01_Wide.mk (0 : Int) y1)).bind fun (y2, y3) =>
    some (y2, y3)
/-- (ptr awardingbody awardingbodymake.Tape).Small -/
noncomputable def make_Tape_Small (t : make_Tape) : Option (api_Ratio × make_Tape) :=
  (make_Tape_Range t (-30 : Int) (30 : Int)).bind fun (y, y1) =>
  (make_Tape_Range y1 (1 : Int) (12 : Int)).bind fun (y2, y3) =>
  (ref01_New y y2).bind fun (y4, y5) =>
  some (y4, y3)
end Go.LS
