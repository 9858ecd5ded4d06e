/-
  Plain functions that the program's functions compute. No condition: definitions, printed by dec.py.
-/
import Derived.Test.YtfioceejanpjfaaDoorD0
namespace Go.LS
set_option linter.all false
set_option linter.unusedSimpArgs false
set_option linter.unusedVariables false
set_option maxRecDepth 20000

/-- awardingbody awardingbodyref01.Size -/
noncomputable def ref01_Size (n : Int) : Option Int :=
  bif (decide (n < (0 : Int))) then
    bindV (IntKind.u64.wrap ((IntKind.u64.wrap (IntKind.i64.wrap (0 - (IntKind.i64.wrap (n + (1 : Int)))))) + (1 : Int))) fun v =>
    some v
  else
    some (IntKind.u64.wrap n)
/-- awardingbody awardingbodyref01.Order -/
noncomputable def ref01_Order (a : ref01_Wide) (b : ref01_Wide) : Option Int :=
  bif ((decide (a.Hi < b.Hi)) || ((a.Hi == b.Hi) && (decide (a.Lo < b.Lo)))) then
    some (-1 : Int)
  else
    bif ((a.Hi == b.Hi) && (a.Lo == b.Lo)) then
      some (0 : Int)
    else
      some (1 : Int)
/-- awardingbody awardingbodyref01.Twice -/
noncomputable def ref01_Twice (a : ref01_Wide) : Option ref01_Wide :=
  some (ref01_Wide.mk (bOr .u64 (bShl .u64 a.Hi (1 : Int)) (bShr .u64 a.Lo (63 : Int))) (bShl .u64 a.Lo (1 : Int)))
/-- awardingbody awardingbodyref01.Minus -/
noncomputable def ref01_Minus (a : ref01_Wide) (b : ref01_Wide) : Option ref01_Wide :=
  (bits_Sub64 a.Lo b.Lo (0 : Int)).bind fun (y, y1) =>
  (bits_Sub64 a.Hi b.Hi y1).bind fun (y2, y3) =>
  some (ref01_Wide.mk y2 y)
/-- awardingbody awardingbodyref01.Divide -/
noncomputable def ref01_Divide_j1 (q : Int) (q1 : Int) (r : Int) (r1 : Int) : Option (ref01_Wide × ref01_Wide) :=
  some ((ref01_Wide.mk q q1), (ref01_Wide.mk r r1))
noncomputable def ref01_Divide_j2 (i : Int) (q6 : Int) (q7 : Int) (r6 : Int) (r7 : Int) : Option ((Int × Int × Int × Int × Int) ⊕ (Int × Int × Int × Int)) :=
  some (.inl ((IntKind.i64.wrap (i - (1 : Int))), q6, q7, r6, r7))
noncomputable def ref01_Divide_j3 (b : ref01_Wide) (i : Int) (q2 : Int) (q3 : Int) (r2 : Int) (r3 : Int) (bit1 : Int) : Option ((Int × Int × Int × Int × Int) ⊕ (Int × Int × Int × Int)) :=
  (ref01_Twice (ref01_Wide.mk r2 r3)).bind fun y =>
  (ref01_Twice (ref01_Wide.mk q2 q3)).bind fun y1 =>
  req (((!((bShr .u64 r2 (63 : Int)) == (1 : Int))) = true → (ref01_Order (ref01_Wide.mk y.Hi (bOr .u64 y.Lo bit1)) b).isSome = true)) <|
  bif (((bShr .u64 r2 (63 : Int)) == (1 : Int)) || (decide ((0 : Int) ≤ ((ref01_Order (ref01_Wide.mk y.Hi (bOr .u64 y.Lo bit1)) b).getD default)))) then
    (ref01_Minus (ref01_Wide.mk y.Hi (bOr .u64 y.Lo bit1)) b).bind fun y2 =>
    ref01_Divide_j2 i y1.Hi (bOr .u64 y1.Lo (1 : Int)) y2.Hi y2.Lo
  else
    ref01_Divide_j2 i y1.Hi y1.Lo y.Hi (bOr .u64 y.Lo bit1)
noncomputable def ref01_Divide_l4 (a : ref01_Wide) (b : ref01_Wide) : (Int × Int × Int × Int × Int) → Option ((Int × Int × Int × Int × Int) ⊕ (Int × Int × Int × Int)) :=
  fun (i, q2, q3, r2, r3) =>
    bif (decide ((0 : Int) ≤ i)) then
      req (0 ≤ (IntKind.u64.wrap (Int.tmod i (64 : Int)))) <|
      bindV (bAnd .u64 (bShr .u64 a.Lo (IntKind.u64.wrap (Int.tmod i (64 : Int)))) (1 : Int)) fun bit =>
      bif (decide ((64 : Int) ≤ i)) then
        req (0 ≤ (IntKind.u64.wrap (IntKind.i64.wrap (i - (64 : Int))))) <|
        bindV (bAnd .u64 (bShr .u64 a.Hi (IntKind.u64.wrap (IntKind.i64.wrap (i - (64 : Int))))) (1 : Int)) fun bit2 =>
        ref01_Divide_j3 b i q2 q3 r2 r3 bit2
      else
        ref01_Divide_j3 b i q2 q3 r2 r3 bit
    else
      some (.inr (q2, q3, r2, r3))
noncomputable def ref01_Divide (a : ref01_Wide) (b : ref01_Wide) : Option (ref01_Wide × ref01_Wide) :=
  bif ((a.Hi == (0 : Int)) && (b.Hi == (0 : Int))) then
    req (b.Lo ≠ 0) <|
    some ((ref01_Wide.mk (0 : Int) (IntKind.u64.wrap (Int.tdiv a.Lo b.Lo))), (ref01_Wide.mk (0 : Int) (Int.tmod a.Lo b.Lo)))
  else
    (iter (ref01_Divide_l4 a b) ((127 : Int), (0 : Int), (0 : Int), (0 : Int), (0 : Int))).bind fun (q4, q5, r4, r5) =>
    ref01_Divide_j1 q4 q5 r4 r5
/-- awardingbody awardingbodyref01.Divisor -/
noncomputable def ref01_Divisor_j1 (a1 : Int) (a2 : Int) : Option ref01_Wide :=
  some (ref01_Wide.mk a1 a2)
noncomputable def ref01_Divisor_l2  : (Int × Int × Int × Int) → Option ((Int × Int × Int × Int) ⊕ (Int × Int)) :=
  fun (a3, a4, b1, b2) =>
    bif (!((b1 == (0 : Int)) && (b2 == (0 : Int)))) then
      (ref01_Divide (ref01_Wide.mk a3 a4) (ref01_Wide.mk b1 b2)).bind fun (y, y1) =>
      some (.inl (b1, b2, y1.Hi, y1.Lo))
    else
      some (.inr (a3, a4))
noncomputable def ref01_Divisor (a : ref01_Wide) (b : ref01_Wide) : Option ref01_Wide :=
  (iter (ref01_Divisor_l2) (a.Hi, a.Lo, b.Hi, b.Lo)).bind fun (a5, a6) =>
  ref01_Divisor_j1 a5 a6
/-- awardingbody awardingbodyref01.Valid -/
noncomputable def ref01_Valid (a : api_Ratio) : Option Bool :=
  bif ((((decide (a.Den < (1 : Int))) || (decide ((1152921504606846976 : Int) < a.Den))) || (decide (a.Num < (-1152921504606846976 : Int)))) || (decide ((1152921504606846976 : Int) < a.Num))) then
    some false
  else
    (ref01_Size a.Num).bind fun y =>
    (ref01_Size a.Den).bind fun y1 =>
    (ref01_Divisor (ref01_Wide.mk (0 : Int) y) (ref01_Wide.mk (0 : Int) y1)).bind fun y2 =>
    some ((y2.Hi == (0 : Int)) && (y2.Lo == (1 : Int)))
/-- math bits.Mul64 -/
noncomputable def bits_Mul64 (x : Int) (y : Int) : Option (Int × Int) :=
  bindV (IntKind.u64.wrap ((bAnd .u64 x (4294967295 : Int)) * (bAnd .u64 y (4294967295 : Int)))) fun w0 =>
  bindV (IntKind.u64.wrap ((IntKind.u64.wrap ((bShr .u64 x (32 : Int)) * (bAnd .u64 y (4294967295 : Int)))) + (bShr .u64 w0 (32 : Int)))) fun t =>
  bindV (IntKind.u64.wrap ((bAnd .u64 t (4294967295 : Int)) + (IntKind.u64.wrap ((bAnd .u64 x (4294967295 : Int)) * (bShr .u64 y (32 : Int)))))) fun w1 =>
  bindV (IntKind.u64.wrap ((IntKind.u64.wrap ((IntKind.u64.wrap ((bShr .u64 x (32 : Int)) * (bShr .u64 y (32 : Int)))) + (bShr .u64 t (32 : Int)))) + (bShr .u64 w1 (32 : Int)))) fun hi =>
  some (hi, (IntKind.u64.wrap (x * y)))
/-- awardingbody awardingbodyref01.Product -/
noncomputable def ref01_Product (a : Int) (b : Int) : Option ref01_Wide :=
  (bits_Mul64 a b).bind fun (y, y1) =>
  some (ref01_Wide.mk y y1)
/-- awardingbody awardingbodyref01.Plus -/
noncomputable def ref01_Plus (a : ref01_Wide) (b : ref01_Wide) : Option ref01_Wide :=
  (bits_Add64 a.Lo b.Lo (0 : Int)).bind fun (y, y1) =>
  (bits_Add64 a.Hi b.Hi y1).bind fun (y2, y3) =>
  some (ref01_Wide.mk y2 y)
/-- awardingbody awardingbodyref01.Digits -/
noncomputable def ref01_Digits_l1  : (Str × Int × Int) → Option ((Str × Int × Int) ⊕ Str) :=
  fun (s, n1, n2) =>
    (ref01_Divide (ref01_Wide.mk n1 n2) (ref01_Wide.mk (0 : Int) (10 : Int))).bind fun (y, y1) =>
    req ((strOf ([(IntKind.u8.wrap (IntKind.u64.wrap ((48 : Int) + y1.Lo)))])).length + s.length ≤ 140737488355328) <|
    bindV ((strOf ([(IntKind.u8.wrap (IntKind.u64.wrap ((48 : Int) + y1.Lo)))])) ++ s) fun s1 =>
    bif ((y.Hi == (0 : Int)) && (y.Lo == (0 : Int))) then
      some (.inr s1)
    else
      some (.inl (s1, y.Hi, y.Lo))
noncomputable def ref01_Digits (n : ref01_Wide) : Option Str :=
  iter (ref01_Digits_l1) (([] : Str), n.Hi, n.Lo)
/-- awardingbody awardingbodyref01.Decimal -/
noncomputable def ref01_Decimal_j1 (s2 : Str) : Option Str :=
  some s2
noncomputable def ref01_Decimal_j2 (a : api_Ratio) (q : Int) (q1 : Int) (s1 : Str) : Option Str :=
  bif ((decide (a.Num < (0 : Int))) && (!((q == (0 : Int)) && (q1 == (0 : Int))))) then
    req (([45] : Str).length + s1.length ≤ 140737488355328) <|
    ref01_Decimal_j1 (([45] : Str) ++ s1)
  else
    ref01_Decimal_j1 s1
noncomputable def ref01_Decimal_j3 (a : api_Ratio) (digits : Int) (q : Int) (q1 : Int) (s : Str) : Option Str :=
  bif (decide ((0 : Int) < digits)) then
    req ((0 ≤ (IntKind.i64.wrap ((s.length : Int) - digits)) ∧ (IntKind.i64.wrap ((s.length : Int) - digits)) ≤ (s.length : Int)) ∧ (List.take (IntKind.i64.wrap ((s.length : Int) - digits)).toNat s).length + ([46] : Str).length ≤ 140737488355328 ∧ ((List.take (IntKind.i64.wrap ((s.length : Int) - digits)).toNat s) ++ ([46] : Str)).length + (List.drop (IntKind.i64.wrap ((s.length : Int) - digits)).toNat s).length ≤ 140737488355328) <|
    bindV (((List.take (IntKind.i64.wrap ((s.length : Int) - digits)).toNat s) ++ ([46] : Str)) ++ (List.drop (IntKind.i64.wrap ((s.length : Int) - digits)).toNat s)) fun s3 =>
    ref01_Decimal_j2 a q q1 s3
  else
    ref01_Decimal_j2 a q q1 s
noncomputable def ref01_Decimal_l4 (digits : Int) : Str → Option (Str ⊕ Str) :=
  fun s4 =>
    bif (decide ((s4.length : Int) < (IntKind.i64.wrap (digits + (1 : Int))))) then
      req (([48] : Str).length + s4.length ≤ 140737488355328) <|
      some (.inl (([48] : Str) ++ s4))
    else
      some (.inr s4)
noncomputable def ref01_Decimal_j5 (a : api_Ratio) (digits : Int) (q : Int) (q1 : Int) : Option Str :=
  (ref01_Digits (ref01_Wide.mk q q1)).bind fun y6 =>
  (iter (ref01_Decimal_l4 digits) y6).bind fun s5 =>
  ref01_Decimal_j3 a digits q q1 s5
noncomputable def ref01_Decimal_j6 (a : api_Ratio) (digits : Int) (ten : Int) : Option Str :=
  (ref01_Size a.Den).bind fun y1 =>
  (ref01_Size a.Num).bind fun y2 =>
  (ref01_Product y2 ten).bind fun y3 =>
  (ref01_Divide y3 (ref01_Wide.mk (0 : Int) y1)).bind fun (y4, y5) =>
  (ref01_Twice y5).bind fun y7 =>
  (ref01_Order y7 (ref01_Wide.mk (0 : Int) y1)).bind fun y8 =>
  bif ((decide ((0 : Int) < y8)) || ((y8 == (0 : Int)) && ((Int.tmod y4.Lo (2 : Int)) == (1 : Int)))) then
    (ref01_Plus y4 (ref01_Wide.mk (0 : Int) (1 : Int))).bind fun y9 =>
    ref01_Decimal_j5 a digits y9.Hi y9.Lo
  else
    ref01_Decimal_j5 a digits y4.Hi y4.Lo
noncomputable def ref01_Decimal_l7 (digits : Int) : (Int × Int) → Option ((Int × Int) ⊕ Int) :=
  fun (ten1, i) =>
    bif (decide (i < digits)) then
      some (.inl ((IntKind.u64.wrap (ten1 * (10 : Int))), (IntKind.i64.wrap (i + (1 : Int)))))
    else
      some (.inr ten1)
noncomputable def ref01_Decimal (a : api_Ratio) (digits : Int) : Option Str :=
  (ref01_Valid a).bind fun y =>
  bif (((!y) || (decide (digits < (0 : Int)))) || (decide ((9 : Int) < digits))) then
    some ([] : Str)
  else
    (iter (ref01_Decimal_l7 digits) ((1 : Int), (0 : Int))).bind fun ten2 =>
    ref01_Decimal_j6 a digits ten2
/-- awardingbody ratio.magnitude -/
noncomputable def ratio_magnitude (n : Int) : Option Int :=
  bif (decide (n < (0 : Int))) then
    some (IntKind.u64.wrap (0 - (IntKind.u64.wrap n)))
  else
    some (IntKind.u64.wrap n)
/-- math bits.Len64 -/
noncomputable def bits_Len64_j1 (x3 : Int) (n2 : Int) : Option Int :=
  req ((0 ≤ (IntKind.u8.wrap x3) ∧ (IntKind.u8.wrap x3) < (((List.append (List.append [0, 1, 2, 2, 3, 3, 3, 3, 4, 4, 4, 4, 4, 4, 4, 4, 5, 5, 5, 5, 5, 5, 5, 5, 5, 5, 5, 5, 5, 5, 5, 5, 6, 6, 6, 6, 6, 6, 6, 6, 6, 6, 6, 6, 6, 6, 6, 6, 6, 6, 6, 6, 6, 6, 6, 6, 6, 6, 6, 6, 6, 6, 6, 6] [7, 7, 7, 7, 7, 7, 7, 7, 7, 7, 7, 7, 7, 7, 7, 7, 7, 7, 7, 7, 7, 7, 7, 7, 7, 7, 7, 7, 7, 7, 7, 7, 7, 7, 7, 7, 7, 7, 7, 7, 7, 7, 7, 7, 7, 7, 7, 7, 7, 7, 7, 7, 7, 7, 7, 7, 7, 7, 7, 7, 7, 7, 7, 7]) (List.append [8, 8, 8, 8, 8, 8, 8, 8, 8, 8, 8, 8, 8, 8, 8, 8, 8, 8, 8, 8, 8, 8, 8, 8, 8, 8, 8, 8, 8, 8, 8, 8, 8, 8, 8, 8, 8, 8, 8, 8, 8, 8, 8, 8, 8, 8, 8, 8, 8, 8, 8, 8, 8, 8, 8, 8, 8, 8, 8, 8, 8, 8, 8, 8] [8, 8, 8, 8, 8, 8, 8, 8, 8, 8, 8, 8, 8, 8, 8, 8, 8, 8, 8, 8, 8, 8, 8, 8, 8, 8, 8, 8, 8, 8, 8, 8, 8, 8, 8, 8, 8, 8, 8, 8, 8, 8, 8, 8, 8, 8, 8, 8, 8, 8, 8, 8, 8, 8, 8, 8, 8, 8, 8, 8, 8, 8, 8, 8])) : Str).length : Int))) <|
  bindV (IntKind.i64.wrap (n2 + (IntKind.i64.wrap (sx ((List.append (List.append [0, 1, 2, 2, 3, 3, 3, 3, 4, 4, 4, 4, 4, 4, 4, 4, 5, 5, 5, 5, 5, 5, 5, 5, 5, 5, 5, 5, 5, 5, 5, 5, 6, 6, 6, 6, 6, 6, 6, 6, 6, 6, 6, 6, 6, 6, 6, 6, 6, 6, 6, 6, 6, 6, 6, 6, 6, 6, 6, 6, 6, 6, 6, 6] [7, 7, 7, 7, 7, 7, 7, 7, 7, 7, 7, 7, 7, 7, 7, 7, 7, 7, 7, 7, 7, 7, 7, 7, 7, 7, 7, 7, 7, 7, 7, 7, 7, 7, 7, 7, 7, 7, 7, 7, 7, 7, 7, 7, 7, 7, 7, 7, 7, 7, 7, 7, 7, 7, 7, 7, 7, 7, 7, 7, 7, 7, 7, 7]) (List.append [8, 8, 8, 8, 8, 8, 8, 8, 8, 8, 8, 8, 8, 8, 8, 8, 8, 8, 8, 8, 8, 8, 8, 8, 8, 8, 8, 8, 8, 8, 8, 8, 8, 8, 8, 8, 8, 8, 8, 8, 8, 8, 8, 8, 8, 8, 8, 8, 8, 8, 8, 8, 8, 8, 8, 8, 8, 8, 8, 8, 8, 8, 8, 8] [8, 8, 8, 8, 8, 8, 8, 8, 8, 8, 8, 8, 8, 8, 8, 8, 8, 8, 8, 8, 8, 8, 8, 8, 8, 8, 8, 8, 8, 8, 8, 8, 8, 8, 8, 8, 8, 8, 8, 8, 8, 8, 8, 8, 8, 8, 8, 8, 8, 8, 8, 8, 8, 8, 8, 8, 8, 8, 8, 8, 8, 8, 8, 8])) : Str) (IntKind.u8.wrap x3))))) fun n3 =>
  some n3
noncomputable def bits_Len64_j2 (x2 : Int) (n1 : Int) : Option Int :=
  bif (decide ((256 : Int) ≤ x2)) then
    bits_Len64_j1 (bShr .u64 x2 (8 : Int)) (IntKind.i64.wrap (n1 + (8 : Int)))
  else
    bits_Len64_j1 x2 n1
noncomputable def bits_Len64_j3 (x1 : Int) (n : Int) : Option Int :=
  bif (decide ((65536 : Int) ≤ x1)) then
    bits_Len64_j2 (bShr .u64 x1 (16 : Int)) (IntKind.i64.wrap (n + (16 : Int)))
  else
    bits_Len64_j2 x1 n
noncomputable def bits_Len64 (x : Int) : Option Int :=
  bif (decide ((4294967296 : Int) ≤ x)) then
    bits_Len64_j3 (bShr .u64 x (32 : Int)) (32 : Int)
  else
    bits_Len64_j3 x (0 : Int)
/-- math bits.LeadingZeros64 -/
noncomputable def bits_LeadingZeros64 (x : Int) : Option Int :=
  (bits_Len64 x).bind fun y =>
  some (IntKind.i64.wrap ((64 : Int) - y))
/-- math bits.Div64 -/
noncomputable def bits_Div64_j1 (lo : Int) (y : Int) (y1 : Int) (q11 : Int) (un21 : Int) (q01 : Int) : Option (Int × Int) :=
  req (0 ≤ (IntKind.u64.wrap y1)) <|
  bindV (IntKind.u64.wrap ((IntKind.u64.wrap (q11 * (4294967296 : Int))) + q01)) fun quo =>
  bindV (bShr .u64 (IntKind.u64.wrap ((IntKind.u64.wrap ((IntKind.u64.wrap (un21 * (4294967296 : Int))) + (bAnd .u64 (bShl .u64 lo (IntKind.u64.wrap y1)) (4294967295 : Int)))) - (IntKind.u64.wrap (q01 * (bShl .u64 y (IntKind.u64.wrap y1)))))) (IntKind.u64.wrap y1)) fun rem =>
  some (quo, rem)
noncomputable def bits_Div64_l2 (lo : Int) (y : Int) (y1 : Int) : (Int × Int) → Option ((Int × Int) ⊕ Int) :=
  fun (rhat2, q02) =>
    bif ((decide ((4294967296 : Int) ≤ q02)) || (decide ((IntKind.u64.wrap ((IntKind.u64.wrap ((4294967296 : Int) * rhat2)) + (bAnd .u64 (bShl .u64 lo (IntKind.u64.wrap y1)) (4294967295 : Int)))) < (IntKind.u64.wrap (q02 * (bAnd .u64 (bShl .u64 y (IntKind.u64.wrap y1)) (4294967295 : Int))))))) then
      bindV (IntKind.u64.wrap (rhat2 + (bShr .u64 (bShl .u64 y (IntKind.u64.wrap y1)) (32 : Int)))) fun rhat3 =>
      bif (decide ((4294967296 : Int) ≤ rhat3)) then
        some (.inr (IntKind.u64.wrap (q02 - (1 : Int))))
      else
        some (.inl (rhat3, (IntKind.u64.wrap (q02 - (1 : Int)))))
    else
      some (.inr q02)
noncomputable def bits_Div64_j3 (lo : Int) (y : Int) (y1 : Int) (un32 : Int) (q11 : Int) : Option (Int × Int) :=
  bindV (IntKind.u64.wrap ((IntKind.u64.wrap ((IntKind.u64.wrap (un32 * (4294967296 : Int))) + (bShr .u64 (bShl .u64 lo (IntKind.u64.wrap y1)) (32 : Int)))) - (IntKind.u64.wrap (q11 * (bShl .u64 y (IntKind.u64.wrap y1)))))) fun un21 =>
  req ((bShr .u64 (bShl .u64 y (IntKind.u64.wrap y1)) (32 : Int)) ≠ 0) <|
  bindV (IntKind.u64.wrap (Int.tdiv un21 (bShr .u64 (bShl .u64 y (IntKind.u64.wrap y1)) (32 : Int)))) fun q0 =>
  bindV (IntKind.u64.wrap (un21 - (IntKind.u64.wrap (q0 * (bShr .u64 (bShl .u64 y (IntKind.u64.wrap y1)) (32 : Int)))))) fun rhat1 =>
  (iter (bits_Div64_l2 lo y y1) (rhat1, q0)).bind fun q03 =>
  bits_Div64_j1 lo y y1 q11 un21 q03
noncomputable def bits_Div64_l4 (lo : Int) (y : Int) (y1 : Int) : (Int × Int) → Option ((Int × Int) ⊕ Int) :=
  fun (q12, rhat4) =>
    bif ((decide ((4294967296 : Int) ≤ q12)) || (decide ((IntKind.u64.wrap ((IntKind.u64.wrap ((4294967296 : Int) * rhat4)) + (bShr .u64 (bShl .u64 lo (IntKind.u64.wrap y1)) (32 : Int)))) < (IntKind.u64.wrap (q12 * (bAnd .u64 (bShl .u64 y (IntKind.u64.wrap y1)) (4294967295 : Int))))))) then
      bindV (IntKind.u64.wrap (rhat4 + (bShr .u64 (bShl .u64 y (IntKind.u64.wrap y1)) (32 : Int)))) fun rhat5 =>
      bif (decide ((4294967296 : Int) ≤ rhat5)) then
        some (.inr (IntKind.u64.wrap (q12 - (1 : Int))))
      else
        some (.inl ((IntKind.u64.wrap (q12 - (1 : Int))), rhat5))
    else
      some (.inr q12)
noncomputable def bits_Div64_j5 (hi : Int) (lo : Int) (y : Int) : Option (Int × Int) :=
  bif (hi == (0 : Int)) then
    req (y ≠ 0) <|
    some ((IntKind.u64.wrap (Int.tdiv lo y)), (Int.tmod lo y))
  else
    (bits_LeadingZeros64 y).bind fun y1 =>
    req (0 ≤ (IntKind.u64.wrap y1)) <|
    req (0 ≤ (IntKind.u64.wrap y1) ∧ 0 ≤ (IntKind.u64.wrap ((64 : Int) - (IntKind.u64.wrap y1)))) <|
    bindV (bOr .u64 (bShl .u64 hi (IntKind.u64.wrap y1)) (bShr .u64 lo (IntKind.u64.wrap ((64 : Int) - (IntKind.u64.wrap y1))))) fun un32 =>
    req (0 ≤ (IntKind.u64.wrap y1)) <|
    req ((bShr .u64 (bShl .u64 y (IntKind.u64.wrap y1)) (32 : Int)) ≠ 0) <|
    bindV (IntKind.u64.wrap (Int.tdiv un32 (bShr .u64 (bShl .u64 y (IntKind.u64.wrap y1)) (32 : Int)))) fun q1 =>
    bindV (IntKind.u64.wrap (un32 - (IntKind.u64.wrap (q1 * (bShr .u64 (bShl .u64 y (IntKind.u64.wrap y1)) (32 : Int)))))) fun rhat =>
    (iter (bits_Div64_l4 lo y y1) (q1, rhat)).bind fun q13 =>
    bits_Div64_j3 lo y y1 un32 q13
noncomputable def bits_Div64_j6 (hi : Int) (lo : Int) (y : Int) : Option (Int × Int) :=
  bif (decide (y ≤ hi)) then
    none
  else
    bits_Div64_j5 hi lo y
noncomputable def bits_Div64 (hi : Int) (lo : Int) (y : Int) : Option (Int × Int) :=
  bif (y == (0 : Int)) then
    none
  else
    bits_Div64_j6 hi lo y
/-- (awardingbody ratio.wide).over -/
noncomputable def ratio_wide_over (a : ratio_wide) (d : Int) : Option ratio_wide :=
  req (d ≠ 0) <|
  (bits_Div64 (Int.tmod a.hi d) a.lo d).bind fun (y, y1) =>
  some (ratio_wide.mk (IntKind.u64.wrap (Int.tdiv a.hi d)) y)
/-- math bits.Rem64 -/
noncomputable def bits_Rem64 (hi : Int) (lo : Int) (y : Int) : Option Int :=
  req (y ≠ 0) <|
  (bits_Div64 (Int.tmod hi y) lo y).bind fun (y1, y2) =>
  some y2
/-- (awardingbody ratio.wide).mod -/
noncomputable def ratio_wide_mod (a : ratio_wide) (d : Int) : Option Int :=
  (bits_Rem64 a.hi a.lo d).bind fun y =>
  some y
/-- awardingbody ratio.gcd -/
noncomputable def ratio_gcd_j1 (a1 : Int) : Option Int :=
  some a1
noncomputable def ratio_gcd_l2  : (Int × Int) → Option ((Int × Int) ⊕ Int) :=
  fun (a2, b1) =>
    bif (b1 != (0 : Int)) then
      req (b1 ≠ 0) <|
      some (.inl (b1, (Int.tmod a2 b1)))
    else
      some (.inr a2)
noncomputable def ratio_gcd (a : Int) (b : Int) : Option Int :=
  (iter (ratio_gcd_l2) (a, b)).bind fun a3 =>
  ratio_gcd_j1 a3
/-- awardingbody ratio.fitted -/
noncomputable def ratio_fitted_j1 (den : ratio_wide) (n : Int) : Option (api_Ratio × Int) :=
  some ((api_Ratio.mk n (IntKind.i64.wrap den.lo)), (0 : Int))
noncomputable def ratio_fitted (neg : Bool) (num : ratio_wide) (den : ratio_wide) : Option (api_Ratio × Int) :=
  bif ((((num.hi != (0 : Int)) || (den.hi != (0 : Int))) || (decide ((1152921504606846976 : Int) < num.lo))) || (decide ((1152921504606846976 : Int) < den.lo))) then
    some ((api_Ratio.mk (0 : Int) (0 : Int)), (6 : Int))
  else
    bif neg then
      ratio_fitted_j1 den (IntKind.i64.wrap (0 - (IntKind.i64.wrap num.lo)))
    else
      ratio_fitted_j1 den (IntKind.i64.wrap num.lo)
/-- awardingbody ratio.reduced -/
noncomputable def ratio_reduced (num : ratio_signed) (den : Int) : Option (api_Ratio × Int) :=
  (ratio_wide_mod num.abs den).bind fun y =>
  (ratio_gcd y den).bind fun y1 =>
  (ratio_wide_over num.abs y1).bind fun y2 =>
  req (y1 ≠ 0) <|
  (ratio_fitted num.neg y2 (ratio_wide.mk (0 : Int) (IntKind.u64.wrap (Int.tdiv den y1)))).bind fun (y3, y4) =>
  some (y3, y4)
/-- awardingbody ratio.New -/
noncomputable def ratio_New (num : Int) (den : Int) : Option (api_Ratio × Int) :=
  bif (den == (0 : Int)) then
    some ((api_Ratio.mk (0 : Int) (0 : Int)), (2 : Int))
  else
    (ratio_magnitude num).bind fun y =>
    (ratio_magnitude den).bind fun y1 =>
    (ratio_reduced (ratio_signed.mk (!((decide (num < (0 : Int))) == (decide (den < (0 : Int))))) (ratio_wide.mk (0 : Int) y)) y1).bind fun (y2, y3) =>
    some (y2, y3)
/-- cmp.isNaN[int] -/
noncomputable def cmp_isNaN_int (x : Int) : Option Bool :=
  some (x != x)
/-- cmp.Compare[int] -/
noncomputable def cmp_Compare_int (x : Int) (y : Int) : Option Int :=
  (cmp_isNaN_int x).bind fun y1 =>
  (cmp_isNaN_int y).bind fun y2 =>
  bif y1 then
    bif y2 then
      some (0 : Int)
    else
      some (-1 : Int)
  else
    bif y2 then
      some (1 : Int)
    else
      bif (decide (x < y)) then
        some (-1 : Int)
      else
        bif (decide (y < x)) then
          some (1 : Int)
        else
          some (0 : Int)
/-- awardingbody ratio.Apportion$1 -/
noncomputable def ratio_Apportion_f1 (i : Int) (j : Int) (c : Int) (c_1 : List Int) (c_2 : Int) : Option Int :=
  req ((0 ≤ j ∧ j < (c_1.length : Int)) ∧ c_2 ≠ 0 ∧ (0 ≤ i ∧ i < (c_1.length : Int))) <|
  (cmp_Compare_int (Int.tmod (IntKind.i64.wrap (c * (ix c_1 j))) c_2) (Int.tmod (IntKind.i64.wrap (c * (ix c_1 i))) c_2)).bind fun y =>
  some y
/-- slices.insertionSortCmpFunc[int] -/
noncomputable def slices_insertionSortCmpFunc_int_ratio_Apportion_f1_j1 (i : Int) (data3 : List Int) : Option ((Int × (List Int)) ⊕ (List Int)) :=
  some (.inl ((IntKind.i64.wrap (i + (1 : Int))), data3))
noncomputable def slices_insertionSortCmpFunc_int_ratio_Apportion_f1_l2 (a : Int) (cmp_c : Int) (cmp_c_1 : List Int) (cmp_c_2 : Int) : (Int × (List Int)) → Option ((Int × (List Int)) ⊕ (List Int)) :=
  fun (j, data4) =>
    req (((decide (a < j)) = true → 0 ≤ j ∧ j < (data4.length : Int)) ∧ ((decide (a < j)) = true → 0 ≤ (IntKind.i64.wrap (j - (1 : Int))) ∧ (IntKind.i64.wrap (j - (1 : Int))) < (data4.length : Int))) <|
    bif (decide (a < j)) then
      (ratio_Apportion_f1 (ix data4 j) (ix data4 (IntKind.i64.wrap (j - (1 : Int)))) cmp_c cmp_c_1 cmp_c_2).bind fun y =>
      bif (decide (y < (0 : Int))) then
        req ((0 ≤ (IntKind.i64.wrap (j - (1 : Int))) ∧ (IntKind.i64.wrap (j - (1 : Int))) < (data4.length : Int)) ∧ (0 ≤ j ∧ j < (data4.length : Int))) <|
        bindV (setI (setI data4 j (ix data4 (IntKind.i64.wrap (j - (1 : Int))))) (IntKind.i64.wrap (j - (1 : Int))) (ix data4 j)) fun data6 =>
        some (.inl ((IntKind.i64.wrap (j - (1 : Int))), data6))
      else
        some (.inr data4)
    else
      some (.inr data4)
noncomputable def slices_insertionSortCmpFunc_int_ratio_Apportion_f1_l3 (a : Int) (b : Int) (cmp_c : Int) (cmp_c_1 : List Int) (cmp_c_2 : Int) : (Int × (List Int)) → Option ((Int × (List Int)) ⊕ (List Int)) :=
  fun (i, data1) =>
    bif (decide (i < b)) then
      (iter (slices_insertionSortCmpFunc_int_ratio_Apportion_f1_l2 a cmp_c cmp_c_1 cmp_c_2) (i, data1)).bind fun data5 =>
      slices_insertionSortCmpFunc_int_ratio_Apportion_f1_j1 i data5
    else
      some (.inr data1)
noncomputable def slices_insertionSortCmpFunc_int_ratio_Apportion_f1 (data : List Int) (a : Int) (b : Int) (cmp_c : Int) (cmp_c_1 : List Int) (cmp_c_2 : Int) : Option (List Int) :=
  (iter (slices_insertionSortCmpFunc_int_ratio_Apportion_f1_l3 a b cmp_c cmp_c_1 cmp_c_2) ((IntKind.i64.wrap (a + (1 : Int))), data)).bind fun data2 =>
  some data2
/-- slices.swapRangeCmpFunc[int] -/
noncomputable def slices_swapRangeCmpFunc_int_ratio_Apportion_f1_l1 (a : Int) (b : Int) (n : Int) : (Int × (List Int)) → Option ((Int × (List Int)) ⊕ (List Int)) :=
  fun (i, data1) =>
    bif (decide (i < n)) then
      req ((0 ≤ (IntKind.i64.wrap (b + i)) ∧ (IntKind.i64.wrap (b + i)) < (data1.length : Int)) ∧ (0 ≤ (IntKind.i64.wrap (a + i)) ∧ (IntKind.i64.wrap (a + i)) < (data1.length : Int))) <|
      bindV (setI (setI data1 (IntKind.i64.wrap (a + i)) (ix data1 (IntKind.i64.wrap (b + i)))) (IntKind.i64.wrap (b + i)) (ix data1 (IntKind.i64.wrap (a + i)))) fun data3 =>
      some (.inl ((IntKind.i64.wrap (i + (1 : Int))), data3))
    else
      some (.inr data1)
noncomputable def slices_swapRangeCmpFunc_int_ratio_Apportion_f1 (data : List Int) (a : Int) (b : Int) (n : Int) (cmp_c : Int) (cmp_c_1 : List Int) (cmp_c_2 : Int) : Option (List Int) :=
  (iter (slices_swapRangeCmpFunc_int_ratio_Apportion_f1_l1 a b n) ((0 : Int), data)).bind fun data2 =>
  some data2
/-- slices.rotateCmpFunc[int] -/
noncomputable def slices_rotateCmpFunc_int_ratio_Apportion_f1_j1 (m : Int) (cmp_c : Int) (cmp_c_1 : List Int) (cmp_c_2 : Int) (i : Int) (data1 : List Int) : Option (List Int) :=
  (slices_swapRangeCmpFunc_int_ratio_Apportion_f1 data1 (IntKind.i64.wrap (m - i)) m i cmp_c cmp_c_1 cmp_c_2).bind fun y =>
  req (y.length = data1.length) <|
  some y
noncomputable def slices_rotateCmpFunc_int_ratio_Apportion_f1_l2 (m : Int) (cmp_c : Int) (cmp_c_1 : List Int) (cmp_c_2 : Int) : (Int × Int × (List Int)) → Option ((Int × Int × (List Int)) ⊕ (Int × (List Int))) :=
  fun (i1, j, data2) =>
    bif (i1 != j) then
      bif (decide (j < i1)) then
        (slices_swapRangeCmpFunc_int_ratio_Apportion_f1 data2 (IntKind.i64.wrap (m - i1)) m j cmp_c cmp_c_1 cmp_c_2).bind fun y1 =>
        req (y1.length = data2.length) <|
        some (.inl ((IntKind.i64.wrap (i1 - j)), j, y1))
      else
        (slices_swapRangeCmpFunc_int_ratio_Apportion_f1 data2 (IntKind.i64.wrap (m - i1)) (IntKind.i64.wrap ((IntKind.i64.wrap (m + j)) - i1)) i1 cmp_c cmp_c_1 cmp_c_2).bind fun y2 =>
        req (y2.length = data2.length) <|
        some (.inl (i1, (IntKind.i64.wrap (j - i1)), y2))
    else
      some (.inr (i1, data2))
noncomputable def slices_rotateCmpFunc_int_ratio_Apportion_f1 (data : List Int) (a : Int) (m : Int) (b : Int) (cmp_c : Int) (cmp_c_1 : List Int) (cmp_c_2 : Int) : Option (List Int) :=
  (iter (slices_rotateCmpFunc_int_ratio_Apportion_f1_l2 m cmp_c cmp_c_1 cmp_c_2) ((IntKind.i64.wrap (m - a)), (IntKind.i64.wrap (b - m)), data)).bind fun (i2, data3) =>
  slices_rotateCmpFunc_int_ratio_Apportion_f1_j1 m cmp_c cmp_c_1 cmp_c_2 i2 data3
/-- slices.symMergeCmpFunc[int] -/
noncomputable def slices_symMergeCmpFunc_int_ratio_Apportion_f1 (data : List Int) (a : Int) (m : Int) (b : Int) (cmp_c : Int) (cmp_c_1 : List Int) (cmp_c_2 : Int) : Option ((List Int) × Int × (List Int) × Int) := none
/-- slices.stableCmpFunc[int] -/
noncomputable def slices_stableCmpFunc_int_ratio_Apportion_f1_j1 (blockSize : Int) (data5 : List Int) (cmp_c4 : Int) (cmp_c_14 : List Int) (cmp_c_24 : Int) : Option ((Int × (List Int) × Int × (List Int) × Int) ⊕ ((List Int) × Int × (List Int) × Int)) :=
  some (.inl ((IntKind.i64.wrap (blockSize * (2 : Int))), data5, cmp_c4, cmp_c_14, cmp_c_24))
noncomputable def slices_stableCmpFunc_int_ratio_Apportion_f1_j2 (n : Int) (blockSize : Int) (a1 : Int) (data4 : List Int) (cmp_c3 : Int) (cmp_c_13 : List Int) (cmp_c_23 : Int) : Option ((Int × (List Int) × Int × (List Int) × Int) ⊕ ((List Int) × Int × (List Int) × Int)) :=
  bif (decide ((IntKind.i64.wrap (a1 + blockSize)) < n)) then
    (slices_symMergeCmpFunc_int_ratio_Apportion_f1 data4 a1 (IntKind.i64.wrap (a1 + blockSize)) n cmp_c3 cmp_c_13 cmp_c_23).bind fun (y1, y2, y3, y4) =>
    req (y1.length = data4.length) <|
    slices_stableCmpFunc_int_ratio_Apportion_f1_j1 blockSize y1 y2 y3 y4
  else
    slices_stableCmpFunc_int_ratio_Apportion_f1_j1 blockSize data4 cmp_c3 cmp_c_13 cmp_c_23
noncomputable def slices_stableCmpFunc_int_ratio_Apportion_f1_l3 (n : Int) (blockSize : Int) : (Int × Int × (List Int) × Int × (List Int) × Int) → Option ((Int × Int × (List Int) × Int × (List Int) × Int) ⊕ (Int × (List Int) × Int × (List Int) × Int)) :=
  fun (a2, b, data6, cmp_c5, cmp_c_15, cmp_c_25) =>
    bif (decide (b ≤ n)) then
      (slices_symMergeCmpFunc_int_ratio_Apportion_f1 data6 a2 (IntKind.i64.wrap (a2 + blockSize)) b cmp_c5 cmp_c_15 cmp_c_25).bind fun (y5, y6, y7, y8) =>
      req (y5.length = data6.length) <|
      some (.inl (b, (IntKind.i64.wrap (b + (IntKind.i64.wrap ((2 : Int) * blockSize)))), y5, y6, y7, y8))
    else
      some (.inr (a2, data6, cmp_c5, cmp_c_15, cmp_c_25))
noncomputable def slices_stableCmpFunc_int_ratio_Apportion_f1_l4 (n : Int) : (Int × (List Int) × Int × (List Int) × Int) → Option ((Int × (List Int) × Int × (List Int) × Int) ⊕ ((List Int) × Int × (List Int) × Int)) :=
  fun (blockSize, data2, cmp_c1, cmp_c_11, cmp_c_21) =>
    bif (decide (blockSize < n)) then
      (iter (slices_stableCmpFunc_int_ratio_Apportion_f1_l3 n blockSize) ((0 : Int), (IntKind.i64.wrap ((2 : Int) * blockSize)), data2, cmp_c1, cmp_c_11, cmp_c_21)).bind fun (a3, data7, cmp_c6, cmp_c_16, cmp_c_26) =>
      slices_stableCmpFunc_int_ratio_Apportion_f1_j2 n blockSize a3 data7 cmp_c6 cmp_c_16 cmp_c_26
    else
      some (.inr (data2, cmp_c1, cmp_c_11, cmp_c_21))
noncomputable def slices_stableCmpFunc_int_ratio_Apportion_f1_j5 (n : Int) (cmp_c : Int) (cmp_c_1 : List Int) (cmp_c_2 : Int) (a : Int) (data1 : List Int) : Option ((List Int) × Int × (List Int) × Int) :=
  (slices_insertionSortCmpFunc_int_ratio_Apportion_f1 data1 a n cmp_c cmp_c_1 cmp_c_2).bind fun y =>
  req (y.length = data1.length) <|
  (iter (slices_stableCmpFunc_int_ratio_Apportion_f1_l4 n) ((20 : Int), y, cmp_c, cmp_c_1, cmp_c_2)).bind fun (data3, cmp_c2, cmp_c_12, cmp_c_22) =>
  some (data3, cmp_c2, cmp_c_12, cmp_c_22)
noncomputable def slices_stableCmpFunc_int_ratio_Apportion_f1_l6 (n : Int) (cmp_c : Int) (cmp_c_1 : List Int) (cmp_c_2 : Int) : (Int × Int × (List Int)) → Option ((Int × Int × (List Int)) ⊕ (Int × (List Int))) :=
  fun (a4, b1, data8) =>
    bif (decide (b1 ≤ n)) then
      (slices_insertionSortCmpFunc_int_ratio_Apportion_f1 data8 a4 b1 cmp_c cmp_c_1 cmp_c_2).bind fun y9 =>
      req (y9.length = data8.length) <|
      some (.inl (b1, (IntKind.i64.wrap (b1 + (20 : Int))), y9))
    else
      some (.inr (a4, data8))
noncomputable def slices_stableCmpFunc_int_ratio_Apportion_f1 (data : List Int) (n : Int) (cmp_c : Int) (cmp_c_1 : List Int) (cmp_c_2 : Int) : Option ((List Int) × Int × (List Int) × Int) :=
  (iter (slices_stableCmpFunc_int_ratio_Apportion_f1_l6 n cmp_c cmp_c_1 cmp_c_2) ((0 : Int), (20 : Int), data)).bind fun (a5, data9) =>
  slices_stableCmpFunc_int_ratio_Apportion_f1_j5 n cmp_c cmp_c_1 cmp_c_2 a5 data9
/-- slices.SortStableFunc[[]int,int] -/
noncomputable def slices_SortStableFunc_intint_ratio_Apportion_f1 (x : List Int) (cmp_c : Int) (cmp_c_1 : List Int) (cmp_c_2 : Int) : Option ((List Int) × Int × (List Int) × Int) :=
  (slices_stableCmpFunc_int_ratio_Apportion_f1 x (x.length : Int) cmp_c cmp_c_1 cmp_c_2).bind fun (y, y1, y2, y3) =>
  req (y.length = x.length) <|
  some (y, y1, y2, y3)
end Go.LS
