/-
  Plain functions that the program's functions compute. No condition: definitions, printed by dec.py.
-/
import Derived.Test.YtncjhljkjgejlaaD3
namespace Go.LS
set_option linter.all false
set_option linter.unusedSimpArgs false
set_option linter.unusedVariables false
set_option maxRecDepth 20000

/-- awardingbody ratio.Compare -/
noncomputable def ratio_Compare (a : api_Ratio) (b : api_Ratio) : Option Int :=
  (ratio_Valid a).bind fun y =>
  req (((!(!y)) = true → (ratio_Valid b).isSome = true)) <|
  bif ((!y) || (!((ratio_Valid b).getD default))) then
    some (0 : Int)
  else
    (ratio_signedProduct a.Num (IntKind.u64.wrap b.Den)).bind fun y1 =>
    (ratio_signedProduct b.Num (IntKind.u64.wrap a.Den)).bind fun y2 =>
    bif (y1.neg && y2.neg) then
      (ratio_wide_compare y2.abs y1.abs).bind fun y3 =>
      some y3
    else
      bif y1.neg then
        some (-1 : Int)
      else
        bif y2.neg then
          some (1 : Int)
        else
          (ratio_wide_compare y1.abs y2.abs).bind fun y4 =>
          some y4
/-- awardingbody awardingbodyref01.Plus -/
noncomputable def ref01_Plus (a : ref01_Wide) (b : ref01_Wide) : Option ref01_Wide :=
  (bits_Add64 a.Lo b.Lo (0 : Int)).bind fun (y, y1) =>
  (bits_Add64 a.Hi b.Hi y1).bind fun (y2, y3) =>
  some (ref01_Wide.mk y2 y)
/-- awardingbody awardingbodyref01.total -/
noncomputable def ref01_total (x : Bool) (a : ref01_Wide) (y : Bool) (b : ref01_Wide) : Option (Bool × ref01_Wide) :=
  bif (x == y) then
    (ref01_Plus a b).bind fun y1 =>
    some (x, y1)
  else
    (ref01_Order a b).bind fun y2 =>
    bif (decide ((0 : Int) ≤ y2)) then
      (ref01_Minus a b).bind fun y3 =>
      some (x, y3)
    else
      (ref01_Minus b a).bind fun y4 =>
      some (y, y4)
/-- awardingbody awardingbodyref01.Compare -/
noncomputable def ref01_Compare (a : api_Ratio) (b : api_Ratio) : Option Int :=
  (ref01_Valid a).bind fun y =>
  req (((!(!y)) = true → (ref01_Valid b).isSome = true)) <|
  bif ((!y) || (!((ref01_Valid b).getD default))) then
    some (0 : Int)
  else
    (ref01_Size a.Num).bind fun y1 =>
    (ref01_Size b.Den).bind fun y2 =>
    (ref01_Product y1 y2).bind fun y3 =>
    (ref01_Size b.Num).bind fun y4 =>
    (ref01_Size a.Den).bind fun y5 =>
    (ref01_Product y4 y5).bind fun y6 =>
    (ref01_total (decide (a.Num < (0 : Int))) y3 (decide ((0 : Int) < b.Num)) y6).bind fun (y7, y8) =>
    bif ((y8.Hi == (0 : Int)) && (y8.Lo == (0 : Int))) then
      some (0 : Int)
    else
      bif y7 then
        some (-1 : Int)
      else
        some (1 : Int)
/-- awardingbody ratio.Less -/
noncomputable def ratio_Less (a : api_Ratio) (b : api_Ratio) : Option Bool :=
  (ratio_Compare a b).bind fun y =>
  some (y == (-1 : Int))
/-- awardingbody awardingbodyref01.Less -/
noncomputable def ref01_Less (a : api_Ratio) (b : api_Ratio) : Option Bool :=
  (ref01_Compare a b).bind fun y =>
  some (decide (y < (0 : Int)))
/-- awardingbody awardingbodylaw01.RatioCompares -/
noncomputable def law01_RatioCompares (a : Int) (b : Int) (c : Int) (d : Int) : Option Bool :=
  (ratio_Compare (api_Ratio.mk a b) (api_Ratio.mk c d)).bind fun y =>
  (ref01_Compare (api_Ratio.mk a b) (api_Ratio.mk c d)).bind fun y1 =>
  req (((y == y1) = true → (ratio_Less (api_Ratio.mk a b) (api_Ratio.mk c d)).isSome = true) ∧ ((y == y1) = true → (ref01_Less (api_Ratio.mk a b) (api_Ratio.mk c d)).isSome = true) ∧ (((y == y1) && (((ratio_Less (api_Ratio.mk a b) (api_Ratio.mk c d)).getD default) == ((ref01_Less (api_Ratio.mk a b) (api_Ratio.mk c d)).getD default))) = true → (law01_awake).isSome = true)) <|
  some (((y == y1) && (((ratio_Less (api_Ratio.mk a b) (api_Ratio.mk c d)).getD default) == ((ref01_Less (api_Ratio.mk a b) (api_Ratio.mk c d)).getD default))) && ((law01_awake).getD default))
/-- (awardingbody ratio.wide).plus -/
noncomputable def ratio_wide_plus (a : ratio_wide) (b : ratio_wide) : Option ratio_wide :=
  (bits_Add64 a.lo b.lo (0 : Int)).bind fun (y, y1) =>
  (bits_Add64 a.hi b.hi y1).bind fun (y2, y3) =>
  some (ratio_wide.mk y2 y)
/-- (awardingbody ratio.wide).minus -/
noncomputable def ratio_wide_minus (a : ratio_wide) (b : ratio_wide) : Option ratio_wide :=
  (bits_Sub64 a.lo b.lo (0 : Int)).bind fun (y, y1) =>
  (bits_Sub64 a.hi b.hi y1).bind fun (y2, y3) =>
  some (ratio_wide.mk y2 y)
/-- (awardingbody ratio.signed).plus -/
noncomputable def ratio_signed_plus (a : ratio_signed) (b : ratio_signed) : Option ratio_signed :=
  bif (a.neg == b.neg) then
    (ratio_wide_plus a.abs b.abs).bind fun y =>
    some (ratio_signed.mk a.neg y)
  else
    (ratio_wide_compare a.abs b.abs).bind fun y1 =>
    bif (decide ((0 : Int) ≤ y1)) then
      (ratio_wide_minus a.abs b.abs).bind fun y2 =>
      some (ratio_signed.mk a.neg y2)
    else
      (ratio_wide_minus b.abs a.abs).bind fun y3 =>
      some (ratio_signed.mk b.neg y3)
/-- awardingbody ratio.Add -/
noncomputable def ratio_Add (a : api_Ratio) (b : api_Ratio) : Option (api_Ratio × Int) :=
  (ratio_Valid a).bind fun y =>
  req (((!(!y)) = true → (ratio_Valid b).isSome = true)) <|
  bif ((!y) || (!((ratio_Valid b).getD default))) then
    some ((api_Ratio.mk (0 : Int) (0 : Int)), (1 : Int))
  else
    (ratio_gcd (IntKind.u64.wrap a.Den) (IntKind.u64.wrap b.Den)).bind fun y1 =>
    req (y1 ≠ 0) <|
    (ratio_signedProduct a.Num (IntKind.u64.wrap (Int.tdiv (IntKind.u64.wrap b.Den) y1))).bind fun y2 =>
    req (y1 ≠ 0) <|
    (ratio_signedProduct b.Num (IntKind.u64.wrap (Int.tdiv (IntKind.u64.wrap a.Den) y1))).bind fun y3 =>
    (ratio_signed_plus y2 y3).bind fun y4 =>
    (ratio_wide_mod y4.abs y1).bind fun y5 =>
    (ratio_gcd y5 y1).bind fun y6 =>
    (ratio_wide_over y4.abs y6).bind fun y7 =>
    req (y1 ≠ 0 ∧ y6 ≠ 0) <|
    (ratio_product (IntKind.u64.wrap (Int.tdiv (IntKind.u64.wrap a.Den) y1)) (IntKind.u64.wrap (Int.tdiv (IntKind.u64.wrap b.Den) y6))).bind fun y8 =>
    (ratio_fitted y4.neg y7 y8).bind fun (y9, y10) =>
    some (y9, y10)
/-- awardingbody awardingbodyref01.Add -/
noncomputable def ref01_Add (a : api_Ratio) (b : api_Ratio) : Option (api_Ratio × Int) :=
  (ref01_Valid a).bind fun y =>
  req (((!(!y)) = true → (ref01_Valid b).isSome = true)) <|
  bif ((!y) || (!((ref01_Valid b).getD default))) then
    some ((api_Ratio.mk (0 : Int) (0 : Int)), (1 : Int))
  else
    (ref01_Size a.Num).bind fun y1 =>
    (ref01_Size b.Den).bind fun y2 =>
    (ref01_Product y1 y2).bind fun y3 =>
    (ref01_Size b.Num).bind fun y4 =>
    (ref01_Size a.Den).bind fun y5 =>
    (ref01_Product y4 y5).bind fun y6 =>
    (ref01_total (decide (a.Num < (0 : Int))) y3 (decide (b.Num < (0 : Int))) y6).bind fun (y7, y8) =>
    (ref01_Size a.Den).bind fun y9 =>
    (ref01_Size b.Den).bind fun y10 =>
    (ref01_Product y9 y10).bind fun y11 =>
    (ref01_Reduce y7 y8 y11).bind fun (y12, y13) =>
    some (y12, y13)
/-- awardingbody ratio.Sub -/
noncomputable def ratio_Sub (a : api_Ratio) (b : api_Ratio) : Option (api_Ratio × Int) :=
  (ratio_Valid a).bind fun y =>
  req (((!(!y)) = true → (ratio_Valid b).isSome = true)) <|
  bif ((!y) || (!((ratio_Valid b).getD default))) then
    some ((api_Ratio.mk (0 : Int) (0 : Int)), (1 : Int))
  else
    (ratio_Add a (api_Ratio.mk (IntKind.i64.wrap (0 - b.Num)) b.Den)).bind fun (y1, y2) =>
    some (y1, y2)
/-- awardingbody awardingbodyref01.Sub -/
noncomputable def ref01_Sub (a : api_Ratio) (b : api_Ratio) : Option (api_Ratio × Int) :=
  (ref01_Valid a).bind fun y =>
  req (((!(!y)) = true → (ref01_Valid b).isSome = true)) <|
  bif ((!y) || (!((ref01_Valid b).getD default))) then
    some ((api_Ratio.mk (0 : Int) (0 : Int)), (1 : Int))
  else
    (ref01_Add a (api_Ratio.mk (IntKind.i64.wrap (0 - b.Num)) b.Den)).bind fun (y1, y2) =>
    some (y1, y2)
/-- awardingbody awardingbodylaw01.RatioAdds -/
noncomputable def law01_RatioAdds (t : List Int) : Option Bool :=
  (make_New t).bind fun y =>
  (make_Tape_Loose y).bind fun (y1, y2) =>
  (make_Tape_Loose y2).bind fun (y3, y4) =>
  (ratio_Add y1 y3).bind fun (y5, y6) =>
  (ref01_Add y1 y3).bind fun (y7, y8) =>
  (ratio_Sub y1 y3).bind fun (y9, y10) =>
  (ref01_Sub y1 y3).bind fun (y11, y12) =>
  req (((((((y5.Num == y7.Num) && (y5.Den == y7.Den)) && (y6 == y8)) && ((y9.Num == y11.Num) && (y9.Den == y11.Den))) && (y10 == y12)) = true → (law01_awake).isSome = true)) <|
  some ((((((y5.Num == y7.Num) && (y5.Den == y7.Den)) && (y6 == y8)) && ((y9.Num == y11.Num) && (y9.Den == y11.Den))) && (y10 == y12)) && ((law01_awake).getD default))
/-- (ptr awardingbody awardingbodymake.Tape).Small -/
noncomputable def make_Tape_Small (t : make_Tape) : Option (api_Ratio × make_Tape) :=
  (make_Tape_Range t (-30 : Int) (30 : Int)).bind fun (y, y1) =>
  (make_Tape_Range y1 (1 : Int) (12 : Int)).bind fun (y2, y3) =>
  (ref01_New y y2).bind fun (y4, y5) =>
  some (y4, y3)
/-- awardingbody awardingbodylaw01.list -/
noncomputable def law01_list_j1 (s1 : List Int) (s2 : Int) (out : List api_Ratio) : Option ((List api_Ratio) × make_Tape) :=
  some (out, (make_Tape.mk s1 s2))
noncomputable def law01_list_j2 (i : Int) (s7 : List Int) (s8 : Int) (out3 : List api_Ratio) : Option ((Int × (List Int) × Int × (List api_Ratio)) ⊕ ((List Int) × Int × (List api_Ratio))) :=
  some (.inl ((IntKind.i64.wrap (i - (1 : Int))), s7, s8, out3))
noncomputable def law01_list_l3 (loose : Bool) : (Int × (List Int) × Int × (List api_Ratio)) → Option ((Int × (List Int) × Int × (List api_Ratio)) ⊕ ((List Int) × Int × (List api_Ratio))) :=
  fun (i, s3, s4, out1) =>
    bif (decide ((0 : Int) < i)) then
      bif loose then
        (make_Tape_One (make_Tape.mk s3 s4) (6 : Int)).bind fun (y2, y3) =>
        bif y2 then
          (make_Tape_Loose y3).bind fun (y4, y5) =>
          req ((out1.length + ([y4]).length) * 16 ≤ 140737488355328) <|
          law01_list_j2 i y5.L y5.At (out1 ++ [y4])
        else
          (make_Tape_Next y3 (2 : Int)).bind fun (y6, y7) =>
          bif (y6 == (0 : Int)) then
            (make_Tape_Small y7).bind fun (y8, y9) =>
            req ((out1.length + ([y8]).length) * 16 ≤ 140737488355328) <|
            law01_list_j2 i y9.L y9.At (out1 ++ [y8])
          else
            (make_Tape_Ratio y7).bind fun (y10, y11) =>
            req ((out1.length + ([y10]).length) * 16 ≤ 140737488355328) <|
            law01_list_j2 i y11.L y11.At (out1 ++ [y10])
      else
        (make_Tape_Next (make_Tape.mk s3 s4) (2 : Int)).bind fun (y14, y15) =>
        bif (y14 == (0 : Int)) then
          (make_Tape_Small y15).bind fun (y16, y17) =>
          req ((out1.length + ([y16]).length) * 16 ≤ 140737488355328) <|
          law01_list_j2 i y17.L y17.At (out1 ++ [y16])
        else
          (make_Tape_Ratio y15).bind fun (y18, y19) =>
          req ((out1.length + ([y18]).length) * 16 ≤ 140737488355328) <|
          law01_list_j2 i y19.L y19.At (out1 ++ [y18])
    else
      some (.inr (s3, s4, out1))
noncomputable def law01_list (s : make_Tape) (loose : Bool) : Option ((List api_Ratio) × make_Tape) :=
  (make_Tape_Next s (7 : Int)).bind fun (y, y1) =>
  (iter (law01_list_l3 loose) (y, y1.L, y1.At, ([] : List api_Ratio))).bind fun (s5, s6, out2) =>
  law01_list_j1 s5 s6 out2
/-- awardingbody ratio.Sum -/
noncomputable def ratio_Sum_j1 (common : Int) (sum : Bool) (sum1 : Int) (sum2 : Int) : Option (api_Ratio × Int) :=
  (ratio_reduced (ratio_signed.mk sum (ratio_wide.mk sum1 sum2)) common).bind fun (y, y1) =>
  some (y, y1)
noncomputable def ratio_Sum_l2 (l : List api_Ratio) (common : Int) : (Int × Bool × Int × Int) → Option ((Int × Bool × Int × Int) ⊕ (Bool × Int × Int)) :=
  fun (v, sum3, sum4, sum5) =>
    bif (decide (v < (l.length : Int))) then
      req ((0 ≤ v ∧ v < (l.length : Int))) <|
      req ((IntKind.u64.wrap ((ix l v).Den)) ≠ 0) <|
      (ratio_signedProduct ((ix l v).Num) (IntKind.u64.wrap (Int.tdiv common (IntKind.u64.wrap ((ix l v).Den))))).bind fun y2 =>
      (ratio_signed_plus (ratio_signed.mk sum3 (ratio_wide.mk sum4 sum5)) y2).bind fun y3 =>
      some (.inl ((IntKind.i64.wrap (v + (1 : Int))), y3.neg, y3.abs.hi, y3.abs.lo))
    else
      some (.inr (sum3, sum4, sum5))
noncomputable def ratio_Sum_j3 (l : List api_Ratio) (common : Int) : Option (api_Ratio × Int) :=
  (iter (ratio_Sum_l2 l common) ((0 : Int), false, (0 : Int), (0 : Int))).bind fun (sum6, sum7, sum8) =>
  ratio_Sum_j1 common sum6 sum7 sum8
noncomputable def ratio_Sum_l4 (l : List api_Ratio) : (Int × Int) → Option ((Int × Int) ⊕ (Int ⊕ (api_Ratio × Int))) :=
  fun (common1, v1) =>
    bif (decide (v1 < (l.length : Int))) then
      req ((0 ≤ v1 ∧ v1 < (l.length : Int))) <|
      (ratio_gcd common1 (IntKind.u64.wrap ((ix l v1).Den))).bind fun y4 =>
      req (y4 ≠ 0) <|
      (ratio_product common1 (IntKind.u64.wrap (Int.tdiv (IntKind.u64.wrap ((ix l v1).Den)) y4))).bind fun y5 =>
      bif ((y5.hi != (0 : Int)) || (decide ((1152921504606846976 : Int) < y5.lo))) then
        some (.inr (.inr ((api_Ratio.mk (0 : Int) (0 : Int)), (6 : Int))))
      else
        some (.inl (y5.lo, (IntKind.i64.wrap (v1 + (1 : Int)))))
    else
      some (.inr (.inl common1))
noncomputable def ratio_Sum_j5 (l : List api_Ratio) : Option (api_Ratio × Int) :=
  (iter (ratio_Sum_l4 l) ((1 : Int), (0 : Int))).bind fun x_ =>
  match x_ with
  | .inl common2 => ratio_Sum_j3 l common2
  | .inr t_ => some t_
noncomputable def ratio_Sum_l6 (l : List api_Ratio) : Int → Option (Int ⊕ (Unit ⊕ (api_Ratio × Int))) :=
  fun v2 =>
    bif (decide (v2 < (l.length : Int))) then
      req ((0 ≤ v2 ∧ v2 < (l.length : Int))) <|
      (ratio_Valid (ix l v2)).bind fun y6 =>
      bif (!y6) then
        some (.inr (.inr ((api_Ratio.mk (0 : Int) (0 : Int)), (1 : Int))))
      else
        some (.inl (IntKind.i64.wrap (v2 + (1 : Int))))
    else
      some (.inr (.inl ()))
noncomputable def ratio_Sum (l : List api_Ratio) : Option (api_Ratio × Int) :=
  bif (decide ((100 : Int) < (l.length : Int))) then
    some ((api_Ratio.mk (0 : Int) (0 : Int)), (3 : Int))
  else
    (iter (ratio_Sum_l6 l) (0 : Int)).bind fun x_ =>
    match x_ with
    | .inl () => ratio_Sum_j5 l
    | .inr t_ => some t_
/-- awardingbody awardingbodyref01.Sum -/
noncomputable def ref01_Sum_j1 (common : Int) (common1 : Int) (s : Bool) (n : Int) (n1 : Int) : Option (api_Ratio × Int) :=
  (ref01_Reduce (s && (!((n == (0 : Int)) && (n1 == (0 : Int))))) (ref01_Wide.mk n n1) (ref01_Wide.mk common common1)).bind fun (y, y1) =>
  some (y, y1)
noncomputable def ref01_Sum_l2 (l : List api_Ratio) (common : Int) (common1 : Int) : (Bool × Int × Int × Int) → Option ((Bool × Int × Int × Int) ⊕ (Bool × Int × Int)) :=
  fun (s1, i, n2, n3) =>
    bif (decide (i < (l.length : Int))) then
      req ((0 ≤ i ∧ i < (l.length : Int))) <|
      (ref01_Size ((ix l i).Den)).bind fun y2 =>
      (ref01_Divide (ref01_Wide.mk common common1) (ref01_Wide.mk (0 : Int) y2)).bind fun (y3, y4) =>
      req ((0 ≤ i ∧ i < (l.length : Int))) <|
      (ref01_Size ((ix l i).Num)).bind fun y5 =>
      (ref01_Product y5 y3.Lo).bind fun y6 =>
      (ref01_total s1 (ref01_Wide.mk n2 n3) (decide ((ix l i).Num < (0 : Int))) y6).bind fun (y7, y8) =>
      some (.inl (y7, (IntKind.i64.wrap (i + (1 : Int))), y8.Hi, y8.Lo))
    else
      some (.inr (s1, n2, n3))
noncomputable def ref01_Sum_j3 (l : List api_Ratio) (common : Int) (common1 : Int) : Option (api_Ratio × Int) :=
  (iter (ref01_Sum_l2 l common common1) (false, (0 : Int), (0 : Int), (0 : Int))).bind fun (s2, n4, n5) =>
  ref01_Sum_j1 common common1 s2 n4 n5
noncomputable def ref01_Sum_l4 (l : List api_Ratio) : (Int × Int × Int) → Option ((Int × Int × Int) ⊕ ((Int × Int) ⊕ (api_Ratio × Int))) :=
  fun (i1, common2, common3) =>
    bif (decide (i1 < (l.length : Int))) then
      req ((0 ≤ i1 ∧ i1 < (l.length : Int))) <|
      (ref01_Size ((ix l i1).Den)).bind fun y9 =>
      (ref01_Divisor (ref01_Wide.mk common2 common3) (ref01_Wide.mk (0 : Int) y9)).bind fun y10 =>
      (ref01_Divide (ref01_Wide.mk (0 : Int) y9) y10).bind fun (y11, y12) =>
      (ref01_Product common3 y11.Lo).bind fun y13 =>
      bif ((decide ((0 : Int) < y13.Hi)) || (decide ((1152921504606846976 : Int) < y13.Lo))) then
        some (.inr (.inr ((api_Ratio.mk (0 : Int) (0 : Int)), (6 : Int))))
      else
        some (.inl ((IntKind.i64.wrap (i1 + (1 : Int))), y13.Hi, y13.Lo))
    else
      some (.inr (.inl (common2, common3)))
noncomputable def ref01_Sum_j5 (l : List api_Ratio) : Option (api_Ratio × Int) :=
  (iter (ref01_Sum_l4 l) ((0 : Int), (0 : Int), (1 : Int))).bind fun x_ =>
  match x_ with
  | .inl (common4, common5) => ref01_Sum_j3 l common4 common5
  | .inr t_ => some t_
noncomputable def ref01_Sum_l6 (l : List api_Ratio) : Int → Option (Int ⊕ (Unit ⊕ (api_Ratio × Int))) :=
  fun i2 =>
    bif (decide (i2 < (l.length : Int))) then
      req ((0 ≤ i2 ∧ i2 < (l.length : Int))) <|
      (ref01_Valid (ix l i2)).bind fun y14 =>
      bif (!y14) then
        some (.inr (.inr ((api_Ratio.mk (0 : Int) (0 : Int)), (1 : Int))))
      else
        some (.inl (IntKind.i64.wrap (i2 + (1 : Int))))
    else
      some (.inr (.inl ()))
noncomputable def ref01_Sum (l : List api_Ratio) : Option (api_Ratio × Int) :=
  bif (decide ((100 : Int) < (l.length : Int))) then
    some ((api_Ratio.mk (0 : Int) (0 : Int)), (3 : Int))
  else
    (iter (ref01_Sum_l6 l) (0 : Int)).bind fun x_ =>
    match x_ with
    | .inl () => ref01_Sum_j5 l
    | .inr t_ => some t_
/-- awardingbody awardingbodylaw01.RatioSums -/
noncomputable def law01_RatioSums (t : List Int) : Option Bool :=
  (make_New t).bind fun y =>
  (law01_list y true).bind fun (y1, y2) =>
  (ratio_Sum y1).bind fun (y3, y4) =>
  (ref01_Sum y1).bind fun (y5, y6) =>
  req (((((y3.Num == y5.Num) && (y3.Den == y5.Den)) && (y4 == y6)) = true → (law01_awake).isSome = true)) <|
  some ((((y3.Num == y5.Num) && (y3.Den == y5.Den)) && (y4 == y6)) && ((law01_awake).getD default))
/-- (ptr awardingbody awardingbodymake.Tape).Order -/
noncomputable def make_Tape_Order_j1 (out : List Int) (t1 : List Int) (t2 : Int) : Option ((List Int) × make_Tape) :=
  some (out, (make_Tape.mk t1 t2))
noncomputable def make_Tape_Order_l2 (n : Int) : ((List Int) × Int × (List Int) × Int) → Option (((List Int) × Int × (List Int) × Int) ⊕ ((List Int) × (List Int) × Int)) :=
  fun (out1, i, t3, t4) =>
    bif (decide (i < n)) then
      (make_Tape_Next (make_Tape.mk t3 t4) (IntKind.i64.wrap (i + (1 : Int)))).bind fun (y, y1) =>
      req ((0 ≤ y ∧ y ≤ (out1.length : Int)) ∧ (([] : List Int).length + (List.take y.toNat out1).length) * 8 ≤ 140737488355328) <|
      req (((([] : List Int) ++ (List.take y.toNat out1)).length + ([i]).length) * 8 ≤ 140737488355328) <|
      req ((0 ≤ y ∧ y ≤ (out1.length : Int)) ∧ (((([] : List Int) ++ (List.take y.toNat out1)) ++ [i]).length + (List.drop y.toNat out1).length) * 8 ≤ 140737488355328) <|
      bindV (((([] : List Int) ++ (List.take y.toNat out1)) ++ [i]) ++ (List.drop y.toNat out1)) fun next =>
      some (.inl (next, (IntKind.i64.wrap (i + (1 : Int))), y1.L, y1.At))
    else
      some (.inr (out1, t3, t4))
noncomputable def make_Tape_Order (t : make_Tape) (n : Int) : Option ((List Int) × make_Tape) :=
  (iter (make_Tape_Order_l2 n) (([] : List Int), (0 : Int), t.L, t.At)).bind fun (out2, t5, t6) =>
  make_Tape_Order_j1 out2 t5 t6
/-- awardingbody awardingbodylaw01.RatioSumsAnyOrder -/
noncomputable def law01_RatioSumsAnyOrder_j1 (y1 : List api_Ratio) (m : List api_Ratio) : Option Bool :=
  (ratio_Sum y1).bind fun (y5, y6) =>
  (ratio_Sum m).bind fun (y7, y8) =>
  req (((((y5.Num == y7.Num) && (y5.Den == y7.Den)) && (y6 == y8)) = true → (law01_awake).isSome = true)) <|
  some ((((y5.Num == y7.Num) && (y5.Den == y7.Den)) && (y6 == y8)) && ((law01_awake).getD default))
noncomputable def law01_RatioSumsAnyOrder_l2 (y1 : List api_Ratio) (y3 : List Int) : (Int × (List api_Ratio)) → Option ((Int × (List api_Ratio)) ⊕ (List api_Ratio)) :=
  fun (i, m1) =>
    bif (decide (i < (y3.length : Int))) then
      req ((0 ≤ i ∧ i < (y3.length : Int)) ∧ (0 ≤ (ix y3 i) ∧ (ix y3 i) < (y1.length : Int)) ∧ (m1.length + ([(ix y1 (ix y3 i))]).length) * 16 ≤ 140737488355328) <|
      some (.inl ((IntKind.i64.wrap (i + (1 : Int))), (m1 ++ [(ix y1 (ix y3 i))])))
    else
      some (.inr m1)
noncomputable def law01_RatioSumsAnyOrder (t : List Int) : Option Bool :=
  (make_New t).bind fun y =>
  (law01_list y true).bind fun (y1, y2) =>
  (make_Tape_Order y2 (y1.length : Int)).bind fun (y3, y4) =>
  (iter (law01_RatioSumsAnyOrder_l2 y1 y3) ((0 : Int), ([] : List api_Ratio))).bind fun m2 =>
  law01_RatioSumsAnyOrder_j1 y1 m2
/-- awardingbody awardingbodylaw01.RatioOrders -/
noncomputable def law01_RatioOrders (t : List Int) : Option Bool :=
  (make_New t).bind fun y =>
  (make_Tape_Ratio y).bind fun (y1, y2) =>
  (make_Tape_Ratio y2).bind fun (y3, y4) =>
  (make_Tape_Small y4).bind fun (y5, y6) =>
  (ratio_Compare y1 y3).bind fun y7 =>
  (ratio_Compare y3 y1).bind fun y8 =>
  req (((!(y7 != (IntKind.i64.wrap (0 - y8)))) = true → (ratio_Compare y1 y3).isSome = true)) <|
  bif ((y7 != (IntKind.i64.wrap (0 - y8))) || (!((((ratio_Compare y1 y3).getD default) == (0 : Int)) == ((y1.Num == y3.Num) && (y1.Den == y3.Den))))) then
    some false
  else
    (ratio_Compare y1 y3).bind fun y9 =>
    req (((decide (y9 ≤ (0 : Int))) = true → (ratio_Compare y3 y5).isSome = true) ∧ (((decide (y9 ≤ (0 : Int))) && (decide (((ratio_Compare y3 y5).getD default) ≤ (0 : Int)))) = true → (ratio_Compare y1 y5).isSome = true)) <|
    bif (((decide (y9 ≤ (0 : Int))) && (decide (((ratio_Compare y3 y5).getD default) ≤ (0 : Int)))) && (decide ((0 : Int) < ((ratio_Compare y1 y5).getD default)))) then
      some false
    else
      (ratio_Add y1 y5).bind fun (y10, y11) =>
      (ratio_Add y3 y5).bind fun (y12, y13) =>
      req (((!((y11 != (0 : Int)) || (y13 != (0 : Int)))) = true → (ratio_Compare y10 y12).isSome = true) ∧ ((!((y11 != (0 : Int)) || (y13 != (0 : Int)))) = true → (ratio_Compare y1 y3).isSome = true) ∧ ((((y11 != (0 : Int)) || (y13 != (0 : Int))) || (((ratio_Compare y10 y12).getD default) == ((ratio_Compare y1 y3).getD default))) = true → (law01_awake).isSome = true)) <|
      some ((((y11 != (0 : Int)) || (y13 != (0 : Int))) || (((ratio_Compare y10 y12).getD default) == ((ratio_Compare y1 y3).getD default))) && ((law01_awake).getD default))
end Go.LS
