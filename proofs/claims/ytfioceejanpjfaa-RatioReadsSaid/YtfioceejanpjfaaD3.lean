/-
  Plain functions that the program's functions compute. No condition: definitions, printed by dec.py.
-/
import Derived.Test.YtfioceejanpjfaaD2
namespace Go.LS
set_option linter.all false
set_option linter.unusedSimpArgs false
set_option linter.unusedVariables false
set_option maxRecDepth 20000

/-- awardingbody ratio.Add -/
noncomputable def ratio_Add (a : api_Ratio) (b : api_Ratio) : Option (api_Ratio × Int) :=
  (ratio_Valid a).bind fun y =>
  req (((!(!y)) = true → (ratio_Valid b).isSome = true)) <|
  bif ((!y) || (!((ratio_Valid b).getD default))) then
    some ((api_Ratio.mk (0 : Int) (0 : Int)), (1 : Int))
  else
    (ratio_gcd (IntKind.u64.wrap a.Den) (IntKind.u64.wrap b.Den)).bind fun y1 =>
    req (y1 ≠ 0) <|
    (ratio_signedProduct a.Num (IntKind.u64.wrap (Int.tdiv (IntKind.u64.wrap b.Den) y1))).bind fun y2 =>
    req (y1 ≠ 0) <|
    (ratio_signedProduct b.Num (IntKind.u64.wrap (Int.tdiv (IntKind.u64.wrap a.Den) y1))).bind fun y3 =>
    (ratio_signed_plus y2 y3).bind fun y4 =>
    (ratio_wide_mod y4.abs y1).bind fun y5 =>
    (ratio_gcd y5 y1).bind fun y6 =>
    (ratio_wide_over y4.abs y6).bind fun y7 =>
    req (y1 ≠ 0 ∧ y6 ≠ 0) <|
    (ratio_product (IntKind.u64.wrap (Int.tdiv (IntKind.u64.wrap a.Den) y1)) (IntKind.u64.wrap (Int.tdiv (IntKind.u64.wrap b.Den) y6))).bind fun y8 =>
    (ratio_fitted y4.neg y7 y8).bind fun (y9, y10) =>
    some (y9, y10)
/-- awardingbody ratio.Sub -/
noncomputable def ratio_Sub (a : api_Ratio) (b : api_Ratio) : Option (api_Ratio × Int) :=
  (ratio_Valid a).bind fun y =>
  req (((!(!y)) = true → (ratio_Valid b).isSome = true)) <|
  bif ((!y) || (!((ratio_Valid b).getD default))) then
    some ((api_Ratio.mk (0 : Int) (0 : Int)), (1 : Int))
  else
    (ratio_Add a (api_Ratio.mk (IntKind.i64.wrap (0 - b.Num)) b.Den)).bind fun (y1, y2) =>
    some (y1, y2)
/-- awardingbody ratio.Div -/
noncomputable def ratio_Div_j1 (a : api_Ratio) (inverse : Int) (inverse1 : Int) : Option (api_Ratio × Int) :=
  (ratio_Mul a (api_Ratio.mk inverse inverse1)).bind fun (y1, y2) =>
  some (y1, y2)
noncomputable def ratio_Div (a : api_Ratio) (b : api_Ratio) : Option (api_Ratio × Int) :=
  (ratio_Valid a).bind fun y =>
  req (((!(!y)) = true → (ratio_Valid b).isSome = true)) <|
  bif ((!y) || (!((ratio_Valid b).getD default))) then
    some ((api_Ratio.mk (0 : Int) (0 : Int)), (1 : Int))
  else
    bif (b.Num == (0 : Int)) then
      some ((api_Ratio.mk (0 : Int) (0 : Int)), (2 : Int))
    else
      bif (decide (b.Num < (0 : Int))) then
        ratio_Div_j1 a (IntKind.i64.wrap (0 - b.Den)) (IntKind.i64.wrap (0 - b.Num))
      else
        ratio_Div_j1 a b.Den b.Num
/-- awardingbody awardingbodylaw01.RatioField -/
noncomputable def law01_RatioField_j1 (y1 : api_Ratio) (y7 : api_Ratio) (y9 : api_Ratio) (y13 : api_Ratio) (y15 : api_Ratio) (y17 : api_Ratio) (y19 : api_Ratio) (y23 : api_Ratio) (y25 : api_Ratio) (y27 : api_Ratio) : Option Bool :=
  req ((((((((y7.Num == y9.Num) && (y7.Den == y9.Den)) && ((y13.Num == y15.Num) && (y13.Den == y15.Den))) && ((y17.Num == y19.Num) && (y17.Den == y19.Den))) && ((y23.Num == y25.Num) && (y23.Den == y25.Den))) && ((y27.Num == y1.Num) && (y27.Den == y1.Den))) = true → (law01_awake).isSome = true)) <|
  some (((((((y7.Num == y9.Num) && (y7.Den == y9.Den)) && ((y13.Num == y15.Num) && (y13.Den == y15.Den))) && ((y17.Num == y19.Num) && (y17.Den == y19.Den))) && ((y23.Num == y25.Num) && (y23.Den == y25.Den))) && ((y27.Num == y1.Num) && (y27.Den == y1.Den))) && ((law01_awake).getD default))
noncomputable def law01_RatioField (t : List Int) : Option Bool :=
  (make_New t).bind fun y =>
  (make_Tape_Small y).bind fun (y1, y2) =>
  (make_Tape_Small y2).bind fun (y3, y4) =>
  (make_Tape_Small y4).bind fun (y5, y6) =>
  (ratio_Add y1 y3).bind fun (y7, y8) =>
  (ratio_Add y3 y1).bind fun (y9, y10) =>
  (ratio_Add y3 y5).bind fun (y11, y12) =>
  (ratio_Add y7 y5).bind fun (y13, y14) =>
  (ratio_Add y1 y11).bind fun (y15, y16) =>
  (ratio_Mul y1 y3).bind fun (y17, y18) =>
  (ratio_Mul y3 y1).bind fun (y19, y20) =>
  (ratio_Mul y1 y5).bind fun (y21, y22) =>
  (ratio_Mul y1 y11).bind fun (y23, y24) =>
  (ratio_Add y17 y21).bind fun (y25, y26) =>
  (ratio_Sub y7 y3).bind fun (y27, y28) =>
  bif (((((((((((y8 != (0 : Int)) || (y10 != (0 : Int))) || (y12 != (0 : Int))) || (y14 != (0 : Int))) || (y16 != (0 : Int))) || (y18 != (0 : Int))) || (y20 != (0 : Int))) || (y22 != (0 : Int))) || (y24 != (0 : Int))) || (y26 != (0 : Int))) || (y28 != (0 : Int))) then
    some false
  else
    (ratio_Div y17 y3).bind fun (y29, y30) =>
    bif (y3.Num == (0 : Int)) then
      bif (y30 != (2 : Int)) then
        some false
      else
        law01_RatioField_j1 y1 y7 y9 y13 y15 y17 y19 y23 y25 y27
    else
      bif ((y30 != (0 : Int)) || (!((y29.Num == y1.Num) && (y29.Den == y1.Den)))) then
        some false
      else
        law01_RatioField_j1 y1 y7 y9 y13 y15 y17 y19 y23 y25 y27
/-- awardingbody ratio.toFloor -/
noncomputable def ratio_toFloor (floor : Int) (rest : Int) (den : Int) : Option Int :=
  some floor
/-- awardingbody ratio.rounded -/
noncomputable def ratio_rounded_ratio_toFloor_j1 (a : api_Ratio) (floor : Int) (rest : Int) : Option Int :=
  (ratio_toFloor floor rest a.Den).bind fun y1 =>
  some y1
noncomputable def ratio_rounded_ratio_toFloor (a : api_Ratio) : Option Int :=
  (ratio_Valid a).bind fun y =>
  bif (!y) then
    some (0 : Int)
  else
    req (a.Den ≠ 0) <|
    bif (decide ((Int.tmod a.Num a.Den) < (0 : Int))) then
      bindV (IntKind.i64.wrap ((IntKind.i64.wrap (Int.tdiv a.Num a.Den)) - (1 : Int))) fun floor1 =>
      ratio_rounded_ratio_toFloor_j1 a floor1 (IntKind.i64.wrap ((Int.tmod a.Num a.Den) + a.Den))
    else
      ratio_rounded_ratio_toFloor_j1 a (IntKind.i64.wrap (Int.tdiv a.Num a.Den)) (Int.tmod a.Num a.Den)
/-- awardingbody ratio.Floor -/
noncomputable def ratio_Floor (a : api_Ratio) : Option Int :=
  (ratio_rounded_ratio_toFloor a).bind fun y =>
  some y
/-- awardingbody ratio.Compare -/
noncomputable def ratio_Compare (a : api_Ratio) (b : api_Ratio) : Option Int :=
  (ratio_Valid a).bind fun y =>
  req (((!(!y)) = true → (ratio_Valid b).isSome = true)) <|
  bif ((!y) || (!((ratio_Valid b).getD default))) then
    some (0 : Int)
  else
    (ratio_signedProduct a.Num (IntKind.u64.wrap b.Den)).bind fun y1 =>
    (ratio_signedProduct b.Num (IntKind.u64.wrap a.Den)).bind fun y2 =>
    bif (y1.neg && y2.neg) then
      (ratio_wide_compare y2.abs y1.abs).bind fun y3 =>
      some y3
    else
      bif y1.neg then
        some (-1 : Int)
      else
        bif y2.neg then
          some (1 : Int)
        else
          (ratio_wide_compare y1.abs y2.abs).bind fun y4 =>
          some y4
/-- awardingbody ratio.Less -/
noncomputable def ratio_Less (a : api_Ratio) (b : api_Ratio) : Option Bool :=
  (ratio_Compare a b).bind fun y =>
  some (y == (-1 : Int))
/-- awardingbody ratio.toCeil -/
noncomputable def ratio_toCeil (floor : Int) (rest : Int) (den : Int) : Option Int :=
  bif (decide ((0 : Int) < rest)) then
    some (IntKind.i64.wrap (floor + (1 : Int)))
  else
    some floor
/-- awardingbody ratio.rounded -/
noncomputable def ratio_rounded_ratio_toCeil_j1 (a : api_Ratio) (floor : Int) (rest : Int) : Option Int :=
  (ratio_toCeil floor rest a.Den).bind fun y1 =>
  some y1
noncomputable def ratio_rounded_ratio_toCeil (a : api_Ratio) : Option Int :=
  (ratio_Valid a).bind fun y =>
  bif (!y) then
    some (0 : Int)
  else
    req (a.Den ≠ 0) <|
    bif (decide ((Int.tmod a.Num a.Den) < (0 : Int))) then
      bindV (IntKind.i64.wrap ((IntKind.i64.wrap (Int.tdiv a.Num a.Den)) - (1 : Int))) fun floor1 =>
      ratio_rounded_ratio_toCeil_j1 a floor1 (IntKind.i64.wrap ((Int.tmod a.Num a.Den) + a.Den))
    else
      ratio_rounded_ratio_toCeil_j1 a (IntKind.i64.wrap (Int.tdiv a.Num a.Den)) (Int.tmod a.Num a.Den)
/-- awardingbody ratio.Ceil -/
noncomputable def ratio_Ceil (a : api_Ratio) : Option Int :=
  (ratio_rounded_ratio_toCeil a).bind fun y =>
  some y
/-- awardingbody ratio.toRound -/
noncomputable def ratio_toRound (floor : Int) (rest : Int) (den : Int) : Option Int :=
  bif (decide ((IntKind.i64.wrap (den - rest)) ≤ rest)) then
    some (IntKind.i64.wrap (floor + (1 : Int)))
  else
    some floor
/-- awardingbody ratio.rounded -/
noncomputable def ratio_rounded_ratio_toRound_j1 (a : api_Ratio) (floor : Int) (rest : Int) : Option Int :=
  (ratio_toRound floor rest a.Den).bind fun y1 =>
  some y1
noncomputable def ratio_rounded_ratio_toRound (a : api_Ratio) : Option Int :=
  (ratio_Valid a).bind fun y =>
  bif (!y) then
    some (0 : Int)
  else
    req (a.Den ≠ 0) <|
    bif (decide ((Int.tmod a.Num a.Den) < (0 : Int))) then
      bindV (IntKind.i64.wrap ((IntKind.i64.wrap (Int.tdiv a.Num a.Den)) - (1 : Int))) fun floor1 =>
      ratio_rounded_ratio_toRound_j1 a floor1 (IntKind.i64.wrap ((Int.tmod a.Num a.Den) + a.Den))
    else
      ratio_rounded_ratio_toRound_j1 a (IntKind.i64.wrap (Int.tdiv a.Num a.Den)) (Int.tmod a.Num a.Den)
/-- awardingbody ratio.Round -/
noncomputable def ratio_Round (a : api_Ratio) : Option Int :=
  (ratio_rounded_ratio_toRound a).bind fun y =>
  some y
/-- awardingbody ratio.toEven -/
noncomputable def ratio_toEven (floor : Int) (rest : Int) (den : Int) : Option Int :=
  bif ((decide ((IntKind.i64.wrap (den - rest)) < rest)) || ((rest == (IntKind.i64.wrap (den - rest))) && ((Int.tmod floor (2 : Int)) != (0 : Int)))) then
    some (IntKind.i64.wrap (floor + (1 : Int)))
  else
    some floor
/-- awardingbody ratio.rounded -/
noncomputable def ratio_rounded_ratio_toEven_j1 (a : api_Ratio) (floor : Int) (rest : Int) : Option Int :=
  (ratio_toEven floor rest a.Den).bind fun y1 =>
  some y1
noncomputable def ratio_rounded_ratio_toEven (a : api_Ratio) : Option Int :=
  (ratio_Valid a).bind fun y =>
  bif (!y) then
    some (0 : Int)
  else
    req (a.Den ≠ 0) <|
    bif (decide ((Int.tmod a.Num a.Den) < (0 : Int))) then
      bindV (IntKind.i64.wrap ((IntKind.i64.wrap (Int.tdiv a.Num a.Den)) - (1 : Int))) fun floor1 =>
      ratio_rounded_ratio_toEven_j1 a floor1 (IntKind.i64.wrap ((Int.tmod a.Num a.Den) + a.Den))
    else
      ratio_rounded_ratio_toEven_j1 a (IntKind.i64.wrap (Int.tdiv a.Num a.Den)) (Int.tmod a.Num a.Den)
/-- awardingbody ratio.Even -/
noncomputable def ratio_Even (a : api_Ratio) : Option Int :=
  (ratio_rounded_ratio_toEven a).bind fun y =>
  some y
/-- awardingbody awardingbodylaw01.RatioNear -/
noncomputable def law01_RatioNear_j1 (y1 : api_Ratio) (y6 : api_Ratio) (up : Int) : Option Bool :=
  (ratio_Round y1).bind fun y9 =>
  bif (y9 != up) then
    some false
  else
    bif ((y6.Num == (1 : Int)) && (y6.Den == (2 : Int))) then
      (ratio_Even y1).bind fun y10 =>
      req ((((Int.tmod y10 (2 : Int)) == (0 : Int)) = true → (ratio_Even y1).isSome = true) ∧ ((((Int.tmod y10 (2 : Int)) == (0 : Int)) && (!(((ratio_Even y1).getD default) == up))) = true → (ratio_Even y1).isSome = true) ∧ ((((Int.tmod y10 (2 : Int)) == (0 : Int)) && ((((ratio_Even y1).getD default) == up) || (((ratio_Even y1).getD default) == (IntKind.i64.wrap (up - (1 : Int)))))) = true → (law01_awake).isSome = true)) <|
      some ((((Int.tmod y10 (2 : Int)) == (0 : Int)) && ((((ratio_Even y1).getD default) == up) || (((ratio_Even y1).getD default) == (IntKind.i64.wrap (up - (1 : Int)))))) && ((law01_awake).getD default))
    else
      (ratio_Even y1).bind fun y11 =>
      req (((y11 == up) = true → (law01_awake).isSome = true)) <|
      some ((y11 == up) && ((law01_awake).getD default))
noncomputable def law01_RatioNear (t : List Int) : Option Bool :=
  (make_New t).bind fun y =>
  (make_Tape_Small y).bind fun (y1, y2) =>
  (ratio_Floor y1).bind fun y3 =>
  (ratio_New y3 (1 : Int)).bind fun (y4, y5) =>
  (ratio_Sub y1 y4).bind fun (y6, y7) =>
  req (((!((y5 != (0 : Int)) || (y7 != (0 : Int)))) = true → (ratio_Less y6 (api_Ratio.mk (0 : Int) (1 : Int))).isSome = true) ∧ ((!(((y5 != (0 : Int)) || (y7 != (0 : Int))) || ((ratio_Less y6 (api_Ratio.mk (0 : Int) (1 : Int))).getD default))) = true → (ratio_Less y6 (api_Ratio.mk (1 : Int) (1 : Int))).isSome = true) ∧ ((!((((y5 != (0 : Int)) || (y7 != (0 : Int))) || ((ratio_Less y6 (api_Ratio.mk (0 : Int) (1 : Int))).getD default)) || (!((ratio_Less y6 (api_Ratio.mk (1 : Int) (1 : Int))).getD default)))) = true → (ratio_Ceil y1).isSome = true) ∧ ((!((((y5 != (0 : Int)) || (y7 != (0 : Int))) || ((ratio_Less y6 (api_Ratio.mk (0 : Int) (1 : Int))).getD default)) || (!((ratio_Less y6 (api_Ratio.mk (1 : Int) (1 : Int))).getD default)))) = true → (ratio_Floor (api_Ratio.mk (IntKind.i64.wrap (0 - y1.Num)) y1.Den)).isSome = true)) <|
  bif (((((y5 != (0 : Int)) || (y7 != (0 : Int))) || ((ratio_Less y6 (api_Ratio.mk (0 : Int) (1 : Int))).getD default)) || (!((ratio_Less y6 (api_Ratio.mk (1 : Int) (1 : Int))).getD default))) || (((ratio_Ceil y1).getD default) != (IntKind.i64.wrap (0 - ((ratio_Floor (api_Ratio.mk (IntKind.i64.wrap (0 - y1.Num)) y1.Den)).getD default))))) then
    some false
  else
    (ratio_Floor y1).bind fun y8 =>
    (ratio_Less y6 (api_Ratio.mk (1 : Int) (2 : Int))).bind fun y12 =>
    bif (!y12) then
      law01_RatioNear_j1 y1 y6 (IntKind.i64.wrap (y8 + (1 : Int)))
    else
      law01_RatioNear_j1 y1 y6 y8
/-- (ptr awardingbody awardingbodymake.Tape).Pick -/
noncomputable def make_Tape_Pick (t : make_Tape) (l : List Int) : Option (Int × make_Tape) :=
  (make_Tape_Next t (l.length : Int)).bind fun (y, y1) =>
  req ((0 ≤ y ∧ y < (l.length : Int))) <|
  some ((ix l y), y1)
/-- (ptr awardingbody awardingbodymake.Tape).More -/
noncomputable def make_Tape_More (t : make_Tape) : Option (Bool × make_Tape) :=
  some ((decide (t.At < (t.L.length : Int))), t)
/-- (ptr awardingbody awardingbodymake.Tape).One -/
noncomputable def make_Tape_One (t : make_Tape) (n : Int) : Option (Bool × make_Tape) :=
  (make_Tape_Next t n).bind fun (y, y1) =>
  some ((y == (IntKind.i64.wrap (n - (1 : Int)))), y1)
/-- awardingbody awardingbodylaw01.RatioReads -/
noncomputable def law01_RatioReads_j1 (s3 : Str) : Option Bool :=
  (ratio_Parse s3).bind fun (y3, y4) =>
  (ref01_Parse s3).bind fun (y5, y6) =>
  req (((((y3.Num == y5.Num) && (y3.Den == y5.Den)) && (y4 == y6)) = true → (law01_awake).isSome = true)) <|
  some ((((y3.Num == y5.Num) && (y3.Den == y5.Den)) && (y4 == y6)) && ((law01_awake).getD default))
noncomputable def law01_RatioReads_j2 (s2 : Str) (w4 : List Int) (w5 : Int) : Option Bool :=
  (make_Tape_One (make_Tape.mk w4 w5) (8 : Int)).bind fun (y7, y8) =>
  bif y7 then
    (make_Tape_Next y8 (5 : Int)).bind fun (y9, y10) =>
    req ((0 ≤ y9 ∧ y9 < (([([32] : Str), ([47] : Str), ([46] : Str), ([45] : Str), ([120] : Str)]).length : Int)) ∧ s2.length + (ix ([([32] : Str), ([47] : Str), ([46] : Str), ([45] : Str), ([120] : Str)]) y9).length ≤ 140737488355328) <|
    bindV (s2 ++ (ix ([([32] : Str), ([47] : Str), ([46] : Str), ([45] : Str), ([120] : Str)]) y9)) fun s4 =>
    law01_RatioReads_j1 s4
  else
    law01_RatioReads_j1 s2
noncomputable def law01_RatioReads_l3  : (Str × Int × (List Int) × Int) → Option ((Str × Int × (List Int) × Int) ⊕ (Str × (List Int) × Int)) :=
  fun (s5, i, w6, w7) =>
    bif (decide ((0 : Int) < i)) then
      (make_Tape_More (make_Tape.mk w6 w7)).bind fun (y13, y14) =>
      bif y13 then
        (make_Tape_Pick y14 ([(0 : Int), (0 : Int), (1 : Int), (9 : Int), (5 : Int)])).bind fun (y15, y16) =>
        req (s5.length + (strOf ([(IntKind.u8.wrap (IntKind.i64.wrap ((48 : Int) + y15)))])).length ≤ 140737488355328) <|
        bindV (s5 ++ (strOf ([(IntKind.u8.wrap (IntKind.i64.wrap ((48 : Int) + y15)))]))) fun s7 =>
        some (.inl (s7, (IntKind.i64.wrap (i - (1 : Int))), y16.L, y16.At))
      else
        some (.inr (s5, y14.L, y14.At))
    else
      some (.inr (s5, w6, w7))
noncomputable def law01_RatioReads_j4 (s1 : Str) (w2 : List Int) (w3 : Int) : Option Bool :=
  (make_Tape_Next (make_Tape.mk w2 w3) (3 : Int)).bind fun (y1, y2) =>
  req ((0 ≤ y1 ∧ y1 < (([([] : Str), ([47] : Str), ([46] : Str)]).length : Int)) ∧ s1.length + (ix ([([] : Str), ([47] : Str), ([46] : Str)]) y1).length ≤ 140737488355328) <|
  (make_Tape_Range y2 (0 : Int) (20 : Int)).bind fun (y11, y12) =>
  (iter (law01_RatioReads_l3) ((s1 ++ (ix ([([] : Str), ([47] : Str), ([46] : Str)]) y1)), y11, y12.L, y12.At)).bind fun (s6, w8, w9) =>
  law01_RatioReads_j2 s6 w8 w9
noncomputable def law01_RatioReads_l5  : (Str × Int × (List Int) × Int) → Option ((Str × Int × (List Int) × Int) ⊕ (Str × (List Int) × Int)) :=
  fun (s9, i1, w10, w11) =>
    bif (decide ((0 : Int) < i1)) then
      (make_Tape_Pick (make_Tape.mk w10 w11) ([(0 : Int), (1 : Int), (9 : Int), (5 : Int)])).bind fun (y21, y22) =>
      req (s9.length + (strOf ([(IntKind.u8.wrap (IntKind.i64.wrap ((48 : Int) + y21)))])).length ≤ 140737488355328) <|
      bindV (s9 ++ (strOf ([(IntKind.u8.wrap (IntKind.i64.wrap ((48 : Int) + y21)))]))) fun s11 =>
      some (.inl (s11, (IntKind.i64.wrap (i1 - (1 : Int))), y22.L, y22.At))
    else
      some (.inr (s9, w10, w11))
noncomputable def law01_RatioReads_j6 (s : Str) (w : List Int) (w1 : Int) : Option Bool :=
  (make_Tape_Range (make_Tape.mk w w1) (0 : Int) (20 : Int)).bind fun (y19, y20) =>
  (iter (law01_RatioReads_l5) (s, y19, y20.L, y20.At)).bind fun (s10, w12, w13) =>
  law01_RatioReads_j4 s10 w12 w13
noncomputable def law01_RatioReads (t : List Int) : Option Bool :=
  (make_New t).bind fun y =>
  (make_Tape_Next y (2 : Int)).bind fun (y23, y24) =>
  bif (y23 == (1 : Int)) then
    law01_RatioReads_j6 ([45] : Str) y24.L y24.At
  else
    law01_RatioReads_j6 ([] : Str) y24.L y24.At
end Go.LS
