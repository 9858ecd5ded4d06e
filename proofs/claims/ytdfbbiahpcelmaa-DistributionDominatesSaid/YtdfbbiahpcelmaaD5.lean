/-
  Plain functions that the program's functions compute. No condition: definitions, printed by dec.py.
-/
import Derived.Test.YtdfbbiahpcelmaaD4
namespace Go.LS
set_option linter.all false
set_option linter.unusedSimpArgs false
set_option linter.unusedVariables false
set_option maxRecDepth 20000

/-- awardingbody awardingbodylaw32.DistributionSmooth -/
noncomputable def law32_DistributionSmooth_j1 (y3 : api_Distribution) (y5 : api_Distribution) : Option Bool :=
  (ref01_New (IntKind.i64.wrap ((y3.Counts.length : Int) - (1 : Int))) (2 : Int)).bind fun (y7, y8) =>
  (distribution_Mean y3).bind fun (y9, y10) =>
  (distribution_Mean y5).bind fun (y11, y12) =>
  bif ((y8 != (0 : Int)) || (y12 != (0 : Int))) then
    some false
  else
    bif (y10 != (0 : Int)) then
      req ((((y11.Num == y7.Num) && (y11.Den == y7.Den)) = true → (law32_sane).isSome = true)) <|
      some (((y11.Num == y7.Num) && (y11.Den == y7.Den)) && ((law32_sane).getD default))
    else
      (ref01_Less y11 y9).bind fun y13 =>
      req ((y13 = true → (ref01_Less y11 y7).isSome = true) ∧ ((!(y13 && ((ref01_Less y11 y7).getD default))) = true → (ref01_Less y9 y11).isSome = true) ∧ (((!(y13 && ((ref01_Less y11 y7).getD default))) && ((ref01_Less y9 y11).getD default)) = true → (ref01_Less y7 y11).isSome = true) ∧ (((!(y13 && ((ref01_Less y11 y7).getD default))) && (!(((ref01_Less y9 y11).getD default) && ((ref01_Less y7 y11).getD default)))) = true → (law32_sane).isSome = true)) <|
      some (((!(y13 && ((ref01_Less y11 y7).getD default))) && (!(((ref01_Less y9 y11).getD default) && ((ref01_Less y7 y11).getD default)))) && ((law32_sane).getD default))
noncomputable def law32_DistributionSmooth_l2 (y3 : api_Distribution) (y5 : api_Distribution) : Int → Option (Int ⊕ (Unit ⊕ Bool)) :=
  fun v =>
    bif (decide (v < (y5.Counts.length : Int))) then
      req ((0 ≤ v ∧ v < (y5.Counts.length : Int)) ∧ (0 ≤ v ∧ v < (y3.Counts.length : Int))) <|
      bif ((ix y5.Counts v) != (IntKind.i64.wrap ((ix y3.Counts v) + (1 : Int)))) then
        some (.inr (.inr false))
      else
        some (.inl (IntKind.i64.wrap (v + (1 : Int))))
    else
      some (.inr (.inl ()))
noncomputable def law32_DistributionSmooth (t : List Int) : Option Bool :=
  (mark_Light t).bind fun y =>
  bif (!y) then
    (law32_sane).bind fun y1 =>
    some y1
  else
    (mark_Roll t).bind fun y2 =>
    (mark_Dice_Distribution y2 (8 : Int) false).bind fun (y3, y4) =>
    (distribution_Smooth y3).bind fun (y5, y6) =>
    bif ((y6 != (0 : Int)) || ((y5.Counts.length : Int) != (y3.Counts.length : Int))) then
      some false
    else
      (iter (law32_DistributionSmooth_l2 y3 y5) (0 : Int)).bind fun x_ =>
      match x_ with
      | .inl () => law32_DistributionSmooth_j1 y3 y5
      | .inr t_ => some t_
end Go.LS
