/-
  Plain functions that the program's functions compute. No condition: definitions, printed by dec.py.
-/
import Derived.Test.YtfioceejanpjfaaDoorD2
namespace Go.LS
set_option linter.all false
set_option linter.unusedSimpArgs false
set_option linter.unusedVariables false
set_option maxRecDepth 20000

/-- awardingbody ratio.Sub -/
noncomputable def ratio_Sub (a : api_Ratio) (b : api_Ratio) : Option (api_Ratio × Int) :=
  (ratio_Valid a).bind fun y =>
  req (((!(!y)) = true → (ratio_Valid b).isSome = true)) <|
  bif ((!y) || (!((ratio_Valid b).getD default))) then
    some ((api_Ratio.mk (0 : Int) (0 : Int)), (1 : Int))
  else
    (ratio_Add a (api_Ratio.mk (IntKind.i64.wrap (0 - b.Num)) b.Den)).bind fun (y1, y2) =>
    some (y1, y2)
/-- awardingbody ratio.Compare -/
noncomputable def ratio_Compare (a : api_Ratio) (b : api_Ratio) : Option Int :=
  (ratio_Valid a).bind fun y =>
  req (((!(!y)) = true → (ratio_Valid b).isSome = true)) <|
  bif ((!y) || (!((ratio_Valid b).getD default))) then
    some (0 : Int)
  else
    (ratio_signedProduct a.Num (IntKind.u64.wrap b.Den)).bind fun y1 =>
    (ratio_signedProduct b.Num (IntKind.u64.wrap a.Den)).bind fun y2 =>
    bif (y1.neg && y2.neg) then
      (ratio_wide_compare y2.abs y1.abs).bind fun y3 =>
      some y3
    else
      bif y1.neg then
        some (-1 : Int)
      else
        bif y2.neg then
          some (1 : Int)
        else
          (ratio_wide_compare y1.abs y2.abs).bind fun y4 =>
          some y4
/-- awardingbody ratio.Less -/
noncomputable def ratio_Less (a : api_Ratio) (b : api_Ratio) : Option Bool :=
  (ratio_Compare a b).bind fun y =>
  some (y == (-1 : Int))
/-- awardingbody awardingbodylaw01.RatioDecimalNear -/
noncomputable def law01_RatioDecimalNear_j1 (y1 : api_Ratio) (y3 : api_Ratio) (y7 : api_Ratio) (y8 : Int) (y10 : api_Ratio) (y11 : Int) (y12 : api_Ratio) (y13 : Int) (unit : Int) : Option Bool :=
  bif (((y8 != (0 : Int)) || (y11 != (0 : Int))) || (y13 != (0 : Int))) then
    some false
  else
    (ratio_Less (api_Ratio.mk (1 : Int) unit) y12).bind fun y14 =>
    req (((!y14) = true → (ratio_Less y12 (api_Ratio.mk (-1 : Int) unit)).isSome = true) ∧ (((!y14) && (!((ratio_Less y12 (api_Ratio.mk (-1 : Int) unit)).getD default))) = true → (ratio_Less y1 y3).isSome = true) ∧ ((((!y14) && (!((ratio_Less y12 (api_Ratio.mk (-1 : Int) unit)).getD default))) && (!(!((ratio_Less y1 y3).getD default)))) = true → (ratio_Less y10 y7).isSome = true) ∧ ((((!y14) && (!((ratio_Less y12 (api_Ratio.mk (-1 : Int) unit)).getD default))) && ((!((ratio_Less y1 y3).getD default)) || (!((ratio_Less y10 y7).getD default)))) = true → (law01_awake).isSome = true)) <|
    some ((((!y14) && (!((ratio_Less y12 (api_Ratio.mk (-1 : Int) unit)).getD default))) && ((!((ratio_Less y1 y3).getD default)) || (!((ratio_Less y10 y7).getD default)))) && ((law01_awake).getD default))
noncomputable def law01_RatioDecimalNear_l2 (y5 : Int) : (Int × Int) → Option ((Int × Int) ⊕ Int) :=
  fun (unit1, i) =>
    bif (decide (i < (IntKind.i64.wrap ((1 : Int) + y5)))) then
      some (.inl ((IntKind.i64.wrap (unit1 * (10 : Int))), (IntKind.i64.wrap (i + (1 : Int)))))
    else
      some (.inr unit1)
noncomputable def law01_RatioDecimalNear (t : List Int) (digits : Int) : Option Bool :=
  (make_New t).bind fun y =>
  (make_Tape_Small y).bind fun (y1, y2) =>
  (make_Tape_Small y2).bind fun (y3, y4) =>
  (make_Cut digits (6 : Int)).bind fun y5 =>
  (ratio_Decimal y1 (IntKind.i64.wrap ((1 : Int) + y5))).bind fun y6 =>
  (ratio_Parse y6).bind fun (y7, y8) =>
  (ratio_Decimal y3 (IntKind.i64.wrap ((1 : Int) + y5))).bind fun y9 =>
  (ratio_Parse y9).bind fun (y10, y11) =>
  (ratio_Sub y7 y1).bind fun (y12, y13) =>
  (iter (law01_RatioDecimalNear_l2 y5) ((2 : Int), (0 : Int))).bind fun unit2 =>
  law01_RatioDecimalNear_j1 y1 y3 y7 y8 y10 y11 y12 y13 unit2
end Go.LS
