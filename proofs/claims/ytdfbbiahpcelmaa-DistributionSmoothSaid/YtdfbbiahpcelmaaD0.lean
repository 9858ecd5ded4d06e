/-
  Plain types of the program and how their values lie in cells. No condition: definitions, printed by dec.py.
-/
import Derived.Test.YtdfbbiahpcelmaaLs30
namespace Go.LS
set_option linter.all false
set_option linter.unusedSimpArgs false
set_option linter.unusedVariables false
set_option maxRecDepth 20000

structure mark_Dice where
  L : List Int
  At : Int
deriving DecidableEq
instance : Inhabited mark_Dice := ⟨⟨default, default⟩⟩
structure api_Distribution where
  Counts : List Int
deriving DecidableEq
instance : Inhabited api_Distribution := ⟨⟨default⟩⟩
structure api_Ratio where
  Num : Int
  Den : Int
deriving DecidableEq
instance : Inhabited api_Ratio := ⟨⟨default, default⟩⟩
structure ratio_wide where
  hi : Int
  lo : Int
deriving DecidableEq
instance : Inhabited ratio_wide := ⟨⟨default, default⟩⟩
structure ratio_signed where
  neg : Bool
  abs : ratio_wide
deriving DecidableEq
instance : Inhabited ratio_signed := ⟨⟨default, default⟩⟩
structure ref01_Wide where
  Hi : Int
  Lo : Int
deriving DecidableEq
instance : Inhabited ref01_Wide := ⟨⟨default, default⟩⟩
theorem apAt_encI_0_1 (l : List Int) (n : Int) : apAt [pi (0 : Int)] (List.map encI l) n.toNat 0 1 = [pi (ix l n)] := by
  unfold apAt ix
  by_cases h : n.toNat < l.length
  · simp [h, List.getD, encI]
  · simp [h, List.getD]; first | done | rfl | (repeat' apply And.intro) <;> rfl
theorem epAt_encI (l : List Int) (n : Int) : epAt [pi (0 : Int)] (List.map encI l) n.toNat = [pi (ix l n)] := by
  unfold epAt ix
  by_cases h : n.toNat < l.length
  · simp [h, List.getD, encI]
  · simp [h, List.getD]; first | done | exact ⟨rfl, rfl⟩ | rfl | (repeat' apply And.intro) <;> rfl
theorem setC_encI_0_1 (l : List Int) (n : Int) (a0 : Int) : setC (List.map encI l) n.toNat 0 [pi a0] = List.map encI (setI l n a0) := by
  unfold setC setI; (try unfold ix)
  by_cases h : n.toNat < l.length
  · simp [h, List.getD, splice, List.map_set, encI]
  · rw [List.set_eq_of_length_le (by simp; omega), List.set_eq_of_length_le (by omega)]
attribute [go_sem] apAt_encI_0_1 epAt_encI setC_encI_0_1
end Go.LS
