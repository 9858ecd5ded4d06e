/-
  Plain types of the program and how their values lie in cells. No condition: definitions, printed by dec.py.
-/
import Derived.Test.YtncjhljkjgejlaaLs30
namespace Go.LS
set_option linter.all false
set_option linter.unusedSimpArgs false
set_option linter.unusedVariables false
set_option maxRecDepth 20000

structure api_Ratio where
  Num : Int
  Den : Int
deriving DecidableEq
instance : Inhabited api_Ratio := ⟨⟨default, default⟩⟩
structure ratio_wide where
  hi : Int
  lo : Int
deriving DecidableEq
instance : Inhabited ratio_wide := ⟨⟨default, default⟩⟩
structure ratio_signed where
  neg : Bool
  abs : ratio_wide
deriving DecidableEq
instance : Inhabited ratio_signed := ⟨⟨default, default⟩⟩
structure make_Tape where
  L : List Int
  At : Int
deriving DecidableEq
instance : Inhabited make_Tape := ⟨⟨default, default⟩⟩
structure ref01_Wide where
  Hi : Int
  Lo : Int
deriving DecidableEq
instance : Inhabited ref01_Wide := ⟨⟨default, default⟩⟩
def enc_api_Ratio (x : api_Ratio) : List PV := [pi x.Num, pi x.Den]
theorem apAt_encI_0_1 (l : List Int) (n : Int) : apAt [pi (0 : Int)] (List.map encI l) n.toNat 0 1 = [pi (ix l n)] := by
  unfold apAt ix
  by_cases h : n.toNat < l.length
  · simp [h, List.getD, encI]
  · simp [h, List.getD]; first | done | rfl | (repeat' apply And.intro) <;> rfl
theorem apAt_encI_0_1_k0 (l : List Int) : apAt [pi (0 : Int)] (List.map encI l) 0 0 1 = [pi (ix l (0 : Int))] := apAt_encI_0_1 l 0
theorem apAt_encI_0_1_k1 (l : List Int) : apAt [pi (0 : Int)] (List.map encI l) 1 0 1 = [pi (ix l (1 : Int))] := apAt_encI_0_1 l 1
theorem apAt_encI_0_1_k2 (l : List Int) : apAt [pi (0 : Int)] (List.map encI l) 2 0 1 = [pi (ix l (2 : Int))] := apAt_encI_0_1 l 2
theorem apAt_encI_0_1_k3 (l : List Int) : apAt [pi (0 : Int)] (List.map encI l) 3 0 1 = [pi (ix l (3 : Int))] := apAt_encI_0_1 l 3
theorem epAt_encI (l : List Int) (n : Int) : epAt [pi (0 : Int)] (List.map encI l) n.toNat = [pi (ix l n)] := by
  unfold epAt ix
  by_cases h : n.toNat < l.length
  · simp [h, List.getD, encI]
  · simp [h, List.getD]; first | done | exact ⟨rfl, rfl⟩ | rfl | (repeat' apply And.intro) <;> rfl
theorem epAt_encI_k0 (l : List Int) : epAt [pi (0 : Int)] (List.map encI l) 0 = [pi (ix l (0 : Int))] := epAt_encI l 0
theorem epAt_encI_k1 (l : List Int) : epAt [pi (0 : Int)] (List.map encI l) 1 = [pi (ix l (1 : Int))] := epAt_encI l 1
theorem epAt_encI_k2 (l : List Int) : epAt [pi (0 : Int)] (List.map encI l) 2 = [pi (ix l (2 : Int))] := epAt_encI l 2
theorem epAt_encI_k3 (l : List Int) : epAt [pi (0 : Int)] (List.map encI l) 3 = [pi (ix l (3 : Int))] := epAt_encI l 3
theorem epAt_enc_api_Ratio (l : List api_Ratio) (n : Int) : epAt [pi (0 : Int), pi (0 : Int)] (List.map enc_api_Ratio l) n.toNat = [pi ((ix l n).Num), pi ((ix l n).Den)] := by
  unfold epAt ix
  by_cases h : n.toNat < l.length
  · simp [h, List.getD, enc_api_Ratio]
  · simp [h, List.getD]; first | done | exact ⟨rfl, rfl⟩ | rfl | (repeat' apply And.intro) <;> rfl
theorem epAt_enc_api_Ratio_k0 (l : List api_Ratio) : epAt [pi (0 : Int), pi (0 : Int)] (List.map enc_api_Ratio l) 0 = [pi ((ix l (0 : Int)).Num), pi ((ix l (0 : Int)).Den)] := epAt_enc_api_Ratio l 0
theorem epAt_enc_api_Ratio_k1 (l : List api_Ratio) : epAt [pi (0 : Int), pi (0 : Int)] (List.map enc_api_Ratio l) 1 = [pi ((ix l (1 : Int)).Num), pi ((ix l (1 : Int)).Den)] := epAt_enc_api_Ratio l 1
theorem epAt_enc_api_Ratio_k2 (l : List api_Ratio) : epAt [pi (0 : Int), pi (0 : Int)] (List.map enc_api_Ratio l) 2 = [pi ((ix l (2 : Int)).Num), pi ((ix l (2 : Int)).Den)] := epAt_enc_api_Ratio l 2
theorem epAt_enc_api_Ratio_k3 (l : List api_Ratio) : epAt [pi (0 : Int), pi (0 : Int)] (List.map enc_api_Ratio l) 3 = [pi ((ix l (3 : Int)).Num), pi ((ix l (3 : Int)).Den)] := epAt_enc_api_Ratio l 3
theorem setC_encI_0_1 (l : List Int) (n : Int) (a0 : Int) : setC (List.map encI l) n.toNat 0 [pi a0] = List.map encI (setI l n a0) := by
  unfold setC setI; (try unfold ix)
  by_cases h : n.toNat < l.length
  · simp [h, List.getD, splice, List.map_set, encI]
  · rw [List.set_eq_of_length_le (by simp; omega), List.set_eq_of_length_le (by omega)]
theorem setC_encI_0_1_k0 (l : List Int) (a0 : Int) : setC (List.map encI l) 0 0 [pi a0] = List.map encI (setI l (0 : Int) a0) := setC_encI_0_1 l 0 a0
theorem setC_encI_0_1_k1 (l : List Int) (a0 : Int) : setC (List.map encI l) 1 0 [pi a0] = List.map encI (setI l (1 : Int) a0) := setC_encI_0_1 l 1 a0
theorem setC_encI_0_1_k2 (l : List Int) (a0 : Int) : setC (List.map encI l) 2 0 [pi a0] = List.map encI (setI l (2 : Int) a0) := setC_encI_0_1 l 2 a0
theorem setC_encI_0_1_k3 (l : List Int) (a0 : Int) : setC (List.map encI l) 3 0 [pi a0] = List.map encI (setI l (3 : Int) a0) := setC_encI_0_1 l 3 a0
attribute [go_sem] enc_api_Ratio apAt_encI_0_1 apAt_encI_0_1_k0 apAt_encI_0_1_k1 apAt_encI_0_1_k2 apAt_encI_0_1_k3 epAt_encI epAt_encI_k0 epAt_encI_k1 epAt_encI_k2 epAt_encI_k3 epAt_enc_api_Ratio epAt_enc_api_Ratio_k0 epAt_enc_api_Ratio_k1 epAt_enc_api_Ratio_k2 epAt_enc_api_Ratio_k3 setC_encI_0_1 setC_encI_0_1_k0 setC_encI_0_1_k1 setC_encI_0_1_k2 setC_encI_0_1_k3
end Go.LS
