/-
  Plain types of the program and how their values lie in cells. No condition: definitions, printed by dec.py.
-/
import Derived.Test.YtogfplnonlpmcaaLs30
namespace Go.LS
set_option linter.all false
set_option linter.unusedSimpArgs false
set_option linter.unusedVariables false
set_option maxRecDepth 20000

structure api_Unit where
  Paper : Int
  Weight : Int
  Max : Int
deriving DecidableEq
instance : Inhabited api_Unit := ⟨⟨default, default, default⟩⟩
structure api_Award where
  Units : List api_Unit
  Bounds : List Int
  Max : Int
deriving DecidableEq
instance : Inhabited api_Award := ⟨⟨default, default, default⟩⟩
structure api_Ratio where
  Num : Int
  Den : Int
deriving DecidableEq
instance : Inhabited api_Ratio := ⟨⟨default, default⟩⟩
structure api_UnitMark where
  Kind : Int
  Value : api_Ratio
deriving DecidableEq
instance : Inhabited api_UnitMark := ⟨⟨default, default⟩⟩
def enc_api_Unit (x : api_Unit) : List PV := [pi x.Paper, pi x.Weight, pi x.Max]
def enc_api_UnitMark (x : api_UnitMark) : List PV := [pi x.Kind, pi x.Value.Num, pi x.Value.Den]
structure mark_Dice where
  L : List Int
  At : Int
deriving DecidableEq
instance : Inhabited mark_Dice := ⟨⟨default, default⟩⟩
def encL_enc_api_UnitMark (x : List api_UnitMark) : List PV := [.sl 3 (List.map enc_api_UnitMark x)]
def enc_api_Award (x : api_Award) : List PV := [.sl 3 (List.map enc_api_Unit x.Units), .sl 1 (List.map encI x.Bounds), pi x.Max]
structure ratio_wide where
  hi : Int
  lo : Int
deriving DecidableEq
instance : Inhabited ratio_wide := ⟨⟨default, default⟩⟩
structure ratio_signed where
  neg : Bool
  abs : ratio_wide
deriving DecidableEq
instance : Inhabited ratio_signed := ⟨⟨default, default⟩⟩
def enc_api_Ratio (x : api_Ratio) : List PV := [pi x.Num, pi x.Den]
def encL_encI (x : List Int) : List PV := [.sl 1 (List.map encI x)]
structure ref01_Wide where
  Hi : Int
  Lo : Int
deriving DecidableEq
instance : Inhabited ref01_Wide := ⟨⟨default, default⟩⟩
theorem aAt_enc_api_Award_3 (a0 a1 a2 : api_Award) (n : Int) : aAt [.sl 3 [], .sl 1 [], pi (0 : Int)] [.p (.sl 3 (List.map enc_api_Unit a0.Units)), .p (.sl 1 (List.map encI a0.Bounds)), .p (pi a0.Max), .p (.sl 3 (List.map enc_api_Unit a1.Units)), .p (.sl 1 (List.map encI a1.Bounds)), .p (pi a1.Max), .p (.sl 3 (List.map enc_api_Unit a2.Units)), .p (.sl 1 (List.map encI a2.Bounds)), .p (pi a2.Max)] n.toNat 3 = [.p (.sl 3 (List.map enc_api_Unit ((ix [a0, a1, a2] n).Units))), .p (.sl 1 (List.map encI ((ix [a0, a1, a2] n).Bounds))), .p (pi ((ix [a0, a1, a2] n).Max))] := by
  unfold aAt ix
  generalize n.toNat = k
  match k with
  | 0 => rfl
  | 1 => rfl
  | 2 => rfl
  | k + 3 => rw [if_neg (by simp <;> omega)]; rfl
theorem aAt_encL_enc_api_UnitMark_3 (a0 a1 a2 : List api_UnitMark) (n : Int) : aAt [.sl 3 []] [.p (.sl 3 (List.map enc_api_UnitMark a0)), .p (.sl 3 (List.map enc_api_UnitMark a1)), .p (.sl 3 (List.map enc_api_UnitMark a2))] n.toNat 1 = [.p (.sl 3 (List.map enc_api_UnitMark (ix [a0, a1, a2] n)))] := by
  unfold aAt ix
  generalize n.toNat = k
  match k with
  | 0 => rfl
  | 1 => rfl
  | 2 => rfl
  | k + 3 => rw [if_neg (by simp <;> omega)]; rfl
theorem aAt_encI_2 (a0 a1 : Int) (n : Int) : aAt [pi (0 : Int)] [.p (pi a0), .p (pi a1)] n.toNat 1 = [.p (pi (ix [a0, a1] n))] := by
  unfold aAt ix
  generalize n.toNat = k
  match k with
  | 0 => rfl
  | 1 => rfl
  | k + 2 => rw [if_neg (by simp <;> omega)]; rfl
theorem aAt_encI_3 (a0 a1 a2 : Int) (n : Int) : aAt [pi (0 : Int)] [.p (pi a0), .p (pi a1), .p (pi a2)] n.toNat 1 = [.p (pi (ix [a0, a1, a2] n))] := by
  unfold aAt ix
  generalize n.toNat = k
  match k with
  | 0 => rfl
  | 1 => rfl
  | 2 => rfl
  | k + 3 => rw [if_neg (by simp <;> omega)]; rfl
theorem aAtk_2_1_0 (z : List PV) (c0 c1 : CV) : aAt z [c0, c1] 0 1 = [c0] := rfl
theorem aAtk_3_1_0 (z : List PV) (c0 c1 c2 : CV) : aAt z [c0, c1, c2] 0 1 = [c0] := rfl
theorem aAtk_3_3_0 (z : List PV) (c0 c1 c2 c3 c4 c5 c6 c7 c8 : CV) : aAt z [c0, c1, c2, c3, c4, c5, c6, c7, c8] 0 3 = [c0, c1, c2] := rfl
theorem epAt_encL_encI (l : List (List Int)) (n : Int) : epAt [.sl 1 []] (List.map encL_encI l) n.toNat = [.sl 1 (List.map encI (ix l n))] := by
  unfold epAt ix
  by_cases h : n.toNat < l.length
  · simp [h, List.getD, encL_encI]
  · simp [h, List.getD]; first | done | exact ⟨rfl, rfl⟩ | rfl | (repeat' apply And.intro) <;> rfl
theorem epAt_encL_encI_k0 (l : List (List Int)) : epAt [.sl 1 []] (List.map encL_encI l) 0 = [.sl 1 (List.map encI (ix l (0 : Int)))] := epAt_encL_encI l 0
theorem epAt_encL_encI_k1 (l : List (List Int)) : epAt [.sl 1 []] (List.map encL_encI l) 1 = [.sl 1 (List.map encI (ix l (1 : Int)))] := epAt_encL_encI l 1
theorem epAt_encL_encI_k2 (l : List (List Int)) : epAt [.sl 1 []] (List.map encL_encI l) 2 = [.sl 1 (List.map encI (ix l (2 : Int)))] := epAt_encL_encI l 2
theorem epAt_encL_encI_k3 (l : List (List Int)) : epAt [.sl 1 []] (List.map encL_encI l) 3 = [.sl 1 (List.map encI (ix l (3 : Int)))] := epAt_encL_encI l 3
theorem epAt_encI (l : List Int) (n : Int) : epAt [pi (0 : Int)] (List.map encI l) n.toNat = [pi (ix l n)] := by
  unfold epAt ix
  by_cases h : n.toNat < l.length
  · simp [h, List.getD, encI]
  · simp [h, List.getD]; first | done | exact ⟨rfl, rfl⟩ | rfl | (repeat' apply And.intro) <;> rfl
theorem epAt_encI_k0 (l : List Int) : epAt [pi (0 : Int)] (List.map encI l) 0 = [pi (ix l (0 : Int))] := epAt_encI l 0
theorem epAt_encI_k1 (l : List Int) : epAt [pi (0 : Int)] (List.map encI l) 1 = [pi (ix l (1 : Int))] := epAt_encI l 1
theorem epAt_encI_k2 (l : List Int) : epAt [pi (0 : Int)] (List.map encI l) 2 = [pi (ix l (2 : Int))] := epAt_encI l 2
theorem epAt_encI_k3 (l : List Int) : epAt [pi (0 : Int)] (List.map encI l) 3 = [pi (ix l (3 : Int))] := epAt_encI l 3
theorem epAt_enc_api_Ratio (l : List api_Ratio) (n : Int) : epAt [pi (0 : Int), pi (0 : Int)] (List.map enc_api_Ratio l) n.toNat = [pi ((ix l n).Num), pi ((ix l n).Den)] := by
  unfold epAt ix
  by_cases h : n.toNat < l.length
  · simp [h, List.getD, enc_api_Ratio]
  · simp [h, List.getD]; first | done | exact ⟨rfl, rfl⟩ | rfl | (repeat' apply And.intro) <;> rfl
theorem epAt_enc_api_Ratio_k0 (l : List api_Ratio) : epAt [pi (0 : Int), pi (0 : Int)] (List.map enc_api_Ratio l) 0 = [pi ((ix l (0 : Int)).Num), pi ((ix l (0 : Int)).Den)] := epAt_enc_api_Ratio l 0
theorem epAt_enc_api_Ratio_k1 (l : List api_Ratio) : epAt [pi (0 : Int), pi (0 : Int)] (List.map enc_api_Ratio l) 1 = [pi ((ix l (1 : Int)).Num), pi ((ix l (1 : Int)).Den)] := epAt_enc_api_Ratio l 1
theorem epAt_enc_api_Ratio_k2 (l : List api_Ratio) : epAt [pi (0 : Int), pi (0 : Int)] (List.map enc_api_Ratio l) 2 = [pi ((ix l (2 : Int)).Num), pi ((ix l (2 : Int)).Den)] := epAt_enc_api_Ratio l 2
theorem epAt_enc_api_Ratio_k3 (l : List api_Ratio) : epAt [pi (0 : Int), pi (0 : Int)] (List.map enc_api_Ratio l) 3 = [pi ((ix l (3 : Int)).Num), pi ((ix l (3 : Int)).Den)] := epAt_enc_api_Ratio l 3
theorem epAt_enc_api_UnitMark (l : List api_UnitMark) (n : Int) : epAt [pi (0 : Int), pi (0 : Int), pi (0 : Int)] (List.map enc_api_UnitMark l) n.toNat = [pi ((ix l n).Kind), pi (((ix l n).Value).Num), pi (((ix l n).Value).Den)] := by
  unfold epAt ix
  by_cases h : n.toNat < l.length
  · simp [h, List.getD, enc_api_UnitMark]
  · simp [h, List.getD]; first | done | exact ⟨rfl, rfl⟩ | rfl | (repeat' apply And.intro) <;> rfl
theorem epAt_enc_api_UnitMark_k0 (l : List api_UnitMark) : epAt [pi (0 : Int), pi (0 : Int), pi (0 : Int)] (List.map enc_api_UnitMark l) 0 = [pi ((ix l (0 : Int)).Kind), pi (((ix l (0 : Int)).Value).Num), pi (((ix l (0 : Int)).Value).Den)] := epAt_enc_api_UnitMark l 0
theorem epAt_enc_api_UnitMark_k1 (l : List api_UnitMark) : epAt [pi (0 : Int), pi (0 : Int), pi (0 : Int)] (List.map enc_api_UnitMark l) 1 = [pi ((ix l (1 : Int)).Kind), pi (((ix l (1 : Int)).Value).Num), pi (((ix l (1 : Int)).Value).Den)] := epAt_enc_api_UnitMark l 1
theorem epAt_enc_api_UnitMark_k2 (l : List api_UnitMark) : epAt [pi (0 : Int), pi (0 : Int), pi (0 : Int)] (List.map enc_api_UnitMark l) 2 = [pi ((ix l (2 : Int)).Kind), pi (((ix l (2 : Int)).Value).Num), pi (((ix l (2 : Int)).Value).Den)] := epAt_enc_api_UnitMark l 2
theorem epAt_enc_api_UnitMark_k3 (l : List api_UnitMark) : epAt [pi (0 : Int), pi (0 : Int), pi (0 : Int)] (List.map enc_api_UnitMark l) 3 = [pi ((ix l (3 : Int)).Kind), pi (((ix l (3 : Int)).Value).Num), pi (((ix l (3 : Int)).Value).Den)] := epAt_enc_api_UnitMark l 3
theorem epAt_enc_api_Unit (l : List api_Unit) (n : Int) : epAt [pi (0 : Int), pi (0 : Int), pi (0 : Int)] (List.map enc_api_Unit l) n.toNat = [pi ((ix l n).Paper), pi ((ix l n).Weight), pi ((ix l n).Max)] := by
  unfold epAt ix
  by_cases h : n.toNat < l.length
  · simp [h, List.getD, enc_api_Unit]
  · simp [h, List.getD]; first | done | exact ⟨rfl, rfl⟩ | rfl | (repeat' apply And.intro) <;> rfl
theorem epAt_enc_api_Unit_k0 (l : List api_Unit) : epAt [pi (0 : Int), pi (0 : Int), pi (0 : Int)] (List.map enc_api_Unit l) 0 = [pi ((ix l (0 : Int)).Paper), pi ((ix l (0 : Int)).Weight), pi ((ix l (0 : Int)).Max)] := epAt_enc_api_Unit l 0
theorem epAt_enc_api_Unit_k1 (l : List api_Unit) : epAt [pi (0 : Int), pi (0 : Int), pi (0 : Int)] (List.map enc_api_Unit l) 1 = [pi ((ix l (1 : Int)).Paper), pi ((ix l (1 : Int)).Weight), pi ((ix l (1 : Int)).Max)] := epAt_enc_api_Unit l 1
theorem epAt_enc_api_Unit_k2 (l : List api_Unit) : epAt [pi (0 : Int), pi (0 : Int), pi (0 : Int)] (List.map enc_api_Unit l) 2 = [pi ((ix l (2 : Int)).Paper), pi ((ix l (2 : Int)).Weight), pi ((ix l (2 : Int)).Max)] := epAt_enc_api_Unit l 2
theorem epAt_enc_api_Unit_k3 (l : List api_Unit) : epAt [pi (0 : Int), pi (0 : Int), pi (0 : Int)] (List.map enc_api_Unit l) 3 = [pi ((ix l (3 : Int)).Paper), pi ((ix l (3 : Int)).Weight), pi ((ix l (3 : Int)).Max)] := epAt_enc_api_Unit l 3
theorem epLit_encL_encI_5 (a0 a1 a2 a3 a4 : List Int) (n : Int) : epAt [.sl 1 []] [[.sl 1 (List.map encI a0)], [.sl 1 (List.map encI a1)], [.sl 1 (List.map encI a2)], [.sl 1 (List.map encI a3)], [.sl 1 (List.map encI a4)]] n.toNat = [.sl 1 (List.map encI (ix [a0, a1, a2, a3, a4] n))] := epAt_encL_encI [a0, a1, a2, a3, a4] n
theorem setC_enc_api_UnitMark_0_1 (l : List api_UnitMark) (n : Int) (a0 : Int) : setC (List.map enc_api_UnitMark l) n.toNat 0 [pi a0] = List.map enc_api_UnitMark (setI l n (api_UnitMark.mk a0 ((ix l n).Value))) := by
  unfold setC setI; (try unfold ix)
  by_cases h : n.toNat < l.length
  · simp [h, List.getD, splice, List.map_set, enc_api_UnitMark]
  · rw [List.set_eq_of_length_le (by simp; omega), List.set_eq_of_length_le (by omega)]
theorem setC_enc_api_UnitMark_0_1_k0 (l : List api_UnitMark) (a0 : Int) : setC (List.map enc_api_UnitMark l) 0 0 [pi a0] = List.map enc_api_UnitMark (setI l (0 : Int) (api_UnitMark.mk a0 ((ix l (0 : Int)).Value))) := setC_enc_api_UnitMark_0_1 l 0 a0
theorem setC_enc_api_UnitMark_0_1_k1 (l : List api_UnitMark) (a0 : Int) : setC (List.map enc_api_UnitMark l) 1 0 [pi a0] = List.map enc_api_UnitMark (setI l (1 : Int) (api_UnitMark.mk a0 ((ix l (1 : Int)).Value))) := setC_enc_api_UnitMark_0_1 l 1 a0
theorem setC_enc_api_UnitMark_0_1_k2 (l : List api_UnitMark) (a0 : Int) : setC (List.map enc_api_UnitMark l) 2 0 [pi a0] = List.map enc_api_UnitMark (setI l (2 : Int) (api_UnitMark.mk a0 ((ix l (2 : Int)).Value))) := setC_enc_api_UnitMark_0_1 l 2 a0
theorem setC_enc_api_UnitMark_0_1_k3 (l : List api_UnitMark) (a0 : Int) : setC (List.map enc_api_UnitMark l) 3 0 [pi a0] = List.map enc_api_UnitMark (setI l (3 : Int) (api_UnitMark.mk a0 ((ix l (3 : Int)).Value))) := setC_enc_api_UnitMark_0_1 l 3 a0
theorem setC_enc_api_UnitMark_1_2 (l : List api_UnitMark) (n : Int) (a1 : Int) (a2 : Int) : setC (List.map enc_api_UnitMark l) n.toNat 1 [pi a1, pi a2] = List.map enc_api_UnitMark (setI l n (api_UnitMark.mk ((ix l n).Kind) (api_Ratio.mk a1 a2))) := by
  unfold setC setI; (try unfold ix)
  by_cases h : n.toNat < l.length
  · simp [h, List.getD, splice, List.map_set, enc_api_UnitMark]
  · rw [List.set_eq_of_length_le (by simp; omega), List.set_eq_of_length_le (by omega)]
theorem setC_enc_api_UnitMark_1_2_k0 (l : List api_UnitMark) (a1 : Int) (a2 : Int) : setC (List.map enc_api_UnitMark l) 0 1 [pi a1, pi a2] = List.map enc_api_UnitMark (setI l (0 : Int) (api_UnitMark.mk ((ix l (0 : Int)).Kind) (api_Ratio.mk a1 a2))) := setC_enc_api_UnitMark_1_2 l 0 a1 a2
theorem setC_enc_api_UnitMark_1_2_k1 (l : List api_UnitMark) (a1 : Int) (a2 : Int) : setC (List.map enc_api_UnitMark l) 1 1 [pi a1, pi a2] = List.map enc_api_UnitMark (setI l (1 : Int) (api_UnitMark.mk ((ix l (1 : Int)).Kind) (api_Ratio.mk a1 a2))) := setC_enc_api_UnitMark_1_2 l 1 a1 a2
theorem setC_enc_api_UnitMark_1_2_k2 (l : List api_UnitMark) (a1 : Int) (a2 : Int) : setC (List.map enc_api_UnitMark l) 2 1 [pi a1, pi a2] = List.map enc_api_UnitMark (setI l (2 : Int) (api_UnitMark.mk ((ix l (2 : Int)).Kind) (api_Ratio.mk a1 a2))) := setC_enc_api_UnitMark_1_2 l 2 a1 a2
theorem setC_enc_api_UnitMark_1_2_k3 (l : List api_UnitMark) (a1 : Int) (a2 : Int) : setC (List.map enc_api_UnitMark l) 3 1 [pi a1, pi a2] = List.map enc_api_UnitMark (setI l (3 : Int) (api_UnitMark.mk ((ix l (3 : Int)).Kind) (api_Ratio.mk a1 a2))) := setC_enc_api_UnitMark_1_2 l 3 a1 a2
theorem setC_enc_api_UnitMark_2_1 (l : List api_UnitMark) (n : Int) (a2 : Int) : setC (List.map enc_api_UnitMark l) n.toNat 2 [pi a2] = List.map enc_api_UnitMark (setI l n (api_UnitMark.mk ((ix l n).Kind) (api_Ratio.mk (((ix l n).Value).Num) a2))) := by
  unfold setC setI; (try unfold ix)
  by_cases h : n.toNat < l.length
  · simp [h, List.getD, splice, List.map_set, enc_api_UnitMark]
  · rw [List.set_eq_of_length_le (by simp; omega), List.set_eq_of_length_le (by omega)]
theorem setC_enc_api_UnitMark_2_1_k0 (l : List api_UnitMark) (a2 : Int) : setC (List.map enc_api_UnitMark l) 0 2 [pi a2] = List.map enc_api_UnitMark (setI l (0 : Int) (api_UnitMark.mk ((ix l (0 : Int)).Kind) (api_Ratio.mk (((ix l (0 : Int)).Value).Num) a2))) := setC_enc_api_UnitMark_2_1 l 0 a2
theorem setC_enc_api_UnitMark_2_1_k1 (l : List api_UnitMark) (a2 : Int) : setC (List.map enc_api_UnitMark l) 1 2 [pi a2] = List.map enc_api_UnitMark (setI l (1 : Int) (api_UnitMark.mk ((ix l (1 : Int)).Kind) (api_Ratio.mk (((ix l (1 : Int)).Value).Num) a2))) := setC_enc_api_UnitMark_2_1 l 1 a2
theorem setC_enc_api_UnitMark_2_1_k2 (l : List api_UnitMark) (a2 : Int) : setC (List.map enc_api_UnitMark l) 2 2 [pi a2] = List.map enc_api_UnitMark (setI l (2 : Int) (api_UnitMark.mk ((ix l (2 : Int)).Kind) (api_Ratio.mk (((ix l (2 : Int)).Value).Num) a2))) := setC_enc_api_UnitMark_2_1 l 2 a2
theorem setC_enc_api_UnitMark_2_1_k3 (l : List api_UnitMark) (a2 : Int) : setC (List.map enc_api_UnitMark l) 3 2 [pi a2] = List.map enc_api_UnitMark (setI l (3 : Int) (api_UnitMark.mk ((ix l (3 : Int)).Kind) (api_Ratio.mk (((ix l (3 : Int)).Value).Num) a2))) := setC_enc_api_UnitMark_2_1 l 3 a2
theorem setC_enc_api_Unit_0_1 (l : List api_Unit) (n : Int) (a0 : Int) : setC (List.map enc_api_Unit l) n.toNat 0 [pi a0] = List.map enc_api_Unit (setI l n (api_Unit.mk a0 ((ix l n).Weight) ((ix l n).Max))) := by
  unfold setC setI; (try unfold ix)
  by_cases h : n.toNat < l.length
  · simp [h, List.getD, splice, List.map_set, enc_api_Unit]
  · rw [List.set_eq_of_length_le (by simp; omega), List.set_eq_of_length_le (by omega)]
theorem setC_enc_api_Unit_0_1_k0 (l : List api_Unit) (a0 : Int) : setC (List.map enc_api_Unit l) 0 0 [pi a0] = List.map enc_api_Unit (setI l (0 : Int) (api_Unit.mk a0 ((ix l (0 : Int)).Weight) ((ix l (0 : Int)).Max))) := setC_enc_api_Unit_0_1 l 0 a0
theorem setC_enc_api_Unit_0_1_k1 (l : List api_Unit) (a0 : Int) : setC (List.map enc_api_Unit l) 1 0 [pi a0] = List.map enc_api_Unit (setI l (1 : Int) (api_Unit.mk a0 ((ix l (1 : Int)).Weight) ((ix l (1 : Int)).Max))) := setC_enc_api_Unit_0_1 l 1 a0
theorem setC_enc_api_Unit_0_1_k2 (l : List api_Unit) (a0 : Int) : setC (List.map enc_api_Unit l) 2 0 [pi a0] = List.map enc_api_Unit (setI l (2 : Int) (api_Unit.mk a0 ((ix l (2 : Int)).Weight) ((ix l (2 : Int)).Max))) := setC_enc_api_Unit_0_1 l 2 a0
theorem setC_enc_api_Unit_0_1_k3 (l : List api_Unit) (a0 : Int) : setC (List.map enc_api_Unit l) 3 0 [pi a0] = List.map enc_api_Unit (setI l (3 : Int) (api_Unit.mk a0 ((ix l (3 : Int)).Weight) ((ix l (3 : Int)).Max))) := setC_enc_api_Unit_0_1 l 3 a0
theorem setC_enc_api_Unit_1_1 (l : List api_Unit) (n : Int) (a1 : Int) : setC (List.map enc_api_Unit l) n.toNat 1 [pi a1] = List.map enc_api_Unit (setI l n (api_Unit.mk ((ix l n).Paper) a1 ((ix l n).Max))) := by
  unfold setC setI; (try unfold ix)
  by_cases h : n.toNat < l.length
  · simp [h, List.getD, splice, List.map_set, enc_api_Unit]
  · rw [List.set_eq_of_length_le (by simp; omega), List.set_eq_of_length_le (by omega)]
theorem setC_enc_api_Unit_1_1_k0 (l : List api_Unit) (a1 : Int) : setC (List.map enc_api_Unit l) 0 1 [pi a1] = List.map enc_api_Unit (setI l (0 : Int) (api_Unit.mk ((ix l (0 : Int)).Paper) a1 ((ix l (0 : Int)).Max))) := setC_enc_api_Unit_1_1 l 0 a1
theorem setC_enc_api_Unit_1_1_k1 (l : List api_Unit) (a1 : Int) : setC (List.map enc_api_Unit l) 1 1 [pi a1] = List.map enc_api_Unit (setI l (1 : Int) (api_Unit.mk ((ix l (1 : Int)).Paper) a1 ((ix l (1 : Int)).Max))) := setC_enc_api_Unit_1_1 l 1 a1
theorem setC_enc_api_Unit_1_1_k2 (l : List api_Unit) (a1 : Int) : setC (List.map enc_api_Unit l) 2 1 [pi a1] = List.map enc_api_Unit (setI l (2 : Int) (api_Unit.mk ((ix l (2 : Int)).Paper) a1 ((ix l (2 : Int)).Max))) := setC_enc_api_Unit_1_1 l 2 a1
theorem setC_enc_api_Unit_1_1_k3 (l : List api_Unit) (a1 : Int) : setC (List.map enc_api_Unit l) 3 1 [pi a1] = List.map enc_api_Unit (setI l (3 : Int) (api_Unit.mk ((ix l (3 : Int)).Paper) a1 ((ix l (3 : Int)).Max))) := setC_enc_api_Unit_1_1 l 3 a1
theorem setC_enc_api_Unit_2_1 (l : List api_Unit) (n : Int) (a2 : Int) : setC (List.map enc_api_Unit l) n.toNat 2 [pi a2] = List.map enc_api_Unit (setI l n (api_Unit.mk ((ix l n).Paper) ((ix l n).Weight) a2)) := by
  unfold setC setI; (try unfold ix)
  by_cases h : n.toNat < l.length
  · simp [h, List.getD, splice, List.map_set, enc_api_Unit]
  · rw [List.set_eq_of_length_le (by simp; omega), List.set_eq_of_length_le (by omega)]
theorem setC_enc_api_Unit_2_1_k0 (l : List api_Unit) (a2 : Int) : setC (List.map enc_api_Unit l) 0 2 [pi a2] = List.map enc_api_Unit (setI l (0 : Int) (api_Unit.mk ((ix l (0 : Int)).Paper) ((ix l (0 : Int)).Weight) a2)) := setC_enc_api_Unit_2_1 l 0 a2
theorem setC_enc_api_Unit_2_1_k1 (l : List api_Unit) (a2 : Int) : setC (List.map enc_api_Unit l) 1 2 [pi a2] = List.map enc_api_Unit (setI l (1 : Int) (api_Unit.mk ((ix l (1 : Int)).Paper) ((ix l (1 : Int)).Weight) a2)) := setC_enc_api_Unit_2_1 l 1 a2
theorem setC_enc_api_Unit_2_1_k2 (l : List api_Unit) (a2 : Int) : setC (List.map enc_api_Unit l) 2 2 [pi a2] = List.map enc_api_Unit (setI l (2 : Int) (api_Unit.mk ((ix l (2 : Int)).Paper) ((ix l (2 : Int)).Weight) a2)) := setC_enc_api_Unit_2_1 l 2 a2
theorem setC_enc_api_Unit_2_1_k3 (l : List api_Unit) (a2 : Int) : setC (List.map enc_api_Unit l) 3 2 [pi a2] = List.map enc_api_Unit (setI l (3 : Int) (api_Unit.mk ((ix l (3 : Int)).Paper) ((ix l (3 : Int)).Weight) a2)) := setC_enc_api_Unit_2_1 l 3 a2
theorem epLits_encL_encI_0_2_1_1_1 (a1_0 a1_1 a2_0 a3_0 a4_0 : Int) (n : Int) : epAt [.sl 1 []] [[.sl 1 []], [.sl 1 [[pi a1_0], [pi a1_1]]], [.sl 1 [[pi a2_0]]], [.sl 1 [[pi a3_0]]], [.sl 1 [[pi a4_0]]]] n.toNat = [.sl 1 (List.map encI (ix [([] : List Int), [a1_0, a1_1], [a2_0], [a3_0], [a4_0]] n))] := epAt_encL_encI [[], [a1_0, a1_1], [a2_0], [a3_0], [a4_0]] n
theorem bs_extract (s : Str) (a b : Nat) : (bs s).extract a b = bs ((s.take b).drop a) := by
  apply ByteArray.ext
  simp [bs, List.drop_take]
attribute [go_sem] bs_extract
theorem strOf_lit1 (x : Int) : bs [byteOf1 [.val (.int .u8 x)]] = bs (strOf [x]) := rfl
theorem isByte_lit (n : Int) : isByte [.val (.int .u8 n)] = True := by simp [isByte]
attribute [go_sem] strOf_lit1 isByte_lit
theorem epAt_c0 (z x0 : List PV) (xs : List (List PV)) : epAt z (x0 :: xs) 0 = x0 := rfl
attribute [go_sem] epAt_c0
theorem epAt_c1 (z x0 x1 : List PV) (xs : List (List PV)) : epAt z (x0 :: x1 :: xs) 1 = x1 := rfl
attribute [go_sem] epAt_c1
theorem epAt_c2 (z x0 x1 x2 : List PV) (xs : List (List PV)) : epAt z (x0 :: x1 :: x2 :: xs) 2 = x2 := rfl
attribute [go_sem] epAt_c2
theorem epAt_c3 (z x0 x1 x2 x3 : List PV) (xs : List (List PV)) : epAt z (x0 :: x1 :: x2 :: x3 :: xs) 3 = x3 := rfl
attribute [go_sem] epAt_c3
theorem bs_ix_k0 (a : Str) : ((((bs a).data.getD 0 0).toNat : Nat) : Int) = sx a 0 := bs_ix a 0
attribute [go_sem] bs_ix_k0
theorem bs_ix_k1 (a : Str) : ((((bs a).data.getD 1 0).toNat : Nat) : Int) = sx a 1 := bs_ix a 1
attribute [go_sem] bs_ix_k1
theorem bs_ix_k2 (a : Str) : ((((bs a).data.getD 2 0).toNat : Nat) : Int) = sx a 2 := bs_ix a 2
attribute [go_sem] bs_ix_k2
theorem bs_ix_k3 (a : Str) : ((((bs a).data.getD 3 0).toNat : Nat) : Int) = sx a 3 := bs_ix a 3
attribute [go_sem] bs_ix_k3
attribute [go_sem] enc_api_Unit enc_api_UnitMark encL_enc_api_UnitMark enc_api_Award enc_api_Ratio encL_encI aAt_enc_api_Award_3 aAt_encL_enc_api_UnitMark_3 aAt_encI_2 aAt_encI_3 aAtk_2_1_0 aAtk_3_1_0 aAtk_3_3_0 epAt_encL_encI epAt_encL_encI_k0 epAt_encL_encI_k1 epAt_encL_encI_k2 epAt_encL_encI_k3 epAt_encI epAt_encI_k0 epAt_encI_k1 epAt_encI_k2 epAt_encI_k3 epAt_enc_api_Ratio epAt_enc_api_Ratio_k0 epAt_enc_api_Ratio_k1 epAt_enc_api_Ratio_k2 epAt_enc_api_Ratio_k3 epAt_enc_api_UnitMark epAt_enc_api_UnitMark_k0 epAt_enc_api_UnitMark_k1 epAt_enc_api_UnitMark_k2 epAt_enc_api_UnitMark_k3 epAt_enc_api_Unit epAt_enc_api_Unit_k0 epAt_enc_api_Unit_k1 epAt_enc_api_Unit_k2 epAt_enc_api_Unit_k3 epLit_encL_encI_5 setC_enc_api_UnitMark_0_1 setC_enc_api_UnitMark_0_1_k0 setC_enc_api_UnitMark_0_1_k1 setC_enc_api_UnitMark_0_1_k2 setC_enc_api_UnitMark_0_1_k3 setC_enc_api_UnitMark_1_2 setC_enc_api_UnitMark_1_2_k0 setC_enc_api_UnitMark_1_2_k1 setC_enc_api_UnitMark_1_2_k2 setC_enc_api_UnitMark_1_2_k3 setC_enc_api_UnitMark_2_1 setC_enc_api_UnitMark_2_1_k0 setC_enc_api_UnitMark_2_1_k1 setC_enc_api_UnitMark_2_1_k2 setC_enc_api_UnitMark_2_1_k3 setC_enc_api_Unit_0_1 setC_enc_api_Unit_0_1_k0 setC_enc_api_Unit_0_1_k1 setC_enc_api_Unit_0_1_k2 setC_enc_api_Unit_0_1_k3 setC_enc_api_Unit_1_1 setC_enc_api_Unit_1_1_k0 setC_enc_api_Unit_1_1_k1 setC_enc_api_Unit_1_1_k2 setC_enc_api_Unit_1_1_k3 setC_enc_api_Unit_2_1 setC_enc_api_Unit_2_1_k0 setC_enc_api_Unit_2_1_k1 setC_enc_api_Unit_2_1_k2 setC_enc_api_Unit_2_1_k3 epLits_encL_encI_0_2_1_1_1
end Go.LS
