/-
  Plain types of the program and how their values lie in cells. No condition: definitions, printed by dec.py.
-/
import Derived.Test.YtamifffofclhkaaGreatLs30
namespace Go.LS
set_option linter.all false
set_option linter.unusedSimpArgs false
set_option linter.unusedVariables false
set_option maxRecDepth 20000

structure api_Distribution where
  Counts : List Int
deriving DecidableEq
instance : Inhabited api_Distribution := ⟨⟨default⟩⟩
structure api_Ratio where
  Num : Int
  Den : Int
deriving DecidableEq
instance : Inhabited api_Ratio := ⟨⟨default, default⟩⟩
structure api_Point where
  X : api_Ratio
  Y : api_Ratio
deriving DecidableEq
instance : Inhabited api_Point := ⟨⟨default, default⟩⟩
structure api_Curve where
  Points : List api_Point
deriving DecidableEq
instance : Inhabited api_Curve := ⟨⟨default⟩⟩
def enc_api_Point (x : api_Point) : List PV := [pi x.X.Num, pi x.X.Den, pi x.Y.Num, pi x.Y.Den]
structure mark_Dice where
  L : List Int
  At : Int
deriving DecidableEq
instance : Inhabited mark_Dice := ⟨⟨default, default⟩⟩
def enc_api_Distribution (x : api_Distribution) : List PV := [.sl 1 (List.map encI x.Counts)]
def enc_api_Curve (x : api_Curve) : List PV := [.sl 4 (List.map enc_api_Point x.Points)]
def encL_encI (x : List Int) : List PV := [.sl 1 (List.map encI x)]
def enc_api_Ratio (x : api_Ratio) : List PV := [pi x.Num, pi x.Den]
structure ratio_wide where
  hi : Int
  lo : Int
deriving DecidableEq
instance : Inhabited ratio_wide := ⟨⟨default, default⟩⟩
structure ratio_signed where
  neg : Bool
  abs : ratio_wide
deriving DecidableEq
instance : Inhabited ratio_signed := ⟨⟨default, default⟩⟩
structure ref01_Wide where
  Hi : Int
  Lo : Int
deriving DecidableEq
instance : Inhabited ref01_Wide := ⟨⟨default, default⟩⟩
structure conversion_steps where
  e : Int
deriving DecidableEq
instance : Inhabited conversion_steps := ⟨⟨default⟩⟩
theorem apAt_encI_0_1 (l : List Int) (n : Int) : apAt [pi (0 : Int)] (List.map encI l) n.toNat 0 1 = [pi (ix l n)] := by
  unfold apAt ix
  by_cases h : n.toNat < l.length
  · simp [h, List.getD, encI]
  · simp [h, List.getD]; first | done | rfl | (repeat' apply And.intro) <;> rfl
theorem apAt_encI_0_1_k0 (l : List Int) : apAt [pi (0 : Int)] (List.map encI l) 0 0 1 = [pi (ix l (0 : Int))] := apAt_encI_0_1 l 0
theorem apAt_encI_0_1_k1 (l : List Int) : apAt [pi (0 : Int)] (List.map encI l) 1 0 1 = [pi (ix l (1 : Int))] := apAt_encI_0_1 l 1
theorem apAt_encI_0_1_k2 (l : List Int) : apAt [pi (0 : Int)] (List.map encI l) 2 0 1 = [pi (ix l (2 : Int))] := apAt_encI_0_1 l 2
theorem apAt_encI_0_1_k3 (l : List Int) : apAt [pi (0 : Int)] (List.map encI l) 3 0 1 = [pi (ix l (3 : Int))] := apAt_encI_0_1 l 3
theorem aAt_encL_encI_3 (a0 a1 a2 : List Int) (n : Int) : aAt [.sl 1 []] [.p (.sl 1 (List.map encI a0)), .p (.sl 1 (List.map encI a1)), .p (.sl 1 (List.map encI a2))] n.toNat 1 = [.p (.sl 1 (List.map encI (ix [a0, a1, a2] n)))] := by
  unfold aAt ix
  generalize n.toNat = k
  match k with
  | 0 => rfl
  | 1 => rfl
  | 2 => rfl
  | k + 3 => rw [if_neg (by simp <;> omega)]; rfl
theorem aAt_enc_api_Distribution_3 (a0 a1 a2 : api_Distribution) (n : Int) : aAt [.sl 1 []] [.p (.sl 1 (List.map encI a0.Counts)), .p (.sl 1 (List.map encI a1.Counts)), .p (.sl 1 (List.map encI a2.Counts))] n.toNat 1 = [.p (.sl 1 (List.map encI ((ix [a0, a1, a2] n).Counts)))] := by
  unfold aAt ix
  generalize n.toNat = k
  match k with
  | 0 => rfl
  | 1 => rfl
  | 2 => rfl
  | k + 3 => rw [if_neg (by simp <;> omega)]; rfl
theorem aAt_enc_api_Distribution_3p (a0 a1 a2 : api_Distribution) (n : Int) : ix [a0.Counts, a1.Counts, a2.Counts] n = (ix [a0, a1, a2] n).Counts := by
  unfold ix
  generalize n.toNat = k
  match k with
  | 0 => rfl
  | 1 => rfl
  | 2 => rfl
  | k + 3 => rfl
theorem aAt_enc_api_Ratio_4 (a0 a1 a2 a3 : api_Ratio) (n : Int) : aAt [pi (0 : Int), pi (0 : Int)] [.p (pi a0.Num), .p (pi a0.Den), .p (pi a1.Num), .p (pi a1.Den), .p (pi a2.Num), .p (pi a2.Den), .p (pi a3.Num), .p (pi a3.Den)] n.toNat 2 = [.p (pi ((ix [a0, a1, a2, a3] n).Num)), .p (pi ((ix [a0, a1, a2, a3] n).Den))] := by
  unfold aAt ix
  generalize n.toNat = k
  match k with
  | 0 => rfl
  | 1 => rfl
  | 2 => rfl
  | 3 => rfl
  | k + 4 => rw [if_neg (by simp <;> omega)]; rfl
theorem aAt_enc_api_Ratio_4c (a0_0 a0_1 a1_0 a1_1 a2_0 a2_1 a3_0 a3_1 : Int) (n : Int) : aAt [pi (0 : Int), pi (0 : Int)] [.p (pi a0_0), .p (pi a0_1), .p (pi a1_0), .p (pi a1_1), .p (pi a2_0), .p (pi a2_1), .p (pi a3_0), .p (pi a3_1)] n.toNat 2 = [.p (pi ((ix [(api_Ratio.mk a0_0 a0_1), (api_Ratio.mk a1_0 a1_1), (api_Ratio.mk a2_0 a2_1), (api_Ratio.mk a3_0 a3_1)] n).Num)), .p (pi ((ix [(api_Ratio.mk a0_0 a0_1), (api_Ratio.mk a1_0 a1_1), (api_Ratio.mk a2_0 a2_1), (api_Ratio.mk a3_0 a3_1)] n).Den))] := by
  unfold aAt ix
  generalize n.toNat = k
  match k with
  | 0 => rfl
  | 1 => rfl
  | 2 => rfl
  | 3 => rfl
  | k + 4 => rw [if_neg (by simp <;> omega)]; rfl
theorem aAt_enc_api_Curve_2 (a0 a1 : api_Curve) (n : Int) : aAt [.sl 4 []] [.p (.sl 4 (List.map enc_api_Point a0.Points)), .p (.sl 4 (List.map enc_api_Point a1.Points))] n.toNat 1 = [.p (.sl 4 (List.map enc_api_Point ((ix [a0, a1] n).Points)))] := by
  unfold aAt ix
  generalize n.toNat = k
  match k with
  | 0 => rfl
  | 1 => rfl
  | k + 2 => rw [if_neg (by simp <;> omega)]; rfl
theorem aAt_enc_api_Curve_2p (a0 a1 : api_Curve) (n : Int) : ix [a0.Points, a1.Points] n = (ix [a0, a1] n).Points := by
  unfold ix
  generalize n.toNat = k
  match k with
  | 0 => rfl
  | 1 => rfl
  | k + 2 => rfl
theorem aAt_arr3_encI_3 (a0_0 a0_1 a0_2 a1_0 a1_1 a1_2 a2_0 a2_1 a2_2 : Int) (n : Int) : aAt [pi (0 : Int), pi (0 : Int), pi (0 : Int)] [.p (pi a0_0), .p (pi a0_1), .p (pi a0_2), .p (pi a1_0), .p (pi a1_1), .p (pi a1_2), .p (pi a2_0), .p (pi a2_1), .p (pi a2_2)] n.toNat 3 = [.p (pi (ix (ix [[a0_0, a0_1, a0_2], [a1_0, a1_1, a1_2], [a2_0, a2_1, a2_2]] n) (0 : Int))), .p (pi (ix (ix [[a0_0, a0_1, a0_2], [a1_0, a1_1, a1_2], [a2_0, a2_1, a2_2]] n) (1 : Int))), .p (pi (ix (ix [[a0_0, a0_1, a0_2], [a1_0, a1_1, a1_2], [a2_0, a2_1, a2_2]] n) (2 : Int)))] := by
  unfold aAt ix
  generalize n.toNat = k
  match k with
  | 0 => rfl
  | 1 => rfl
  | 2 => rfl
  | k + 3 => rw [if_neg (by simp <;> omega)]; rfl
theorem aAtk_2_1_0 (z : List PV) (c0 c1 : CV) : aAt z [c0, c1] 0 1 = [c0] := rfl
theorem aAtk_3_1_0 (z : List PV) (c0 c1 c2 : CV) : aAt z [c0, c1, c2] 0 1 = [c0] := rfl
theorem aAtk_3_3_0 (z : List PV) (c0 c1 c2 c3 c4 c5 c6 c7 c8 : CV) : aAt z [c0, c1, c2, c3, c4, c5, c6, c7, c8] 0 3 = [c0, c1, c2] := rfl
theorem aAtk_4_2_0 (z : List PV) (c0 c1 c2 c3 c4 c5 c6 c7 : CV) : aAt z [c0, c1, c2, c3, c4, c5, c6, c7] 0 2 = [c0, c1] := rfl
theorem epAt_encI (l : List Int) (n : Int) : epAt [pi (0 : Int)] (List.map encI l) n.toNat = [pi (ix l n)] := by
  unfold epAt ix
  by_cases h : n.toNat < l.length
  · simp [h, List.getD, encI]
  · simp [h, List.getD]; first | done | exact ⟨rfl, rfl⟩ | rfl | (repeat' apply And.intro) <;> rfl
theorem epAt_encI_k0 (l : List Int) : epAt [pi (0 : Int)] (List.map encI l) 0 = [pi (ix l (0 : Int))] := epAt_encI l 0
theorem epAt_encI_k1 (l : List Int) : epAt [pi (0 : Int)] (List.map encI l) 1 = [pi (ix l (1 : Int))] := epAt_encI l 1
theorem epAt_encI_k2 (l : List Int) : epAt [pi (0 : Int)] (List.map encI l) 2 = [pi (ix l (2 : Int))] := epAt_encI l 2
theorem epAt_encI_k3 (l : List Int) : epAt [pi (0 : Int)] (List.map encI l) 3 = [pi (ix l (3 : Int))] := epAt_encI l 3
theorem epAt_enc_api_Point (l : List api_Point) (n : Int) : epAt [pi (0 : Int), pi (0 : Int), pi (0 : Int), pi (0 : Int)] (List.map enc_api_Point l) n.toNat = [pi (((ix l n).X).Num), pi (((ix l n).X).Den), pi (((ix l n).Y).Num), pi (((ix l n).Y).Den)] := by
  unfold epAt ix
  by_cases h : n.toNat < l.length
  · simp [h, List.getD, enc_api_Point]
  · simp [h, List.getD]; first | done | exact ⟨rfl, rfl⟩ | rfl | (repeat' apply And.intro) <;> rfl
theorem epAt_enc_api_Point_k0 (l : List api_Point) : epAt [pi (0 : Int), pi (0 : Int), pi (0 : Int), pi (0 : Int)] (List.map enc_api_Point l) 0 = [pi (((ix l (0 : Int)).X).Num), pi (((ix l (0 : Int)).X).Den), pi (((ix l (0 : Int)).Y).Num), pi (((ix l (0 : Int)).Y).Den)] := epAt_enc_api_Point l 0
theorem epAt_enc_api_Point_k1 (l : List api_Point) : epAt [pi (0 : Int), pi (0 : Int), pi (0 : Int), pi (0 : Int)] (List.map enc_api_Point l) 1 = [pi (((ix l (1 : Int)).X).Num), pi (((ix l (1 : Int)).X).Den), pi (((ix l (1 : Int)).Y).Num), pi (((ix l (1 : Int)).Y).Den)] := epAt_enc_api_Point l 1
theorem epAt_enc_api_Point_k2 (l : List api_Point) : epAt [pi (0 : Int), pi (0 : Int), pi (0 : Int), pi (0 : Int)] (List.map enc_api_Point l) 2 = [pi (((ix l (2 : Int)).X).Num), pi (((ix l (2 : Int)).X).Den), pi (((ix l (2 : Int)).Y).Num), pi (((ix l (2 : Int)).Y).Den)] := epAt_enc_api_Point l 2
theorem epAt_enc_api_Point_k3 (l : List api_Point) : epAt [pi (0 : Int), pi (0 : Int), pi (0 : Int), pi (0 : Int)] (List.map enc_api_Point l) 3 = [pi (((ix l (3 : Int)).X).Num), pi (((ix l (3 : Int)).X).Den), pi (((ix l (3 : Int)).Y).Num), pi (((ix l (3 : Int)).Y).Den)] := epAt_enc_api_Point l 3
theorem setC_encI_0_1 (l : List Int) (n : Int) (a0 : Int) : setC (List.map encI l) n.toNat 0 [pi a0] = List.map encI (setI l n a0) := by
  unfold setC setI; (try unfold ix)
  by_cases h : n.toNat < l.length
  · simp [h, List.getD, splice, List.map_set, encI]
  · rw [List.set_eq_of_length_le (by simp; omega), List.set_eq_of_length_le (by omega)]
theorem setC_encI_0_1_k0 (l : List Int) (a0 : Int) : setC (List.map encI l) 0 0 [pi a0] = List.map encI (setI l (0 : Int) a0) := setC_encI_0_1 l 0 a0
theorem setC_encI_0_1_k1 (l : List Int) (a0 : Int) : setC (List.map encI l) 1 0 [pi a0] = List.map encI (setI l (1 : Int) a0) := setC_encI_0_1 l 1 a0
theorem setC_encI_0_1_k2 (l : List Int) (a0 : Int) : setC (List.map encI l) 2 0 [pi a0] = List.map encI (setI l (2 : Int) a0) := setC_encI_0_1 l 2 a0
theorem setC_encI_0_1_k3 (l : List Int) (a0 : Int) : setC (List.map encI l) 3 0 [pi a0] = List.map encI (setI l (3 : Int) a0) := setC_encI_0_1 l 3 a0
theorem bs_extract (s : Str) (a b : Nat) : (bs s).extract a b = bs ((s.take b).drop a) := by
  apply ByteArray.ext
  simp [bs, List.drop_take]
attribute [go_sem] bs_extract
theorem strOf_lit1 (x : Int) : bs [byteOf1 [.val (.int .u8 x)]] = bs (strOf [x]) := rfl
theorem isByte_lit (n : Int) : isByte [.val (.int .u8 n)] = True := by simp [isByte]
attribute [go_sem] strOf_lit1 isByte_lit
theorem epAt_c0 (z x0 : List PV) (xs : List (List PV)) : epAt z (x0 :: xs) 0 = x0 := rfl
attribute [go_sem] epAt_c0
theorem epAt_c1 (z x0 x1 : List PV) (xs : List (List PV)) : epAt z (x0 :: x1 :: xs) 1 = x1 := rfl
attribute [go_sem] epAt_c1
theorem epAt_c2 (z x0 x1 x2 : List PV) (xs : List (List PV)) : epAt z (x0 :: x1 :: x2 :: xs) 2 = x2 := rfl
attribute [go_sem] epAt_c2
theorem epAt_c3 (z x0 x1 x2 x3 : List PV) (xs : List (List PV)) : epAt z (x0 :: x1 :: x2 :: x3 :: xs) 3 = x3 := rfl
attribute [go_sem] epAt_c3
theorem bs_ix_k0 (a : Str) : ((((bs a).data.getD 0 0).toNat : Nat) : Int) = sx a 0 := bs_ix a 0
attribute [go_sem] bs_ix_k0
theorem bs_ix_k1 (a : Str) : ((((bs a).data.getD 1 0).toNat : Nat) : Int) = sx a 1 := bs_ix a 1
attribute [go_sem] bs_ix_k1
theorem bs_ix_k2 (a : Str) : ((((bs a).data.getD 2 0).toNat : Nat) : Int) = sx a 2 := bs_ix a 2
attribute [go_sem] bs_ix_k2
theorem bs_ix_k3 (a : Str) : ((((bs a).data.getD 3 0).toNat : Nat) : Int) = sx a 3 := bs_ix a 3
attribute [go_sem] bs_ix_k3
attribute [go_sem] enc_api_Point enc_api_Distribution enc_api_Curve encL_encI enc_api_Ratio apAt_encI_0_1 apAt_encI_0_1_k0 apAt_encI_0_1_k1 apAt_encI_0_1_k2 apAt_encI_0_1_k3 aAt_encL_encI_3 aAt_enc_api_Distribution_3 aAt_enc_api_Distribution_3p aAt_enc_api_Ratio_4 aAt_enc_api_Ratio_4c aAt_enc_api_Curve_2 aAt_enc_api_Curve_2p aAt_arr3_encI_3 aAtk_2_1_0 aAtk_3_1_0 aAtk_3_3_0 aAtk_4_2_0 epAt_encI epAt_encI_k0 epAt_encI_k1 epAt_encI_k2 epAt_encI_k3 epAt_enc_api_Point epAt_enc_api_Point_k0 epAt_enc_api_Point_k1 epAt_enc_api_Point_k2 epAt_enc_api_Point_k3 setC_encI_0_1 setC_encI_0_1_k0 setC_encI_0_1_k1 setC_encI_0_1_k2 setC_encI_0_1_k3
end Go.LS
