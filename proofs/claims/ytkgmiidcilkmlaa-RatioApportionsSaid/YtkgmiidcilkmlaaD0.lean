/-
  Plain types of the program and how their values lie in cells. No condition: definitions, printed by dec.py.
-/
import Derived.Test.YtkgmiidcilkmlaaLs30
namespace Go.LS
set_option linter.all false
set_option linter.unusedSimpArgs false
set_option linter.unusedVariables false
set_option maxRecDepth 20000

structure api_Ratio where
  Num : Int
  Den : Int
deriving DecidableEq
instance : Inhabited api_Ratio := ⟨⟨default, default⟩⟩
structure ratio_wide where
  hi : Int
  lo : Int
deriving DecidableEq
instance : Inhabited ratio_wide := ⟨⟨default, default⟩⟩
structure ratio_signed where
  neg : Bool
  abs : ratio_wide
deriving DecidableEq
instance : Inhabited ratio_signed := ⟨⟨default, default⟩⟩
theorem apAt_encI_0_1 (l : List Int) (n : Int) : apAt [pi (0 : Int)] (List.map encI l) n.toNat 0 1 = [pi (ix l n)] := by
  unfold apAt ix
  by_cases h : n.toNat < l.length
  · simp [h, List.getD, encI]
  · simp [h, List.getD]; first | done | rfl | (repeat' apply And.intro) <;> rfl
theorem apAt_encI_0_1_k0 (l : List Int) : apAt [pi (0 : Int)] (List.map encI l) 0 0 1 = [pi (ix l (0 : Int))] := apAt_encI_0_1 l 0
theorem apAt_encI_0_1_k1 (l : List Int) : apAt [pi (0 : Int)] (List.map encI l) 1 0 1 = [pi (ix l (1 : Int))] := apAt_encI_0_1 l 1
theorem apAt_encI_0_1_k2 (l : List Int) : apAt [pi (0 : Int)] (List.map encI l) 2 0 1 = [pi (ix l (2 : Int))] := apAt_encI_0_1 l 2
theorem apAt_encI_0_1_k3 (l : List Int) : apAt [pi (0 : Int)] (List.map encI l) 3 0 1 = [pi (ix l (3 : Int))] := apAt_encI_0_1 l 3
theorem epAt_encI (l : List Int) (n : Int) : epAt [pi (0 : Int)] (List.map encI l) n.toNat = [pi (ix l n)] := by
  unfold epAt ix
  by_cases h : n.toNat < l.length
  · simp [h, List.getD, encI]
  · simp [h, List.getD]; first | done | exact ⟨rfl, rfl⟩ | rfl | (repeat' apply And.intro) <;> rfl
theorem epAt_encI_k0 (l : List Int) : epAt [pi (0 : Int)] (List.map encI l) 0 = [pi (ix l (0 : Int))] := epAt_encI l 0
theorem epAt_encI_k1 (l : List Int) : epAt [pi (0 : Int)] (List.map encI l) 1 = [pi (ix l (1 : Int))] := epAt_encI l 1
theorem epAt_encI_k2 (l : List Int) : epAt [pi (0 : Int)] (List.map encI l) 2 = [pi (ix l (2 : Int))] := epAt_encI l 2
theorem epAt_encI_k3 (l : List Int) : epAt [pi (0 : Int)] (List.map encI l) 3 = [pi (ix l (3 : Int))] := epAt_encI l 3
theorem setC_encI_0_1 (l : List Int) (n : Int) (a0 : Int) : setC (List.map encI l) n.toNat 0 [pi a0] = List.map encI (setI l n a0) := by
  unfold setC setI; (try unfold ix)
  by_cases h : n.toNat < l.length
  · simp [h, List.getD, splice, List.map_set, encI]
  · rw [List.set_eq_of_length_le (by simp; omega), List.set_eq_of_length_le (by omega)]
theorem setC_encI_0_1_k0 (l : List Int) (a0 : Int) : setC (List.map encI l) 0 0 [pi a0] = List.map encI (setI l (0 : Int) a0) := setC_encI_0_1 l 0 a0
theorem setC_encI_0_1_k1 (l : List Int) (a0 : Int) : setC (List.map encI l) 1 0 [pi a0] = List.map encI (setI l (1 : Int) a0) := setC_encI_0_1 l 1 a0
theorem setC_encI_0_1_k2 (l : List Int) (a0 : Int) : setC (List.map encI l) 2 0 [pi a0] = List.map encI (setI l (2 : Int) a0) := setC_encI_0_1 l 2 a0
theorem setC_encI_0_1_k3 (l : List Int) (a0 : Int) : setC (List.map encI l) 3 0 [pi a0] = List.map encI (setI l (3 : Int) a0) := setC_encI_0_1 l 3 a0
theorem bs_extract (s : Str) (a b : Nat) : (bs s).extract a b = bs ((s.take b).drop a) := by
  apply ByteArray.ext
  simp [bs, List.drop_take]
attribute [go_sem] bs_extract
theorem strOf_lit1 (x : Int) : bs [byteOf1 [.val (.int .u8 x)]] = bs (strOf [x]) := rfl
theorem isByte_lit (n : Int) : isByte [.val (.int .u8 n)] = True := by simp [isByte]
attribute [go_sem] strOf_lit1 isByte_lit
theorem epAt_c0 (z x0 : List PV) (xs : List (List PV)) : epAt z (x0 :: xs) 0 = x0 := rfl
attribute [go_sem] epAt_c0
theorem epAt_c1 (z x0 x1 : List PV) (xs : List (List PV)) : epAt z (x0 :: x1 :: xs) 1 = x1 := rfl
attribute [go_sem] epAt_c1
theorem epAt_c2 (z x0 x1 x2 : List PV) (xs : List (List PV)) : epAt z (x0 :: x1 :: x2 :: xs) 2 = x2 := rfl
attribute [go_sem] epAt_c2
theorem epAt_c3 (z x0 x1 x2 x3 : List PV) (xs : List (List PV)) : epAt z (x0 :: x1 :: x2 :: x3 :: xs) 3 = x3 := rfl
attribute [go_sem] epAt_c3
theorem bs_ix_k0 (a : Str) : ((((bs a).data.getD 0 0).toNat : Nat) : Int) = sx a 0 := bs_ix a 0
attribute [go_sem] bs_ix_k0
theorem bs_ix_k1 (a : Str) : ((((bs a).data.getD 1 0).toNat : Nat) : Int) = sx a 1 := bs_ix a 1
attribute [go_sem] bs_ix_k1
theorem bs_ix_k2 (a : Str) : ((((bs a).data.getD 2 0).toNat : Nat) : Int) = sx a 2 := bs_ix a 2
attribute [go_sem] bs_ix_k2
theorem bs_ix_k3 (a : Str) : ((((bs a).data.getD 3 0).toNat : Nat) : Int) = sx a 3 := bs_ix a 3
attribute [go_sem] bs_ix_k3
attribute [go_sem] apAt_encI_0_1 apAt_encI_0_1_k0 apAt_encI_0_1_k1 apAt_encI_0_1_k2 apAt_encI_0_1_k3 epAt_encI epAt_encI_k0 epAt_encI_k1 epAt_encI_k2 epAt_encI_k3 setC_encI_0_1 setC_encI_0_1_k0 setC_encI_0_1_k1 setC_encI_0_1_k2 setC_encI_0_1_k3
end Go.LS
