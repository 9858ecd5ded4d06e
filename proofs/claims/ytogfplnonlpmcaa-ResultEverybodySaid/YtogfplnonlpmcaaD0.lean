/-
  Plain types of the program and how their values lie in cells. No condition: definitions, printed by dec.py.
-/
import Derived.Test.YtogfplnonlpmcaaLs30
namespace Go.LS
set_option linter.all false
set_option linter.unusedSimpArgs false
set_option linter.unusedVariables false
set_option maxRecDepth 20000

structure mark_Dice where
  L : List Int
  At : Int
deriving DecidableEq
instance : Inhabited mark_Dice := ⟨⟨default, default⟩⟩
structure api_Unit where
  Paper : Int
  Weight : Int
  Max : Int
deriving DecidableEq
instance : Inhabited api_Unit := ⟨⟨default, default, default⟩⟩
structure api_Award where
  Units : List api_Unit
  Bounds : List Int
  Max : Int
deriving DecidableEq
instance : Inhabited api_Award := ⟨⟨default, default, default⟩⟩
def enc_api_Unit (x : api_Unit) : List PV := [pi x.Paper, pi x.Weight, pi x.Max]
structure api_Ratio where
  Num : Int
  Den : Int
deriving DecidableEq
instance : Inhabited api_Ratio := ⟨⟨default, default⟩⟩
structure api_UnitMark where
  Kind : Int
  Value : api_Ratio
deriving DecidableEq
instance : Inhabited api_UnitMark := ⟨⟨default, default⟩⟩
structure api_Standing where
  Candidate : Int
  Units : List api_UnitMark
  Special : Int
deriving DecidableEq
instance : Inhabited api_Standing := ⟨⟨default, default, default⟩⟩
def enc_api_UnitMark (x : api_UnitMark) : List PV := [pi x.Kind, pi x.Value.Num, pi x.Value.Den]
def enc_api_Standing (x : api_Standing) : List PV := [pi x.Candidate, .sl 3 (List.map enc_api_UnitMark x.Units), pi x.Special]
structure api_Outcome where
  Candidate : Int
  Kind : Int
  Grade : Int
  Total : Int
  Reason : Int
deriving DecidableEq
instance : Inhabited api_Outcome := ⟨⟨default, default, default, default, default⟩⟩
def enc_api_Outcome (x : api_Outcome) : List PV := [pi x.Candidate, pi x.Kind, pi x.Grade, pi x.Total, pi x.Reason]
structure ref01_Wide where
  Hi : Int
  Lo : Int
deriving DecidableEq
instance : Inhabited ref01_Wide := ⟨⟨default, default⟩⟩
def enc_api_Ratio (x : api_Ratio) : List PV := [pi x.Num, pi x.Den]
structure api_Change where
  Candidate : Int
  Reason : Int
  Old : api_Outcome
  New : api_Outcome
deriving DecidableEq
instance : Inhabited api_Change := ⟨⟨default, default, default, default⟩⟩
def enc_api_Change (x : api_Change) : List PV := [pi x.Candidate, pi x.Reason, pi x.Old.Candidate, pi x.Old.Kind, pi x.Old.Grade, pi x.Old.Total, pi x.Old.Reason, pi x.New.Candidate, pi x.New.Kind, pi x.New.Grade, pi x.New.Total, pi x.New.Reason]
structure ratio_wide where
  hi : Int
  lo : Int
deriving DecidableEq
instance : Inhabited ratio_wide := ⟨⟨default, default⟩⟩
structure ratio_signed where
  neg : Bool
  abs : ratio_wide
deriving DecidableEq
instance : Inhabited ratio_signed := ⟨⟨default, default⟩⟩
theorem epAt_encI (l : List Int) (n : Int) : epAt [pi (0 : Int)] (List.map encI l) n.toNat = [pi (ix l n)] := by
  unfold epAt ix
  by_cases h : n.toNat < l.length
  · simp [h, List.getD, encI]
  · simp [h, List.getD]; first | done | exact ⟨rfl, rfl⟩ | rfl | (repeat' apply And.intro) <;> rfl
theorem epAt_encI_k0 (l : List Int) : epAt [pi (0 : Int)] (List.map encI l) 0 = [pi (ix l (0 : Int))] := epAt_encI l 0
theorem epAt_encI_k1 (l : List Int) : epAt [pi (0 : Int)] (List.map encI l) 1 = [pi (ix l (1 : Int))] := epAt_encI l 1
theorem epAt_encI_k2 (l : List Int) : epAt [pi (0 : Int)] (List.map encI l) 2 = [pi (ix l (2 : Int))] := epAt_encI l 2
theorem epAt_encI_k3 (l : List Int) : epAt [pi (0 : Int)] (List.map encI l) 3 = [pi (ix l (3 : Int))] := epAt_encI l 3
theorem epAt_enc_api_Ratio (l : List api_Ratio) (n : Int) : epAt [pi (0 : Int), pi (0 : Int)] (List.map enc_api_Ratio l) n.toNat = [pi ((ix l n).Num), pi ((ix l n).Den)] := by
  unfold epAt ix
  by_cases h : n.toNat < l.length
  · simp [h, List.getD, enc_api_Ratio]
  · simp [h, List.getD]; first | done | exact ⟨rfl, rfl⟩ | rfl | (repeat' apply And.intro) <;> rfl
theorem epAt_enc_api_Ratio_k0 (l : List api_Ratio) : epAt [pi (0 : Int), pi (0 : Int)] (List.map enc_api_Ratio l) 0 = [pi ((ix l (0 : Int)).Num), pi ((ix l (0 : Int)).Den)] := epAt_enc_api_Ratio l 0
theorem epAt_enc_api_Ratio_k1 (l : List api_Ratio) : epAt [pi (0 : Int), pi (0 : Int)] (List.map enc_api_Ratio l) 1 = [pi ((ix l (1 : Int)).Num), pi ((ix l (1 : Int)).Den)] := epAt_enc_api_Ratio l 1
theorem epAt_enc_api_Ratio_k2 (l : List api_Ratio) : epAt [pi (0 : Int), pi (0 : Int)] (List.map enc_api_Ratio l) 2 = [pi ((ix l (2 : Int)).Num), pi ((ix l (2 : Int)).Den)] := epAt_enc_api_Ratio l 2
theorem epAt_enc_api_Ratio_k3 (l : List api_Ratio) : epAt [pi (0 : Int), pi (0 : Int)] (List.map enc_api_Ratio l) 3 = [pi ((ix l (3 : Int)).Num), pi ((ix l (3 : Int)).Den)] := epAt_enc_api_Ratio l 3
theorem epAt_enc_api_UnitMark (l : List api_UnitMark) (n : Int) : epAt [pi (0 : Int), pi (0 : Int), pi (0 : Int)] (List.map enc_api_UnitMark l) n.toNat = [pi ((ix l n).Kind), pi (((ix l n).Value).Num), pi (((ix l n).Value).Den)] := by
  unfold epAt ix
  by_cases h : n.toNat < l.length
  · simp [h, List.getD, enc_api_UnitMark]
  · simp [h, List.getD]; first | done | exact ⟨rfl, rfl⟩ | rfl | (repeat' apply And.intro) <;> rfl
theorem epAt_enc_api_UnitMark_k0 (l : List api_UnitMark) : epAt [pi (0 : Int), pi (0 : Int), pi (0 : Int)] (List.map enc_api_UnitMark l) 0 = [pi ((ix l (0 : Int)).Kind), pi (((ix l (0 : Int)).Value).Num), pi (((ix l (0 : Int)).Value).Den)] := epAt_enc_api_UnitMark l 0
theorem epAt_enc_api_UnitMark_k1 (l : List api_UnitMark) : epAt [pi (0 : Int), pi (0 : Int), pi (0 : Int)] (List.map enc_api_UnitMark l) 1 = [pi ((ix l (1 : Int)).Kind), pi (((ix l (1 : Int)).Value).Num), pi (((ix l (1 : Int)).Value).Den)] := epAt_enc_api_UnitMark l 1
theorem epAt_enc_api_UnitMark_k2 (l : List api_UnitMark) : epAt [pi (0 : Int), pi (0 : Int), pi (0 : Int)] (List.map enc_api_UnitMark l) 2 = [pi ((ix l (2 : Int)).Kind), pi (((ix l (2 : Int)).Value).Num), pi (((ix l (2 : Int)).Value).Den)] := epAt_enc_api_UnitMark l 2
theorem epAt_enc_api_UnitMark_k3 (l : List api_UnitMark) : epAt [pi (0 : Int), pi (0 : Int), pi (0 : Int)] (List.map enc_api_UnitMark l) 3 = [pi ((ix l (3 : Int)).Kind), pi (((ix l (3 : Int)).Value).Num), pi (((ix l (3 : Int)).Value).Den)] := epAt_enc_api_UnitMark l 3
theorem epAt_enc_api_Unit (l : List api_Unit) (n : Int) : epAt [pi (0 : Int), pi (0 : Int), pi (0 : Int)] (List.map enc_api_Unit l) n.toNat = [pi ((ix l n).Paper), pi ((ix l n).Weight), pi ((ix l n).Max)] := by
  unfold epAt ix
  by_cases h : n.toNat < l.length
  · simp [h, List.getD, enc_api_Unit]
  · simp [h, List.getD]; first | done | exact ⟨rfl, rfl⟩ | rfl | (repeat' apply And.intro) <;> rfl
theorem epAt_enc_api_Unit_k0 (l : List api_Unit) : epAt [pi (0 : Int), pi (0 : Int), pi (0 : Int)] (List.map enc_api_Unit l) 0 = [pi ((ix l (0 : Int)).Paper), pi ((ix l (0 : Int)).Weight), pi ((ix l (0 : Int)).Max)] := epAt_enc_api_Unit l 0
theorem epAt_enc_api_Unit_k1 (l : List api_Unit) : epAt [pi (0 : Int), pi (0 : Int), pi (0 : Int)] (List.map enc_api_Unit l) 1 = [pi ((ix l (1 : Int)).Paper), pi ((ix l (1 : Int)).Weight), pi ((ix l (1 : Int)).Max)] := epAt_enc_api_Unit l 1
theorem epAt_enc_api_Unit_k2 (l : List api_Unit) : epAt [pi (0 : Int), pi (0 : Int), pi (0 : Int)] (List.map enc_api_Unit l) 2 = [pi ((ix l (2 : Int)).Paper), pi ((ix l (2 : Int)).Weight), pi ((ix l (2 : Int)).Max)] := epAt_enc_api_Unit l 2
theorem epAt_enc_api_Unit_k3 (l : List api_Unit) : epAt [pi (0 : Int), pi (0 : Int), pi (0 : Int)] (List.map enc_api_Unit l) 3 = [pi ((ix l (3 : Int)).Paper), pi ((ix l (3 : Int)).Weight), pi ((ix l (3 : Int)).Max)] := epAt_enc_api_Unit l 3
theorem epAt_enc_api_Outcome (l : List api_Outcome) (n : Int) : epAt [pi (0 : Int), pi (0 : Int), pi (0 : Int), pi (0 : Int), pi (0 : Int)] (List.map enc_api_Outcome l) n.toNat = [pi ((ix l n).Candidate), pi ((ix l n).Kind), pi ((ix l n).Grade), pi ((ix l n).Total), pi ((ix l n).Reason)] := by
  unfold epAt ix
  by_cases h : n.toNat < l.length
  · simp [h, List.getD, enc_api_Outcome]
  · simp [h, List.getD]; first | done | exact ⟨rfl, rfl⟩ | rfl | (repeat' apply And.intro) <;> rfl
theorem epAt_enc_api_Outcome_k0 (l : List api_Outcome) : epAt [pi (0 : Int), pi (0 : Int), pi (0 : Int), pi (0 : Int), pi (0 : Int)] (List.map enc_api_Outcome l) 0 = [pi ((ix l (0 : Int)).Candidate), pi ((ix l (0 : Int)).Kind), pi ((ix l (0 : Int)).Grade), pi ((ix l (0 : Int)).Total), pi ((ix l (0 : Int)).Reason)] := epAt_enc_api_Outcome l 0
theorem epAt_enc_api_Outcome_k1 (l : List api_Outcome) : epAt [pi (0 : Int), pi (0 : Int), pi (0 : Int), pi (0 : Int), pi (0 : Int)] (List.map enc_api_Outcome l) 1 = [pi ((ix l (1 : Int)).Candidate), pi ((ix l (1 : Int)).Kind), pi ((ix l (1 : Int)).Grade), pi ((ix l (1 : Int)).Total), pi ((ix l (1 : Int)).Reason)] := epAt_enc_api_Outcome l 1
theorem epAt_enc_api_Outcome_k2 (l : List api_Outcome) : epAt [pi (0 : Int), pi (0 : Int), pi (0 : Int), pi (0 : Int), pi (0 : Int)] (List.map enc_api_Outcome l) 2 = [pi ((ix l (2 : Int)).Candidate), pi ((ix l (2 : Int)).Kind), pi ((ix l (2 : Int)).Grade), pi ((ix l (2 : Int)).Total), pi ((ix l (2 : Int)).Reason)] := epAt_enc_api_Outcome l 2
theorem epAt_enc_api_Outcome_k3 (l : List api_Outcome) : epAt [pi (0 : Int), pi (0 : Int), pi (0 : Int), pi (0 : Int), pi (0 : Int)] (List.map enc_api_Outcome l) 3 = [pi ((ix l (3 : Int)).Candidate), pi ((ix l (3 : Int)).Kind), pi ((ix l (3 : Int)).Grade), pi ((ix l (3 : Int)).Total), pi ((ix l (3 : Int)).Reason)] := epAt_enc_api_Outcome l 3
theorem epAt_enc_api_Standing (l : List api_Standing) (n : Int) : epAt [pi (0 : Int), .sl 3 [], pi (0 : Int)] (List.map enc_api_Standing l) n.toNat = [pi ((ix l n).Candidate), .sl 3 (List.map enc_api_UnitMark ((ix l n).Units)), pi ((ix l n).Special)] := by
  unfold epAt ix
  by_cases h : n.toNat < l.length
  · simp [h, List.getD, enc_api_Standing]
  · simp [h, List.getD]; first | done | exact ⟨rfl, rfl⟩ | rfl | (repeat' apply And.intro) <;> rfl
theorem epAt_enc_api_Standing_k0 (l : List api_Standing) : epAt [pi (0 : Int), .sl 3 [], pi (0 : Int)] (List.map enc_api_Standing l) 0 = [pi ((ix l (0 : Int)).Candidate), .sl 3 (List.map enc_api_UnitMark ((ix l (0 : Int)).Units)), pi ((ix l (0 : Int)).Special)] := epAt_enc_api_Standing l 0
theorem epAt_enc_api_Standing_k1 (l : List api_Standing) : epAt [pi (0 : Int), .sl 3 [], pi (0 : Int)] (List.map enc_api_Standing l) 1 = [pi ((ix l (1 : Int)).Candidate), .sl 3 (List.map enc_api_UnitMark ((ix l (1 : Int)).Units)), pi ((ix l (1 : Int)).Special)] := epAt_enc_api_Standing l 1
theorem epAt_enc_api_Standing_k2 (l : List api_Standing) : epAt [pi (0 : Int), .sl 3 [], pi (0 : Int)] (List.map enc_api_Standing l) 2 = [pi ((ix l (2 : Int)).Candidate), .sl 3 (List.map enc_api_UnitMark ((ix l (2 : Int)).Units)), pi ((ix l (2 : Int)).Special)] := epAt_enc_api_Standing l 2
theorem epAt_enc_api_Standing_k3 (l : List api_Standing) : epAt [pi (0 : Int), .sl 3 [], pi (0 : Int)] (List.map enc_api_Standing l) 3 = [pi ((ix l (3 : Int)).Candidate), .sl 3 (List.map enc_api_UnitMark ((ix l (3 : Int)).Units)), pi ((ix l (3 : Int)).Special)] := epAt_enc_api_Standing l 3
theorem epAt_enc_api_Change (l : List api_Change) (n : Int) : epAt [pi (0 : Int), pi (0 : Int), pi (0 : Int), pi (0 : Int), pi (0 : Int), pi (0 : Int), pi (0 : Int), pi (0 : Int), pi (0 : Int), pi (0 : Int), pi (0 : Int), pi (0 : Int)] (List.map enc_api_Change l) n.toNat = [pi ((ix l n).Candidate), pi ((ix l n).Reason), pi (((ix l n).Old).Candidate), pi (((ix l n).Old).Kind), pi (((ix l n).Old).Grade), pi (((ix l n).Old).Total), pi (((ix l n).Old).Reason), pi (((ix l n).New).Candidate), pi (((ix l n).New).Kind), pi (((ix l n).New).Grade), pi (((ix l n).New).Total), pi (((ix l n).New).Reason)] := by
  unfold epAt ix
  by_cases h : n.toNat < l.length
  · simp [h, List.getD, enc_api_Change]
  · simp [h, List.getD]; first | done | exact ⟨rfl, rfl⟩ | rfl | (repeat' apply And.intro) <;> rfl
theorem epAt_enc_api_Change_k0 (l : List api_Change) : epAt [pi (0 : Int), pi (0 : Int), pi (0 : Int), pi (0 : Int), pi (0 : Int), pi (0 : Int), pi (0 : Int), pi (0 : Int), pi (0 : Int), pi (0 : Int), pi (0 : Int), pi (0 : Int)] (List.map enc_api_Change l) 0 = [pi ((ix l (0 : Int)).Candidate), pi ((ix l (0 : Int)).Reason), pi (((ix l (0 : Int)).Old).Candidate), pi (((ix l (0 : Int)).Old).Kind), pi (((ix l (0 : Int)).Old).Grade), pi (((ix l (0 : Int)).Old).Total), pi (((ix l (0 : Int)).Old).Reason), pi (((ix l (0 : Int)).New).Candidate), pi (((ix l (0 : Int)).New).Kind), pi (((ix l (0 : Int)).New).Grade), pi (((ix l (0 : Int)).New).Total), pi (((ix l (0 : Int)).New).Reason)] := epAt_enc_api_Change l 0
theorem epAt_enc_api_Change_k1 (l : List api_Change) : epAt [pi (0 : Int), pi (0 : Int), pi (0 : Int), pi (0 : Int), pi (0 : Int), pi (0 : Int), pi (0 : Int), pi (0 : Int), pi (0 : Int), pi (0 : Int), pi (0 : Int), pi (0 : Int)] (List.map enc_api_Change l) 1 = [pi ((ix l (1 : Int)).Candidate), pi ((ix l (1 : Int)).Reason), pi (((ix l (1 : Int)).Old).Candidate), pi (((ix l (1 : Int)).Old).Kind), pi (((ix l (1 : Int)).Old).Grade), pi (((ix l (1 : Int)).Old).Total), pi (((ix l (1 : Int)).Old).Reason), pi (((ix l (1 : Int)).New).Candidate), pi (((ix l (1 : Int)).New).Kind), pi (((ix l (1 : Int)).New).Grade), pi (((ix l (1 : Int)).New).Total), pi (((ix l (1 : Int)).New).Reason)] := epAt_enc_api_Change l 1
theorem epAt_enc_api_Change_k2 (l : List api_Change) : epAt [pi (0 : Int), pi (0 : Int), pi (0 : Int), pi (0 : Int), pi (0 : Int), pi (0 : Int), pi (0 : Int), pi (0 : Int), pi (0 : Int), pi (0 : Int), pi (0 : Int), pi (0 : Int)] (List.map enc_api_Change l) 2 = [pi ((ix l (2 : Int)).Candidate), pi ((ix l (2 : Int)).Reason), pi (((ix l (2 : Int)).Old).Candidate), pi (((ix l (2 : Int)).Old).Kind), pi (((ix l (2 : Int)).Old).Grade), pi (((ix l (2 : Int)).Old).Total), pi (((ix l (2 : Int)).Old).Reason), pi (((ix l (2 : Int)).New).Candidate), pi (((ix l (2 : Int)).New).Kind), pi (((ix l (2 : Int)).New).Grade), pi (((ix l (2 : Int)).New).Total), pi (((ix l (2 : Int)).New).Reason)] := epAt_enc_api_Change l 2
theorem epAt_enc_api_Change_k3 (l : List api_Change) : epAt [pi (0 : Int), pi (0 : Int), pi (0 : Int), pi (0 : Int), pi (0 : Int), pi (0 : Int), pi (0 : Int), pi (0 : Int), pi (0 : Int), pi (0 : Int), pi (0 : Int), pi (0 : Int)] (List.map enc_api_Change l) 3 = [pi ((ix l (3 : Int)).Candidate), pi ((ix l (3 : Int)).Reason), pi (((ix l (3 : Int)).Old).Candidate), pi (((ix l (3 : Int)).Old).Kind), pi (((ix l (3 : Int)).Old).Grade), pi (((ix l (3 : Int)).Old).Total), pi (((ix l (3 : Int)).Old).Reason), pi (((ix l (3 : Int)).New).Candidate), pi (((ix l (3 : Int)).New).Kind), pi (((ix l (3 : Int)).New).Grade), pi (((ix l (3 : Int)).New).Total), pi (((ix l (3 : Int)).New).Reason)] := epAt_enc_api_Change l 3
theorem setC_enc_api_Outcome_0_5 (l : List api_Outcome) (n : Int) (a0 : Int) (a1 : Int) (a2 : Int) (a3 : Int) (a4 : Int) : setC (List.map enc_api_Outcome l) n.toNat 0 [pi a0, pi a1, pi a2, pi a3, pi a4] = List.map enc_api_Outcome (setI l n (api_Outcome.mk a0 a1 a2 a3 a4)) := by
  unfold setC setI; (try unfold ix)
  by_cases h : n.toNat < l.length
  · simp [h, List.getD, splice, List.map_set, enc_api_Outcome]
  · rw [List.set_eq_of_length_le (by simp; omega), List.set_eq_of_length_le (by omega)]
theorem setC_enc_api_Outcome_0_5_k0 (l : List api_Outcome) (a0 : Int) (a1 : Int) (a2 : Int) (a3 : Int) (a4 : Int) : setC (List.map enc_api_Outcome l) 0 0 [pi a0, pi a1, pi a2, pi a3, pi a4] = List.map enc_api_Outcome (setI l (0 : Int) (api_Outcome.mk a0 a1 a2 a3 a4)) := setC_enc_api_Outcome_0_5 l 0 a0 a1 a2 a3 a4
theorem setC_enc_api_Outcome_0_5_k1 (l : List api_Outcome) (a0 : Int) (a1 : Int) (a2 : Int) (a3 : Int) (a4 : Int) : setC (List.map enc_api_Outcome l) 1 0 [pi a0, pi a1, pi a2, pi a3, pi a4] = List.map enc_api_Outcome (setI l (1 : Int) (api_Outcome.mk a0 a1 a2 a3 a4)) := setC_enc_api_Outcome_0_5 l 1 a0 a1 a2 a3 a4
theorem setC_enc_api_Outcome_0_5_k2 (l : List api_Outcome) (a0 : Int) (a1 : Int) (a2 : Int) (a3 : Int) (a4 : Int) : setC (List.map enc_api_Outcome l) 2 0 [pi a0, pi a1, pi a2, pi a3, pi a4] = List.map enc_api_Outcome (setI l (2 : Int) (api_Outcome.mk a0 a1 a2 a3 a4)) := setC_enc_api_Outcome_0_5 l 2 a0 a1 a2 a3 a4
theorem setC_enc_api_Outcome_0_5_k3 (l : List api_Outcome) (a0 : Int) (a1 : Int) (a2 : Int) (a3 : Int) (a4 : Int) : setC (List.map enc_api_Outcome l) 3 0 [pi a0, pi a1, pi a2, pi a3, pi a4] = List.map enc_api_Outcome (setI l (3 : Int) (api_Outcome.mk a0 a1 a2 a3 a4)) := setC_enc_api_Outcome_0_5 l 3 a0 a1 a2 a3 a4
theorem bs_extract (s : Str) (a b : Nat) : (bs s).extract a b = bs ((s.take b).drop a) := by
  apply ByteArray.ext
  simp [bs, List.drop_take]
attribute [go_sem] bs_extract
theorem strOf_lit1 (x : Int) : bs [byteOf1 [.val (.int .u8 x)]] = bs (strOf [x]) := rfl
theorem isByte_lit (n : Int) : isByte [.val (.int .u8 n)] = True := by simp [isByte]
attribute [go_sem] strOf_lit1 isByte_lit
theorem epAt_c0 (z x0 : List PV) (xs : List (List PV)) : epAt z (x0 :: xs) 0 = x0 := rfl
attribute [go_sem] epAt_c0
theorem epAt_c1 (z x0 x1 : List PV) (xs : List (List PV)) : epAt z (x0 :: x1 :: xs) 1 = x1 := rfl
attribute [go_sem] epAt_c1
theorem epAt_c2 (z x0 x1 x2 : List PV) (xs : List (List PV)) : epAt z (x0 :: x1 :: x2 :: xs) 2 = x2 := rfl
attribute [go_sem] epAt_c2
theorem epAt_c3 (z x0 x1 x2 x3 : List PV) (xs : List (List PV)) : epAt z (x0 :: x1 :: x2 :: x3 :: xs) 3 = x3 := rfl
attribute [go_sem] epAt_c3
theorem bs_ix_k0 (a : Str) : ((((bs a).data.getD 0 0).toNat : Nat) : Int) = sx a 0 := bs_ix a 0
attribute [go_sem] bs_ix_k0
theorem bs_ix_k1 (a : Str) : ((((bs a).data.getD 1 0).toNat : Nat) : Int) = sx a 1 := bs_ix a 1
attribute [go_sem] bs_ix_k1
theorem bs_ix_k2 (a : Str) : ((((bs a).data.getD 2 0).toNat : Nat) : Int) = sx a 2 := bs_ix a 2
attribute [go_sem] bs_ix_k2
theorem bs_ix_k3 (a : Str) : ((((bs a).data.getD 3 0).toNat : Nat) : Int) = sx a 3 := bs_ix a 3
attribute [go_sem] bs_ix_k3
attribute [go_sem] enc_api_Unit enc_api_UnitMark enc_api_Standing enc_api_Outcome enc_api_Ratio enc_api_Change epAt_encI epAt_encI_k0 epAt_encI_k1 epAt_encI_k2 epAt_encI_k3 epAt_enc_api_Ratio epAt_enc_api_Ratio_k0 epAt_enc_api_Ratio_k1 epAt_enc_api_Ratio_k2 epAt_enc_api_Ratio_k3 epAt_enc_api_UnitMark epAt_enc_api_UnitMark_k0 epAt_enc_api_UnitMark_k1 epAt_enc_api_UnitMark_k2 epAt_enc_api_UnitMark_k3 epAt_enc_api_Unit epAt_enc_api_Unit_k0 epAt_enc_api_Unit_k1 epAt_enc_api_Unit_k2 epAt_enc_api_Unit_k3 epAt_enc_api_Outcome epAt_enc_api_Outcome_k0 epAt_enc_api_Outcome_k1 epAt_enc_api_Outcome_k2 epAt_enc_api_Outcome_k3 epAt_enc_api_Standing epAt_enc_api_Standing_k0 epAt_enc_api_Standing_k1 epAt_enc_api_Standing_k2 epAt_enc_api_Standing_k3 epAt_enc_api_Change epAt_enc_api_Change_k0 epAt_enc_api_Change_k1 epAt_enc_api_Change_k2 epAt_enc_api_Change_k3 setC_enc_api_Outcome_0_5 setC_enc_api_Outcome_0_5_k0 setC_enc_api_Outcome_0_5_k1 setC_enc_api_Outcome_0_5_k2 setC_enc_api_Outcome_0_5_k3
end Go.LS
