/-
  Plain types of the program and how their values lie in cells. No condition: definitions, printed by dec.py.
-/
import Derived.Test.YtdhhopobephbnaaLs30
namespace Go.LS
set_option linter.all false
set_option linter.unusedSimpArgs false
set_option linter.unusedVariables false
set_option maxRecDepth 20000

structure make_Tape where
  L : List Int
  At : Int
deriving DecidableEq
instance : Inhabited make_Tape := ⟨⟨default, default⟩⟩
structure api_AccessRule where
  Kind : Int
  Least : Int
  Extra : Int
  Needs : Int
deriving DecidableEq
instance : Inhabited api_AccessRule := ⟨⟨default, default, default, default⟩⟩
def enc_api_AccessRule (x : api_AccessRule) : List PV := [pi x.Kind, pi x.Least, pi x.Extra, pi x.Needs]
structure api_Access where
  Extra : Int
  Needs : Int
deriving DecidableEq
instance : Inhabited api_Access := ⟨⟨default, default⟩⟩
structure api_Evidence where
  Candidate : Int
  Kind : Int
  Level : Int
  From : Int
  Until : Int
deriving DecidableEq
instance : Inhabited api_Evidence := ⟨⟨default, default, default, default, default⟩⟩
def enc_api_Evidence (x : api_Evidence) : List PV := [pi x.Candidate, pi x.Kind, pi x.Level, pi x.From, pi x.Until]
def enc_api_Access (x : api_Access) : List PV := [pi x.Extra, pi x.Needs]
theorem epAt_enc_api_AccessRule (l : List api_AccessRule) (n : Int) : epAt [pi (0 : Int), pi (0 : Int), pi (0 : Int), pi (0 : Int)] (List.map enc_api_AccessRule l) n.toNat = [pi ((ix l n).Kind), pi ((ix l n).Least), pi ((ix l n).Extra), pi ((ix l n).Needs)] := by
  unfold epAt ix
  by_cases h : n.toNat < l.length
  · simp [h, List.getD, enc_api_AccessRule]
  · simp [h, List.getD]; first | done | exact ⟨rfl, rfl⟩ | rfl | (repeat' apply And.intro) <;> rfl
theorem epAt_enc_api_AccessRule_k0 (l : List api_AccessRule) : epAt [pi (0 : Int), pi (0 : Int), pi (0 : Int), pi (0 : Int)] (List.map enc_api_AccessRule l) 0 = [pi ((ix l (0 : Int)).Kind), pi ((ix l (0 : Int)).Least), pi ((ix l (0 : Int)).Extra), pi ((ix l (0 : Int)).Needs)] := epAt_enc_api_AccessRule l 0
theorem epAt_enc_api_AccessRule_k1 (l : List api_AccessRule) : epAt [pi (0 : Int), pi (0 : Int), pi (0 : Int), pi (0 : Int)] (List.map enc_api_AccessRule l) 1 = [pi ((ix l (1 : Int)).Kind), pi ((ix l (1 : Int)).Least), pi ((ix l (1 : Int)).Extra), pi ((ix l (1 : Int)).Needs)] := epAt_enc_api_AccessRule l 1
theorem epAt_enc_api_AccessRule_k2 (l : List api_AccessRule) : epAt [pi (0 : Int), pi (0 : Int), pi (0 : Int), pi (0 : Int)] (List.map enc_api_AccessRule l) 2 = [pi ((ix l (2 : Int)).Kind), pi ((ix l (2 : Int)).Least), pi ((ix l (2 : Int)).Extra), pi ((ix l (2 : Int)).Needs)] := epAt_enc_api_AccessRule l 2
theorem epAt_enc_api_AccessRule_k3 (l : List api_AccessRule) : epAt [pi (0 : Int), pi (0 : Int), pi (0 : Int), pi (0 : Int)] (List.map enc_api_AccessRule l) 3 = [pi ((ix l (3 : Int)).Kind), pi ((ix l (3 : Int)).Least), pi ((ix l (3 : Int)).Extra), pi ((ix l (3 : Int)).Needs)] := epAt_enc_api_AccessRule l 3
theorem epAt_encI (l : List Int) (n : Int) : epAt [pi (0 : Int)] (List.map encI l) n.toNat = [pi (ix l n)] := by
  unfold epAt ix
  by_cases h : n.toNat < l.length
  · simp [h, List.getD, encI]
  · simp [h, List.getD]; first | done | exact ⟨rfl, rfl⟩ | rfl | (repeat' apply And.intro) <;> rfl
theorem epAt_encI_k0 (l : List Int) : epAt [pi (0 : Int)] (List.map encI l) 0 = [pi (ix l (0 : Int))] := epAt_encI l 0
theorem epAt_encI_k1 (l : List Int) : epAt [pi (0 : Int)] (List.map encI l) 1 = [pi (ix l (1 : Int))] := epAt_encI l 1
theorem epAt_encI_k2 (l : List Int) : epAt [pi (0 : Int)] (List.map encI l) 2 = [pi (ix l (2 : Int))] := epAt_encI l 2
theorem epAt_encI_k3 (l : List Int) : epAt [pi (0 : Int)] (List.map encI l) 3 = [pi (ix l (3 : Int))] := epAt_encI l 3
theorem epAt_enc_api_Access (l : List api_Access) (n : Int) : epAt [pi (0 : Int), pi (0 : Int)] (List.map enc_api_Access l) n.toNat = [pi ((ix l n).Extra), pi ((ix l n).Needs)] := by
  unfold epAt ix
  by_cases h : n.toNat < l.length
  · simp [h, List.getD, enc_api_Access]
  · simp [h, List.getD]; first | done | exact ⟨rfl, rfl⟩ | rfl | (repeat' apply And.intro) <;> rfl
theorem epAt_enc_api_Access_k0 (l : List api_Access) : epAt [pi (0 : Int), pi (0 : Int)] (List.map enc_api_Access l) 0 = [pi ((ix l (0 : Int)).Extra), pi ((ix l (0 : Int)).Needs)] := epAt_enc_api_Access l 0
theorem epAt_enc_api_Access_k1 (l : List api_Access) : epAt [pi (0 : Int), pi (0 : Int)] (List.map enc_api_Access l) 1 = [pi ((ix l (1 : Int)).Extra), pi ((ix l (1 : Int)).Needs)] := epAt_enc_api_Access l 1
theorem epAt_enc_api_Access_k2 (l : List api_Access) : epAt [pi (0 : Int), pi (0 : Int)] (List.map enc_api_Access l) 2 = [pi ((ix l (2 : Int)).Extra), pi ((ix l (2 : Int)).Needs)] := epAt_enc_api_Access l 2
theorem epAt_enc_api_Access_k3 (l : List api_Access) : epAt [pi (0 : Int), pi (0 : Int)] (List.map enc_api_Access l) 3 = [pi ((ix l (3 : Int)).Extra), pi ((ix l (3 : Int)).Needs)] := epAt_enc_api_Access l 3
theorem epAt_enc_api_Evidence (l : List api_Evidence) (n : Int) : epAt [pi (0 : Int), pi (0 : Int), pi (0 : Int), pi (0 : Int), pi (0 : Int)] (List.map enc_api_Evidence l) n.toNat = [pi ((ix l n).Candidate), pi ((ix l n).Kind), pi ((ix l n).Level), pi ((ix l n).From), pi ((ix l n).Until)] := by
  unfold epAt ix
  by_cases h : n.toNat < l.length
  · simp [h, List.getD, enc_api_Evidence]
  · simp [h, List.getD]; first | done | exact ⟨rfl, rfl⟩ | rfl | (repeat' apply And.intro) <;> rfl
theorem epAt_enc_api_Evidence_k0 (l : List api_Evidence) : epAt [pi (0 : Int), pi (0 : Int), pi (0 : Int), pi (0 : Int), pi (0 : Int)] (List.map enc_api_Evidence l) 0 = [pi ((ix l (0 : Int)).Candidate), pi ((ix l (0 : Int)).Kind), pi ((ix l (0 : Int)).Level), pi ((ix l (0 : Int)).From), pi ((ix l (0 : Int)).Until)] := epAt_enc_api_Evidence l 0
theorem epAt_enc_api_Evidence_k1 (l : List api_Evidence) : epAt [pi (0 : Int), pi (0 : Int), pi (0 : Int), pi (0 : Int), pi (0 : Int)] (List.map enc_api_Evidence l) 1 = [pi ((ix l (1 : Int)).Candidate), pi ((ix l (1 : Int)).Kind), pi ((ix l (1 : Int)).Level), pi ((ix l (1 : Int)).From), pi ((ix l (1 : Int)).Until)] := epAt_enc_api_Evidence l 1
theorem epAt_enc_api_Evidence_k2 (l : List api_Evidence) : epAt [pi (0 : Int), pi (0 : Int), pi (0 : Int), pi (0 : Int), pi (0 : Int)] (List.map enc_api_Evidence l) 2 = [pi ((ix l (2 : Int)).Candidate), pi ((ix l (2 : Int)).Kind), pi ((ix l (2 : Int)).Level), pi ((ix l (2 : Int)).From), pi ((ix l (2 : Int)).Until)] := epAt_enc_api_Evidence l 2
theorem epAt_enc_api_Evidence_k3 (l : List api_Evidence) : epAt [pi (0 : Int), pi (0 : Int), pi (0 : Int), pi (0 : Int), pi (0 : Int)] (List.map enc_api_Evidence l) 3 = [pi ((ix l (3 : Int)).Candidate), pi ((ix l (3 : Int)).Kind), pi ((ix l (3 : Int)).Level), pi ((ix l (3 : Int)).From), pi ((ix l (3 : Int)).Until)] := epAt_enc_api_Evidence l 3
attribute [go_sem] enc_api_AccessRule enc_api_Evidence enc_api_Access epAt_enc_api_AccessRule epAt_enc_api_AccessRule_k0 epAt_enc_api_AccessRule_k1 epAt_enc_api_AccessRule_k2 epAt_enc_api_AccessRule_k3 epAt_encI epAt_encI_k0 epAt_encI_k1 epAt_encI_k2 epAt_encI_k3 epAt_enc_api_Access epAt_enc_api_Access_k0 epAt_enc_api_Access_k1 epAt_enc_api_Access_k2 epAt_enc_api_Access_k3 epAt_enc_api_Evidence epAt_enc_api_Evidence_k0 epAt_enc_api_Evidence_k1 epAt_enc_api_Evidence_k2 epAt_enc_api_Evidence_k3
end Go.LS
