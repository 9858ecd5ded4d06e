/-
  Plain types of the program and how their values lie in cells. No condition: definitions, printed by dec.py.
-/
import Derived.Test.YtdhhopobephbnaaLs27
namespace Go.LS
set_option linter.all false
set_option linter.unusedSimpArgs false
set_option linter.unusedVariables false
set_option maxRecDepth 20000

structure make_Tape where
  L : List Int
  At : Int
deriving DecidableEq
instance : Inhabited make_Tape := ⟨⟨default, default⟩⟩
structure api_AccessRule where
  Kind : Int
  Least : Int
  Extra : Int
  Needs : Int
deriving DecidableEq
instance : Inhabited api_AccessRule := ⟨⟨default, default, default, default⟩⟩
def enc_api_AccessRule (x : api_AccessRule) : List PV := [pi x.Kind, pi x.Least, pi x.Extra, pi x.Needs]
structure api_Access where
  Extra : Int
  Needs : Int
deriving DecidableEq
instance : Inhabited api_Access := ⟨⟨default, default⟩⟩
structure api_Evidence where
  Candidate : Int
  Kind : Int
  Level : Int
  From : Int
  Until : Int
deriving DecidableEq
instance : Inhabited api_Evidence := ⟨⟨default, default, default, default, default⟩⟩
def enc_api_Evidence (x : api_Evidence) : List PV := [pi x.Candidate, pi x.Kind, pi x.Level, pi x.From, pi x.Until]
def enc_api_Access (x : api_Access) : List PV := [pi x.Extra, pi x.Needs]
theorem epAt_enc_api_AccessRule (l : List api_AccessRule) (n : Int) : epAt [pi (0 : Int), pi (0 : Int), pi (0 : Int), pi (0 : Int)] (List.map enc_api_AccessRule l) n.toNat = [pi ((ix l n).Kind), pi ((ix l n).Least), pi ((ix l n).Extra), pi ((ix l n).Needs)] := by
  unfold epAt ix
  by_cases h : n.toNat < l.length
  · simp [h, List.getD, enc_api_AccessRule]
  · simp [h, List.getD]; first | done | exact ⟨rfl, rfl⟩ | rfl | (repeat' apply And.intro) <;> rfl
theorem epAt_encI (l : List Int) (n : Int) : epAt [pi (0 : Int)] (List.map encI l) n.toNat = [pi (ix l n)] := by
  unfold epAt ix
  by_cases h : n.toNat < l.length
  · simp [h, List.getD, encI]
  · simp [h, List.getD]; first | done | exact ⟨rfl, rfl⟩ | rfl | (repeat' apply And.intro) <;> rfl
theorem epAt_enc_api_Access (l : List api_Access) (n : Int) : epAt [pi (0 : Int), pi (0 : Int)] (List.map enc_api_Access l) n.toNat = [pi ((ix l n).Extra), pi ((ix l n).Needs)] := by
  unfold epAt ix
  by_cases h : n.toNat < l.length
  · simp [h, List.getD, enc_api_Access]
  · simp [h, List.getD]; first | done | exact ⟨rfl, rfl⟩ | rfl | (repeat' apply And.intro) <;> rfl
theorem epAt_enc_api_Evidence (l : List api_Evidence) (n : Int) : epAt [pi (0 : Int), pi (0 : Int), pi (0 : Int), pi (0 : Int), pi (0 : Int)] (List.map enc_api_Evidence l) n.toNat = [pi ((ix l n).Candidate), pi ((ix l n).Kind), pi ((ix l n).Level), pi ((ix l n).From), pi ((ix l n).Until)] := by
  unfold epAt ix
  by_cases h : n.toNat < l.length
  · simp [h, List.getD, enc_api_Evidence]
  · simp [h, List.getD]; first | done | exact ⟨rfl, rfl⟩ | rfl | (repeat' apply And.intro) <;> rfl
attribute [go_sem] enc_api_AccessRule enc_api_Evidence enc_api_Access epAt_enc_api_AccessRule epAt_encI epAt_enc_api_Access epAt_enc_api_Evidence
end Go.LS
