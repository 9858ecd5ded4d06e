/-
  Plain types of the program and how their values lie in cells. No condition: definitions, printed by dec.py.
-/
import Derived.Test.YtmgjidfafnajnaaDoorLX
namespace Go.LS
set_option linter.all false
set_option linter.unusedSimpArgs false
set_option linter.unusedVariables false
set_option maxRecDepth 20000

structure make_Tape where
  L : List Int
  At : Int
deriving DecidableEq
instance : Inhabited make_Tape := ⟨⟨default, default⟩⟩
structure api_Part where
  Kind : Int
  Max : Int
  Topic : Int
  Objective : Int
  Options : Int
  Key : Int
deriving DecidableEq
instance : Inhabited api_Part := ⟨⟨default, default, default, default, default, default⟩⟩
structure api_Paper where
  Code : Int
  Variant : Int
  Parts : List api_Part
deriving DecidableEq
instance : Inhabited api_Paper := ⟨⟨default, default, default⟩⟩
structure api_Booklet where
  Pages : List (List Int)
deriving DecidableEq
instance : Inhabited api_Booklet := ⟨⟨default⟩⟩
structure api_Expected where
  Candidate : Int
  Centre : Int
  Variant : Int
deriving DecidableEq
instance : Inhabited api_Expected := ⟨⟨default, default, default⟩⟩
structure api_Sitting where
  Number : Int
  Papers : List api_Paper
  Booklets : List api_Booklet
  Expected : List api_Expected
deriving DecidableEq
instance : Inhabited api_Sitting := ⟨⟨default, default, default, default⟩⟩
def enc_api_Part (x : api_Part) : List PV := [pi x.Kind, pi x.Max, pi x.Topic, pi x.Objective, pi x.Options, pi x.Key]
def encL_encI (x : List Int) : List PV := [.sl 1 (List.map encI x)]
def enc_api_Paper (x : api_Paper) : List PV := [pi x.Code, pi x.Variant, .sl 6 (List.map enc_api_Part x.Parts)]
def enc_api_Booklet (x : api_Booklet) : List PV := [.sl 1 (List.map encL_encI x.Pages)]
def enc_api_Expected (x : api_Expected) : List PV := [pi x.Candidate, pi x.Centre, pi x.Variant]
structure api_Label where
  Paper : Int
  Candidate : Int
  Page : Int
  Variant : Int
deriving DecidableEq
instance : Inhabited api_Label := ⟨⟨default, default, default, default⟩⟩
def enc_api_Label (x : api_Label) : List PV := [pi x.Paper, pi x.Candidate, pi x.Page, pi x.Variant]
theorem apAt_encL_encI_0_1 (l : List (List Int)) (n : Int) : apAt [.sl 1 []] (List.map encL_encI l) n.toNat 0 1 = [.sl 1 (List.map encI (ix l n))] := by
  unfold apAt ix
  by_cases h : n.toNat < l.length
  · simp [h, List.getD, encL_encI]
  · simp [h, List.getD]; first | done | rfl | (repeat' apply And.intro) <;> rfl
theorem apAt_encL_encI_0_1_k0 (l : List (List Int)) : apAt [.sl 1 []] (List.map encL_encI l) 0 0 1 = [.sl 1 (List.map encI (ix l (0 : Int)))] := apAt_encL_encI_0_1 l 0
theorem apAt_encL_encI_0_1_k1 (l : List (List Int)) : apAt [.sl 1 []] (List.map encL_encI l) 1 0 1 = [.sl 1 (List.map encI (ix l (1 : Int)))] := apAt_encL_encI_0_1 l 1
theorem apAt_encL_encI_0_1_k2 (l : List (List Int)) : apAt [.sl 1 []] (List.map encL_encI l) 2 0 1 = [.sl 1 (List.map encI (ix l (2 : Int)))] := apAt_encL_encI_0_1 l 2
theorem apAt_encL_encI_0_1_k3 (l : List (List Int)) : apAt [.sl 1 []] (List.map encL_encI l) 3 0 1 = [.sl 1 (List.map encI (ix l (3 : Int)))] := apAt_encL_encI_0_1 l 3
theorem apAt_encL_encI_0_1_k4 (l : List (List Int)) : apAt [.sl 1 []] (List.map encL_encI l) 4 0 1 = [.sl 1 (List.map encI (ix l (4 : Int)))] := apAt_encL_encI_0_1 l 4
theorem apAt_encL_encI_0_1_k5 (l : List (List Int)) : apAt [.sl 1 []] (List.map encL_encI l) 5 0 1 = [.sl 1 (List.map encI (ix l (5 : Int)))] := apAt_encL_encI_0_1 l 5
theorem apAt_encI_0_1 (l : List Int) (n : Int) : apAt [pi (0 : Int)] (List.map encI l) n.toNat 0 1 = [pi (ix l n)] := by
  unfold apAt ix
  by_cases h : n.toNat < l.length
  · simp [h, List.getD, encI]
  · simp [h, List.getD]; first | done | rfl | (repeat' apply And.intro) <;> rfl
theorem apAt_encI_0_1_k0 (l : List Int) : apAt [pi (0 : Int)] (List.map encI l) 0 0 1 = [pi (ix l (0 : Int))] := apAt_encI_0_1 l 0
theorem apAt_encI_0_1_k1 (l : List Int) : apAt [pi (0 : Int)] (List.map encI l) 1 0 1 = [pi (ix l (1 : Int))] := apAt_encI_0_1 l 1
theorem apAt_encI_0_1_k2 (l : List Int) : apAt [pi (0 : Int)] (List.map encI l) 2 0 1 = [pi (ix l (2 : Int))] := apAt_encI_0_1 l 2
theorem apAt_encI_0_1_k3 (l : List Int) : apAt [pi (0 : Int)] (List.map encI l) 3 0 1 = [pi (ix l (3 : Int))] := apAt_encI_0_1 l 3
theorem apAt_encI_0_1_k4 (l : List Int) : apAt [pi (0 : Int)] (List.map encI l) 4 0 1 = [pi (ix l (4 : Int))] := apAt_encI_0_1 l 4
theorem apAt_encI_0_1_k5 (l : List Int) : apAt [pi (0 : Int)] (List.map encI l) 5 0 1 = [pi (ix l (5 : Int))] := apAt_encI_0_1 l 5
theorem epAt_encL_encI (l : List (List Int)) (n : Int) : epAt [.sl 1 []] (List.map encL_encI l) n.toNat = [.sl 1 (List.map encI (ix l n))] := by
  unfold epAt ix
  by_cases h : n.toNat < l.length
  · simp [h, List.getD, encL_encI]
  · simp [h, List.getD]; first | done | exact ⟨rfl, rfl⟩ | rfl | (repeat' apply And.intro) <;> rfl
theorem epAt_encL_encI_k0 (l : List (List Int)) : epAt [.sl 1 []] (List.map encL_encI l) 0 = [.sl 1 (List.map encI (ix l (0 : Int)))] := epAt_encL_encI l 0
theorem epAt_encL_encI_k1 (l : List (List Int)) : epAt [.sl 1 []] (List.map encL_encI l) 1 = [.sl 1 (List.map encI (ix l (1 : Int)))] := epAt_encL_encI l 1
theorem epAt_encL_encI_k2 (l : List (List Int)) : epAt [.sl 1 []] (List.map encL_encI l) 2 = [.sl 1 (List.map encI (ix l (2 : Int)))] := epAt_encL_encI l 2
theorem epAt_encL_encI_k3 (l : List (List Int)) : epAt [.sl 1 []] (List.map encL_encI l) 3 = [.sl 1 (List.map encI (ix l (3 : Int)))] := epAt_encL_encI l 3
theorem epAt_encL_encI_k4 (l : List (List Int)) : epAt [.sl 1 []] (List.map encL_encI l) 4 = [.sl 1 (List.map encI (ix l (4 : Int)))] := epAt_encL_encI l 4
theorem epAt_encL_encI_k5 (l : List (List Int)) : epAt [.sl 1 []] (List.map encL_encI l) 5 = [.sl 1 (List.map encI (ix l (5 : Int)))] := epAt_encL_encI l 5
theorem epAt_encI (l : List Int) (n : Int) : epAt [pi (0 : Int)] (List.map encI l) n.toNat = [pi (ix l n)] := by
  unfold epAt ix
  by_cases h : n.toNat < l.length
  · simp [h, List.getD, encI]
  · simp [h, List.getD]; first | done | exact ⟨rfl, rfl⟩ | rfl | (repeat' apply And.intro) <;> rfl
theorem epAt_encI_k0 (l : List Int) : epAt [pi (0 : Int)] (List.map encI l) 0 = [pi (ix l (0 : Int))] := epAt_encI l 0
theorem epAt_encI_k1 (l : List Int) : epAt [pi (0 : Int)] (List.map encI l) 1 = [pi (ix l (1 : Int))] := epAt_encI l 1
theorem epAt_encI_k2 (l : List Int) : epAt [pi (0 : Int)] (List.map encI l) 2 = [pi (ix l (2 : Int))] := epAt_encI l 2
theorem epAt_encI_k3 (l : List Int) : epAt [pi (0 : Int)] (List.map encI l) 3 = [pi (ix l (3 : Int))] := epAt_encI l 3
theorem epAt_encI_k4 (l : List Int) : epAt [pi (0 : Int)] (List.map encI l) 4 = [pi (ix l (4 : Int))] := epAt_encI l 4
theorem epAt_encI_k5 (l : List Int) : epAt [pi (0 : Int)] (List.map encI l) 5 = [pi (ix l (5 : Int))] := epAt_encI l 5
theorem epAt_enc_api_Label (l : List api_Label) (n : Int) : epAt [pi (0 : Int), pi (0 : Int), pi (0 : Int), pi (0 : Int)] (List.map enc_api_Label l) n.toNat = [pi ((ix l n).Paper), pi ((ix l n).Candidate), pi ((ix l n).Page), pi ((ix l n).Variant)] := by
  unfold epAt ix
  by_cases h : n.toNat < l.length
  · simp [h, List.getD, enc_api_Label]
  · simp [h, List.getD]; first | done | exact ⟨rfl, rfl⟩ | rfl | (repeat' apply And.intro) <;> rfl
theorem epAt_enc_api_Label_k0 (l : List api_Label) : epAt [pi (0 : Int), pi (0 : Int), pi (0 : Int), pi (0 : Int)] (List.map enc_api_Label l) 0 = [pi ((ix l (0 : Int)).Paper), pi ((ix l (0 : Int)).Candidate), pi ((ix l (0 : Int)).Page), pi ((ix l (0 : Int)).Variant)] := epAt_enc_api_Label l 0
theorem epAt_enc_api_Label_k1 (l : List api_Label) : epAt [pi (0 : Int), pi (0 : Int), pi (0 : Int), pi (0 : Int)] (List.map enc_api_Label l) 1 = [pi ((ix l (1 : Int)).Paper), pi ((ix l (1 : Int)).Candidate), pi ((ix l (1 : Int)).Page), pi ((ix l (1 : Int)).Variant)] := epAt_enc_api_Label l 1
theorem epAt_enc_api_Label_k2 (l : List api_Label) : epAt [pi (0 : Int), pi (0 : Int), pi (0 : Int), pi (0 : Int)] (List.map enc_api_Label l) 2 = [pi ((ix l (2 : Int)).Paper), pi ((ix l (2 : Int)).Candidate), pi ((ix l (2 : Int)).Page), pi ((ix l (2 : Int)).Variant)] := epAt_enc_api_Label l 2
theorem epAt_enc_api_Label_k3 (l : List api_Label) : epAt [pi (0 : Int), pi (0 : Int), pi (0 : Int), pi (0 : Int)] (List.map enc_api_Label l) 3 = [pi ((ix l (3 : Int)).Paper), pi ((ix l (3 : Int)).Candidate), pi ((ix l (3 : Int)).Page), pi ((ix l (3 : Int)).Variant)] := epAt_enc_api_Label l 3
theorem epAt_enc_api_Label_k4 (l : List api_Label) : epAt [pi (0 : Int), pi (0 : Int), pi (0 : Int), pi (0 : Int)] (List.map enc_api_Label l) 4 = [pi ((ix l (4 : Int)).Paper), pi ((ix l (4 : Int)).Candidate), pi ((ix l (4 : Int)).Page), pi ((ix l (4 : Int)).Variant)] := epAt_enc_api_Label l 4
theorem epAt_enc_api_Label_k5 (l : List api_Label) : epAt [pi (0 : Int), pi (0 : Int), pi (0 : Int), pi (0 : Int)] (List.map enc_api_Label l) 5 = [pi ((ix l (5 : Int)).Paper), pi ((ix l (5 : Int)).Candidate), pi ((ix l (5 : Int)).Page), pi ((ix l (5 : Int)).Variant)] := epAt_enc_api_Label l 5
theorem epAt_enc_api_Expected (l : List api_Expected) (n : Int) : epAt [pi (0 : Int), pi (0 : Int), pi (0 : Int)] (List.map enc_api_Expected l) n.toNat = [pi ((ix l n).Candidate), pi ((ix l n).Centre), pi ((ix l n).Variant)] := by
  unfold epAt ix
  by_cases h : n.toNat < l.length
  · simp [h, List.getD, enc_api_Expected]
  · simp [h, List.getD]; first | done | exact ⟨rfl, rfl⟩ | rfl | (repeat' apply And.intro) <;> rfl
theorem epAt_enc_api_Expected_k0 (l : List api_Expected) : epAt [pi (0 : Int), pi (0 : Int), pi (0 : Int)] (List.map enc_api_Expected l) 0 = [pi ((ix l (0 : Int)).Candidate), pi ((ix l (0 : Int)).Centre), pi ((ix l (0 : Int)).Variant)] := epAt_enc_api_Expected l 0
theorem epAt_enc_api_Expected_k1 (l : List api_Expected) : epAt [pi (0 : Int), pi (0 : Int), pi (0 : Int)] (List.map enc_api_Expected l) 1 = [pi ((ix l (1 : Int)).Candidate), pi ((ix l (1 : Int)).Centre), pi ((ix l (1 : Int)).Variant)] := epAt_enc_api_Expected l 1
theorem epAt_enc_api_Expected_k2 (l : List api_Expected) : epAt [pi (0 : Int), pi (0 : Int), pi (0 : Int)] (List.map enc_api_Expected l) 2 = [pi ((ix l (2 : Int)).Candidate), pi ((ix l (2 : Int)).Centre), pi ((ix l (2 : Int)).Variant)] := epAt_enc_api_Expected l 2
theorem epAt_enc_api_Expected_k3 (l : List api_Expected) : epAt [pi (0 : Int), pi (0 : Int), pi (0 : Int)] (List.map enc_api_Expected l) 3 = [pi ((ix l (3 : Int)).Candidate), pi ((ix l (3 : Int)).Centre), pi ((ix l (3 : Int)).Variant)] := epAt_enc_api_Expected l 3
theorem epAt_enc_api_Expected_k4 (l : List api_Expected) : epAt [pi (0 : Int), pi (0 : Int), pi (0 : Int)] (List.map enc_api_Expected l) 4 = [pi ((ix l (4 : Int)).Candidate), pi ((ix l (4 : Int)).Centre), pi ((ix l (4 : Int)).Variant)] := epAt_enc_api_Expected l 4
theorem epAt_enc_api_Expected_k5 (l : List api_Expected) : epAt [pi (0 : Int), pi (0 : Int), pi (0 : Int)] (List.map enc_api_Expected l) 5 = [pi ((ix l (5 : Int)).Candidate), pi ((ix l (5 : Int)).Centre), pi ((ix l (5 : Int)).Variant)] := epAt_enc_api_Expected l 5
theorem epAt_enc_api_Booklet (l : List api_Booklet) (n : Int) : epAt [.sl 1 []] (List.map enc_api_Booklet l) n.toNat = [.sl 1 (List.map encL_encI ((ix l n).Pages))] := by
  unfold epAt ix
  by_cases h : n.toNat < l.length
  · simp [h, List.getD, enc_api_Booklet]
  · simp [h, List.getD]; first | done | exact ⟨rfl, rfl⟩ | rfl | (repeat' apply And.intro) <;> rfl
theorem epAt_enc_api_Booklet_k0 (l : List api_Booklet) : epAt [.sl 1 []] (List.map enc_api_Booklet l) 0 = [.sl 1 (List.map encL_encI ((ix l (0 : Int)).Pages))] := epAt_enc_api_Booklet l 0
theorem epAt_enc_api_Booklet_k1 (l : List api_Booklet) : epAt [.sl 1 []] (List.map enc_api_Booklet l) 1 = [.sl 1 (List.map encL_encI ((ix l (1 : Int)).Pages))] := epAt_enc_api_Booklet l 1
theorem epAt_enc_api_Booklet_k2 (l : List api_Booklet) : epAt [.sl 1 []] (List.map enc_api_Booklet l) 2 = [.sl 1 (List.map encL_encI ((ix l (2 : Int)).Pages))] := epAt_enc_api_Booklet l 2
theorem epAt_enc_api_Booklet_k3 (l : List api_Booklet) : epAt [.sl 1 []] (List.map enc_api_Booklet l) 3 = [.sl 1 (List.map encL_encI ((ix l (3 : Int)).Pages))] := epAt_enc_api_Booklet l 3
theorem epAt_enc_api_Booklet_k4 (l : List api_Booklet) : epAt [.sl 1 []] (List.map enc_api_Booklet l) 4 = [.sl 1 (List.map encL_encI ((ix l (4 : Int)).Pages))] := epAt_enc_api_Booklet l 4
theorem epAt_enc_api_Booklet_k5 (l : List api_Booklet) : epAt [.sl 1 []] (List.map enc_api_Booklet l) 5 = [.sl 1 (List.map encL_encI ((ix l (5 : Int)).Pages))] := epAt_enc_api_Booklet l 5
theorem epAt_enc_api_Part (l : List api_Part) (n : Int) : epAt [pi (0 : Int), pi (0 : Int), pi (0 : Int), pi (0 : Int), pi (0 : Int), pi (0 : Int)] (List.map enc_api_Part l) n.toNat = [pi ((ix l n).Kind), pi ((ix l n).Max), pi ((ix l n).Topic), pi ((ix l n).Objective), pi ((ix l n).Options), pi ((ix l n).Key)] := by
  unfold epAt ix
  by_cases h : n.toNat < l.length
  · simp [h, List.getD, enc_api_Part]
  · simp [h, List.getD]; first | done | exact ⟨rfl, rfl⟩ | rfl | (repeat' apply And.intro) <;> rfl
theorem epAt_enc_api_Part_k0 (l : List api_Part) : epAt [pi (0 : Int), pi (0 : Int), pi (0 : Int), pi (0 : Int), pi (0 : Int), pi (0 : Int)] (List.map enc_api_Part l) 0 = [pi ((ix l (0 : Int)).Kind), pi ((ix l (0 : Int)).Max), pi ((ix l (0 : Int)).Topic), pi ((ix l (0 : Int)).Objective), pi ((ix l (0 : Int)).Options), pi ((ix l (0 : Int)).Key)] := epAt_enc_api_Part l 0
theorem epAt_enc_api_Part_k1 (l : List api_Part) : epAt [pi (0 : Int), pi (0 : Int), pi (0 : Int), pi (0 : Int), pi (0 : Int), pi (0 : Int)] (List.map enc_api_Part l) 1 = [pi ((ix l (1 : Int)).Kind), pi ((ix l (1 : Int)).Max), pi ((ix l (1 : Int)).Topic), pi ((ix l (1 : Int)).Objective), pi ((ix l (1 : Int)).Options), pi ((ix l (1 : Int)).Key)] := epAt_enc_api_Part l 1
theorem epAt_enc_api_Part_k2 (l : List api_Part) : epAt [pi (0 : Int), pi (0 : Int), pi (0 : Int), pi (0 : Int), pi (0 : Int), pi (0 : Int)] (List.map enc_api_Part l) 2 = [pi ((ix l (2 : Int)).Kind), pi ((ix l (2 : Int)).Max), pi ((ix l (2 : Int)).Topic), pi ((ix l (2 : Int)).Objective), pi ((ix l (2 : Int)).Options), pi ((ix l (2 : Int)).Key)] := epAt_enc_api_Part l 2
theorem epAt_enc_api_Part_k3 (l : List api_Part) : epAt [pi (0 : Int), pi (0 : Int), pi (0 : Int), pi (0 : Int), pi (0 : Int), pi (0 : Int)] (List.map enc_api_Part l) 3 = [pi ((ix l (3 : Int)).Kind), pi ((ix l (3 : Int)).Max), pi ((ix l (3 : Int)).Topic), pi ((ix l (3 : Int)).Objective), pi ((ix l (3 : Int)).Options), pi ((ix l (3 : Int)).Key)] := epAt_enc_api_Part l 3
theorem epAt_enc_api_Part_k4 (l : List api_Part) : epAt [pi (0 : Int), pi (0 : Int), pi (0 : Int), pi (0 : Int), pi (0 : Int), pi (0 : Int)] (List.map enc_api_Part l) 4 = [pi ((ix l (4 : Int)).Kind), pi ((ix l (4 : Int)).Max), pi ((ix l (4 : Int)).Topic), pi ((ix l (4 : Int)).Objective), pi ((ix l (4 : Int)).Options), pi ((ix l (4 : Int)).Key)] := epAt_enc_api_Part l 4
theorem epAt_enc_api_Part_k5 (l : List api_Part) : epAt [pi (0 : Int), pi (0 : Int), pi (0 : Int), pi (0 : Int), pi (0 : Int), pi (0 : Int)] (List.map enc_api_Part l) 5 = [pi ((ix l (5 : Int)).Kind), pi ((ix l (5 : Int)).Max), pi ((ix l (5 : Int)).Topic), pi ((ix l (5 : Int)).Objective), pi ((ix l (5 : Int)).Options), pi ((ix l (5 : Int)).Key)] := epAt_enc_api_Part l 5
theorem setC_encI_0_1 (l : List Int) (n : Int) (a0 : Int) : setC (List.map encI l) n.toNat 0 [pi a0] = List.map encI (setI l n a0) := by
  unfold setC setI; (try unfold ix)
  by_cases h : n.toNat < l.length
  · simp [h, List.getD, splice, List.map_set, encI]
  · rw [List.set_eq_of_length_le (by simp; omega), List.set_eq_of_length_le (by omega)]
theorem setC_encI_0_1_k0 (l : List Int) (a0 : Int) : setC (List.map encI l) 0 0 [pi a0] = List.map encI (setI l (0 : Int) a0) := setC_encI_0_1 l 0 a0
theorem setC_encI_0_1_k1 (l : List Int) (a0 : Int) : setC (List.map encI l) 1 0 [pi a0] = List.map encI (setI l (1 : Int) a0) := setC_encI_0_1 l 1 a0
theorem setC_encI_0_1_k2 (l : List Int) (a0 : Int) : setC (List.map encI l) 2 0 [pi a0] = List.map encI (setI l (2 : Int) a0) := setC_encI_0_1 l 2 a0
theorem setC_encI_0_1_k3 (l : List Int) (a0 : Int) : setC (List.map encI l) 3 0 [pi a0] = List.map encI (setI l (3 : Int) a0) := setC_encI_0_1 l 3 a0
theorem setC_encI_0_1_k4 (l : List Int) (a0 : Int) : setC (List.map encI l) 4 0 [pi a0] = List.map encI (setI l (4 : Int) a0) := setC_encI_0_1 l 4 a0
theorem setC_encI_0_1_k5 (l : List Int) (a0 : Int) : setC (List.map encI l) 5 0 [pi a0] = List.map encI (setI l (5 : Int) a0) := setC_encI_0_1 l 5 a0
theorem setC_enc_api_Paper_1_1 (l : List api_Paper) (n : Int) (a1 : Int) : setC (List.map enc_api_Paper l) n.toNat 1 [pi a1] = List.map enc_api_Paper (setI l n (api_Paper.mk ((ix l n).Code) a1 ((ix l n).Parts))) := by
  unfold setC setI; (try unfold ix)
  by_cases h : n.toNat < l.length
  · simp [h, List.getD, splice, List.map_set, enc_api_Paper]
  · rw [List.set_eq_of_length_le (by simp; omega), List.set_eq_of_length_le (by omega)]
theorem setC_enc_api_Paper_1_1_k0 (l : List api_Paper) (a1 : Int) : setC (List.map enc_api_Paper l) 0 1 [pi a1] = List.map enc_api_Paper (setI l (0 : Int) (api_Paper.mk ((ix l (0 : Int)).Code) a1 ((ix l (0 : Int)).Parts))) := setC_enc_api_Paper_1_1 l 0 a1
theorem setC_enc_api_Paper_1_1_k1 (l : List api_Paper) (a1 : Int) : setC (List.map enc_api_Paper l) 1 1 [pi a1] = List.map enc_api_Paper (setI l (1 : Int) (api_Paper.mk ((ix l (1 : Int)).Code) a1 ((ix l (1 : Int)).Parts))) := setC_enc_api_Paper_1_1 l 1 a1
theorem setC_enc_api_Paper_1_1_k2 (l : List api_Paper) (a1 : Int) : setC (List.map enc_api_Paper l) 2 1 [pi a1] = List.map enc_api_Paper (setI l (2 : Int) (api_Paper.mk ((ix l (2 : Int)).Code) a1 ((ix l (2 : Int)).Parts))) := setC_enc_api_Paper_1_1 l 2 a1
theorem setC_enc_api_Paper_1_1_k3 (l : List api_Paper) (a1 : Int) : setC (List.map enc_api_Paper l) 3 1 [pi a1] = List.map enc_api_Paper (setI l (3 : Int) (api_Paper.mk ((ix l (3 : Int)).Code) a1 ((ix l (3 : Int)).Parts))) := setC_enc_api_Paper_1_1 l 3 a1
theorem setC_enc_api_Paper_1_1_k4 (l : List api_Paper) (a1 : Int) : setC (List.map enc_api_Paper l) 4 1 [pi a1] = List.map enc_api_Paper (setI l (4 : Int) (api_Paper.mk ((ix l (4 : Int)).Code) a1 ((ix l (4 : Int)).Parts))) := setC_enc_api_Paper_1_1 l 4 a1
theorem setC_enc_api_Paper_1_1_k5 (l : List api_Paper) (a1 : Int) : setC (List.map enc_api_Paper l) 5 1 [pi a1] = List.map enc_api_Paper (setI l (5 : Int) (api_Paper.mk ((ix l (5 : Int)).Code) a1 ((ix l (5 : Int)).Parts))) := setC_enc_api_Paper_1_1 l 5 a1
theorem bs_extract (s : Str) (a b : Nat) : (bs s).extract a b = bs ((s.take b).drop a) := by
  apply ByteArray.ext
  simp [bs, List.drop_take]
attribute [go_sem] bs_extract
theorem strOf_lit1 (x : Int) : bs [byteOf1 [.val (.int .u8 x)]] = bs (strOf [x]) := rfl
theorem isByte_lit (n : Int) : isByte [.val (.int .u8 n)] = True := by simp [isByte]
attribute [go_sem] strOf_lit1 isByte_lit
theorem epAt_c0 (z x0 : List PV) (xs : List (List PV)) : epAt z (x0 :: xs) 0 = x0 := rfl
attribute [go_sem] epAt_c0
theorem epAt_c1 (z x0 x1 : List PV) (xs : List (List PV)) : epAt z (x0 :: x1 :: xs) 1 = x1 := rfl
attribute [go_sem] epAt_c1
theorem epAt_c2 (z x0 x1 x2 : List PV) (xs : List (List PV)) : epAt z (x0 :: x1 :: x2 :: xs) 2 = x2 := rfl
attribute [go_sem] epAt_c2
theorem epAt_c3 (z x0 x1 x2 x3 : List PV) (xs : List (List PV)) : epAt z (x0 :: x1 :: x2 :: x3 :: xs) 3 = x3 := rfl
attribute [go_sem] epAt_c3
theorem bs_ix_k0 (a : Str) : ((((bs a).data.getD 0 0).toNat : Nat) : Int) = sx a 0 := bs_ix a 0
attribute [go_sem] bs_ix_k0
theorem bs_ix_k1 (a : Str) : ((((bs a).data.getD 1 0).toNat : Nat) : Int) = sx a 1 := bs_ix a 1
attribute [go_sem] bs_ix_k1
theorem bs_ix_k2 (a : Str) : ((((bs a).data.getD 2 0).toNat : Nat) : Int) = sx a 2 := bs_ix a 2
attribute [go_sem] bs_ix_k2
theorem bs_ix_k3 (a : Str) : ((((bs a).data.getD 3 0).toNat : Nat) : Int) = sx a 3 := bs_ix a 3
attribute [go_sem] bs_ix_k3
attribute [go_sem] enc_api_Part encL_encI enc_api_Paper enc_api_Booklet enc_api_Expected enc_api_Label apAt_encL_encI_0_1 apAt_encL_encI_0_1_k0 apAt_encL_encI_0_1_k1 apAt_encL_encI_0_1_k2 apAt_encL_encI_0_1_k3 apAt_encL_encI_0_1_k4 apAt_encL_encI_0_1_k5 apAt_encI_0_1 apAt_encI_0_1_k0 apAt_encI_0_1_k1 apAt_encI_0_1_k2 apAt_encI_0_1_k3 apAt_encI_0_1_k4 apAt_encI_0_1_k5 epAt_encL_encI epAt_encL_encI_k0 epAt_encL_encI_k1 epAt_encL_encI_k2 epAt_encL_encI_k3 epAt_encL_encI_k4 epAt_encL_encI_k5 epAt_encI epAt_encI_k0 epAt_encI_k1 epAt_encI_k2 epAt_encI_k3 epAt_encI_k4 epAt_encI_k5 epAt_enc_api_Label epAt_enc_api_Label_k0 epAt_enc_api_Label_k1 epAt_enc_api_Label_k2 epAt_enc_api_Label_k3 epAt_enc_api_Label_k4 epAt_enc_api_Label_k5 epAt_enc_api_Expected epAt_enc_api_Expected_k0 epAt_enc_api_Expected_k1 epAt_enc_api_Expected_k2 epAt_enc_api_Expected_k3 epAt_enc_api_Expected_k4 epAt_enc_api_Expected_k5 epAt_enc_api_Booklet epAt_enc_api_Booklet_k0 epAt_enc_api_Booklet_k1 epAt_enc_api_Booklet_k2 epAt_enc_api_Booklet_k3 epAt_enc_api_Booklet_k4 epAt_enc_api_Booklet_k5 epAt_enc_api_Part epAt_enc_api_Part_k0 epAt_enc_api_Part_k1 epAt_enc_api_Part_k2 epAt_enc_api_Part_k3 epAt_enc_api_Part_k4 epAt_enc_api_Part_k5 setC_encI_0_1 setC_encI_0_1_k0 setC_encI_0_1_k1 setC_encI_0_1_k2 setC_encI_0_1_k3 setC_encI_0_1_k4 setC_encI_0_1_k5 setC_enc_api_Paper_1_1 setC_enc_api_Paper_1_1_k0 setC_enc_api_Paper_1_1_k1 setC_enc_api_Paper_1_1_k2 setC_enc_api_Paper_1_1_k3 setC_enc_api_Paper_1_1_k4 setC_enc_api_Paper_1_1_k5
end Go.LS
