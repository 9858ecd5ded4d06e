/-
  The walks: the functions compute what the plain ones say. Condition: the plain function has a value.
-/
import Derived.Test.YtdhhopobephbnaaK3
import Derived.Test.YtdhhopobephbnaaD4
namespace Go.LS
open Go.Proofs
set_option linter.all false
set_option linter.unusedSimpArgs false
set_option linter.unusedVariables false
set_option maxRecDepth 20000

theorem ok_law14_AccessJoins (extra : Int) (needs : Int) (extra2 : Int) (needs2 : Int) (r_ : Bool) (H0 : law14_AccessJoins extra needs extra2 needs2 = some r_) : CallOK Try.prog 10 [.one (.p (pi extra)), .one (.p (pi needs)), .one (.p (pi extra2)), .one (.p (pi needs2))] [] [.one (.p (.val (.bool r_)))] [] := by
  refine callOK (n := 62) (rs := [.tmp 8]) (nb := 0) (V := []) Try.func10 rfl (by kernel_rfl) rfl rfl rfl rfl (Nat.le_of_ble_eq_true rfl) rfl (by decide) ?_
  unfold law14_AccessJoins at H0
  refine lok_rt E0 (⟨62, mkS [(0, .x (.one (.p (pi extra)))), (1, .x (.one (.p (pi needs)))), (2, .x (.one (.p (pi extra2)))), (3, .x (.one (.p (pi needs2))))], mkH []⟩) ?_
  refine lok_rt E0 (⟨62, mkS [(0, .x (.one (.p (pi extra)))), (1, .x (.one (.p (pi needs)))), (2, .x (.one (.p (pi extra2)))), (3, .x (.one (.p (pi needs2)))), (9, .x (.one (.ptr 109 0))), (10, .x (.one (.ptr 110 0)))], mkH [(109, .var [.p (pi extra), .p (pi needs)]), (110, .var [.p (pi extra2), .p (pi needs2)])]⟩) ?_
  replace H0 := bind_some H0
  obtain ⟨y, h_0, H0⟩ := H0
  replace H0 := bind_some H0
  obtain ⟨y1, h_1, H0⟩ := H0
  replace H0 := bind_some H0
  obtain ⟨y2, h_2, H0⟩ := H0
  replace H0 := bind_some H0
  obtain ⟨y3, h_3, H0⟩ := H0
  refine lok_rt (Env.of E0 [⟨some 20, 17, [.one (.p (pi extra)), .one (.p (pi (102 : Int)))], [], [.one (.p (pi y))], [], True, fun _ => ok_make_Cut extra (102 : Int) y h_0⟩,
      ⟨some 22, 17, [.one (.p (pi needs)), .one (.p (pi (65 : Int)))], [], [.one (.p (pi y1))], [], True, fun _ => ok_make_Cut needs (65 : Int) y1 h_1⟩,
      ⟨some 25, 17, [.one (.p (pi extra2)), .one (.p (pi (102 : Int)))], [], [.one (.p (pi y2))], [], True, fun _ => ok_make_Cut extra2 (102 : Int) y2 h_2⟩,
      ⟨some 27, 17, [.one (.p (pi needs2)), .one (.p (pi (65 : Int)))], [], [.one (.p (pi y3))], [], True, fun _ => ok_make_Cut needs2 (65 : Int) y3 h_3⟩]) (⟨62, mkS [(9, .x (.one (.ptr 109 0))), (10, .x (.one (.ptr 110 0))), (11, .x (.one (.ptr 111 0))), (12, .x (.one (.ptr 112 0)))], mkH [(109, .var [.p (pi extra), .p (pi needs)]), (110, .var [.p (pi extra2), .p (pi needs2)]), (111, .var [.p (pi y), .p (pi y1)]), (112, .var [.p (pi y2), .p (pi y3)])]⟩) ?_
  replace H0 := bind_some H0
  obtain ⟨y4, h_4, H0⟩ := H0
  replace H0 := bind_some H0
  obtain ⟨y5, h_5, H0⟩ := H0
  replace H0 := req_some H0
  obtain ⟨⟨q_6, q_7, q_8, q_9, q_10, q_11, q_12⟩, H0⟩ := H0
  refine lok_dt (Env.of E0 [⟨some 31, 30, [.agg [.p (pi extra), .p (pi needs)], .agg [.p (pi extra2), .p (pi needs2)]], [], [.agg [.p (pi y4.Extra), .p (pi y4.Needs)]], [], True, fun _ => ok_access_Join (api_Access.mk extra needs) (api_Access.mk extra2 needs2) y4 h_4⟩,
      ⟨some 34, 31, [.agg [.p (pi extra), .p (pi needs)], .agg [.p (pi extra2), .p (pi needs2)]], [], [.agg [.p (pi y5.Extra), .p (pi y5.Needs)]], [], True, fun _ => ok_ref14_Join (api_Access.mk extra needs) (api_Access.mk extra2 needs2) y5 h_5⟩,
      ⟨some 39, 30, [.agg [.p (pi y), .p (pi y1)], .agg [.p (pi y2), .p (pi y3)]], [], [.agg [.p (pi (((access_Join (api_Access.mk y y1) (api_Access.mk y2 y3)).getD default).Extra)), .p (pi (((access_Join (api_Access.mk y y1) (api_Access.mk y2 y3)).getD default).Needs))]], [], (access_Join (api_Access.mk y y1) (api_Access.mk y2 y3)).isSome = true, fun h => ok_access_Join (api_Access.mk y y1) (api_Access.mk y2 y3) _ (isSome_get h)⟩,
      ⟨some 42, 31, [.agg [.p (pi y), .p (pi y1)], .agg [.p (pi y2), .p (pi y3)]], [], [.agg [.p (pi (((ref14_Join (api_Access.mk y y1) (api_Access.mk y2 y3)).getD default).Extra)), .p (pi (((ref14_Join (api_Access.mk y y1) (api_Access.mk y2 y3)).getD default).Needs))]], [], (ref14_Join (api_Access.mk y y1) (api_Access.mk y2 y3)).isSome = true, fun h => ok_ref14_Join (api_Access.mk y y1) (api_Access.mk y2 y3) _ (isSome_get h)⟩,
      ⟨some 47, 32, [.agg [.p (pi extra), .p (pi needs)]], [], [.agg [.p (pi (((access_Imply (api_Access.mk extra needs)).getD default).Extra)), .p (pi (((access_Imply (api_Access.mk extra needs)).getD default).Needs))]], [], (access_Imply (api_Access.mk extra needs)).isSome = true, fun h => ok_access_Imply (api_Access.mk extra needs) _ (isSome_get h)⟩,
      ⟨some 49, 33, [.agg [.p (pi extra), .p (pi needs)]], [], [.agg [.p (pi (((ref14_Imply (api_Access.mk extra needs)).getD default).Extra)), .p (pi (((ref14_Imply (api_Access.mk extra needs)).getD default).Needs))]], [], (ref14_Imply (api_Access.mk extra needs)).isSome = true, fun h => ok_ref14_Imply (api_Access.mk extra needs) _ (isSome_get h)⟩,
      ⟨some 54, 32, [.agg [.p (pi y), .p (pi y1)]], [], [.agg [.p (pi (((access_Imply (api_Access.mk y y1)).getD default).Extra)), .p (pi (((access_Imply (api_Access.mk y y1)).getD default).Needs))]], [], (access_Imply (api_Access.mk y y1)).isSome = true, fun h => ok_access_Imply (api_Access.mk y y1) _ (isSome_get h)⟩,
      ⟨some 56, 33, [.agg [.p (pi y), .p (pi y1)]], [], [.agg [.p (pi (((ref14_Imply (api_Access.mk y y1)).getD default).Extra)), .p (pi (((ref14_Imply (api_Access.mk y y1)).getD default).Needs))]], [], (ref14_Imply (api_Access.mk y y1)).isSome = true, fun h => ok_ref14_Imply (api_Access.mk y y1) _ (isSome_get h)⟩,
      ⟨some 60, 16, [], [], [.one (.p (.val (.bool ((law14_awake).getD default))))], [], (law14_awake).isSome = true, fun h => ok_law14_awake _ (isSome_get h)⟩]) 27 (⟨62, mkS [(8, .x (.one (.p (.val (.bool ((((((y4.Extra == y5.Extra) && (y4.Needs == y5.Needs)) && ((((access_Join (api_Access.mk y y1) (api_Access.mk y2 y3)).getD default).Extra == ((ref14_Join (api_Access.mk y y1) (api_Access.mk y2 y3)).getD default).Extra) && (((access_Join (api_Access.mk y y1) (api_Access.mk y2 y3)).getD default).Needs == ((ref14_Join (api_Access.mk y y1) (api_Access.mk y2 y3)).getD default).Needs))) && ((((access_Imply (api_Access.mk extra needs)).getD default).Extra == ((ref14_Imply (api_Access.mk extra needs)).getD default).Extra) && (((access_Imply (api_Access.mk extra needs)).getD default).Needs == ((ref14_Imply (api_Access.mk extra needs)).getD default).Needs))) && ((((access_Imply (api_Access.mk y y1)).getD default).Extra == ((ref14_Imply (api_Access.mk y y1)).getD default).Extra) && (((access_Imply (api_Access.mk y y1)).getD default).Needs == ((ref14_Imply (api_Access.mk y y1)).getD default).Needs))) && ((law14_awake).getD default)))))))], mkH []⟩) (by kernel_rfl) (by kernel_rfl) ?_
  refine lok_ret ?_
  obtain rfl := Option.some.inj H0
  try simp only [thenL, blockL]
  exact fin_au _ (.inr rfl) [] (⟨62, mkS [(8, .x (.one (.p (.val (.bool ((((((y4.Extra == y5.Extra) && (y4.Needs == y5.Needs)) && ((((access_Join (api_Access.mk y y1) (api_Access.mk y2 y3)).getD default).Extra == ((ref14_Join (api_Access.mk y y1) (api_Access.mk y2 y3)).getD default).Extra) && (((access_Join (api_Access.mk y y1) (api_Access.mk y2 y3)).getD default).Needs == ((ref14_Join (api_Access.mk y y1) (api_Access.mk y2 y3)).getD default).Needs))) && ((((access_Imply (api_Access.mk extra needs)).getD default).Extra == ((ref14_Imply (api_Access.mk extra needs)).getD default).Extra) && (((access_Imply (api_Access.mk extra needs)).getD default).Needs == ((ref14_Imply (api_Access.mk extra needs)).getD default).Needs))) && ((((access_Imply (api_Access.mk y y1)).getD default).Extra == ((ref14_Imply (api_Access.mk y y1)).getD default).Extra) && (((access_Imply (api_Access.mk y y1)).getD default).Needs == ((ref14_Imply (api_Access.mk y y1)).getD default).Needs))) && ((law14_awake).getD default)))))))], mkH []⟩) rfl rfl imp_au
theorem ok_make_Tape_Access (t : make_Tape) (n : Int) (r_ : api_Access × make_Tape) (H0 : make_Tape_Access t n = some r_) : CallOK Try.prog 34 [.one (.ptr 0 0), .one (.p (pi n))] [.var [.p (.sl 1 (List.map encI t.L)), .p (pi t.At)]] [.agg [.p (pi r_.1.Extra), .p (pi r_.1.Needs)]] [some (.var [.p (.sl 1 (List.map encI r_.2.L)), .p (pi r_.2.At)])] := by
  refine callOK (n := 17) (rs := [.cell 4 38]) (nb := 1) (V := [0]) Try.func34 rfl (by kernel_rfl) rfl rfl rfl rfl (Nat.le_of_ble_eq_true rfl) rfl (by decide) ?_
  unfold make_Tape_Access at H0
  refine lok_rt E0 (⟨17, mkS [(0, .x (.one (.ptr 0 0))), (1, .x (.one (.p (pi n)))), (4, .x (.one (.ptr 104 0)))], mkH [(0, .var [.p (.sl 1 (List.map encI t.L)), .p (pi t.At)]), (104, .var [.p (pi (0 : Int)), .p (pi (0 : Int))])]⟩) ?_
  replace H0 := bind_some H0
  obtain ⟨⟨y, y1⟩, h_0, H0⟩ := H0
  try dsimp only at H0
  replace H0 := bind_some H0
  obtain ⟨⟨y2, y3⟩, h_1, H0⟩ := H0
  try dsimp only at H0
  replace H0 := bind_some H0
  obtain ⟨⟨y4, y5⟩, h_2, H0⟩ := H0
  try dsimp only at H0
  replace H0 := bind_some H0
  obtain ⟨⟨y6, y7⟩, h_3, H0⟩ := H0
  try dsimp only at H0
  refine lok_rt (Env.of E0 [⟨some 8, 36, [.one (.ptr 0 0), .one (.p (.sl 1 (List.map encI ([(0 : Int), (5 : Int), (25 : Int), (26 : Int), (50 : Int), (100 : Int)]))))], [.var [.p (.sl 1 (List.map encI t.L)), .p (pi t.At)]], [.one (.p (pi y))], [some (.var [.p (.sl 1 (List.map encI y1.L)), .p (pi y1.At)])], True, fun _ => ok_make_Tape_Pick t ([(0 : Int), (5 : Int), (25 : Int), (26 : Int), (50 : Int), (100 : Int)]) (y, y1) h_0⟩,
      ⟨some 10, 42, [.one (.ptr 0 0), .one (.p (pi y)), .one (.p (pi n))], [.var [.p (.sl 1 (List.map encI y1.L)), .p (pi y1.At)]], [.one (.p (pi y2))], [some (.var [.p (.sl 1 (List.map encI y3.L)), .p (pi y3.At)])], True, fun _ => ok_make_Tape_Spoil y1 y n (y2, y3) h_1⟩,
      ⟨some 13, 24, [.one (.ptr 0 0), .one (.p (pi (0 : Int))), .one (.p (pi (63 : Int)))], [.var [.p (.sl 1 (List.map encI y3.L)), .p (pi y3.At)]], [.one (.p (pi y4))], [some (.var [.p (.sl 1 (List.map encI y5.L)), .p (pi y5.At)])], True, fun _ => ok_make_Tape_Range y3 (0 : Int) (63 : Int) (y4, y5) h_2⟩,
      ⟨some 15, 42, [.one (.ptr 0 0), .one (.p (pi y4)), .one (.p (pi n))], [.var [.p (.sl 1 (List.map encI y5.L)), .p (pi y5.At)]], [.one (.p (pi y6))], [some (.var [.p (.sl 1 (List.map encI y7.L)), .p (pi y7.At)])], True, fun _ => ok_make_Tape_Spoil y5 y4 n (y6, y7) h_3⟩]) (⟨17, mkS [(4, .x (.one (.ptr 104 0)))], mkH [(0, .var [.p (.sl 1 (List.map encI y7.L)), .p (pi y7.At)]), (104, .var [.p (pi y2), .p (pi y6)])]⟩) ?_
  refine lok_ret ?_
  obtain rfl := Option.some.inj H0
  try simp only [thenL, blockL]
  exact fin_au _ (.inr rfl) [0] (⟨17, mkS [(4, .x (.one (.ptr 104 0)))], mkH [(0, .var [.p (.sl 1 (List.map encI y7.L)), .p (pi y7.At)]), (104, .var [.p (pi y2), .p (pi y6)])]⟩) rfl rfl imp_au
theorem ok_law14_AccessAlgebra (t : List Int) (r_ : Bool) (H0 : law14_AccessAlgebra t = some r_) : CallOK Try.prog 11 [.one (.p (.sl 1 (List.map encI t)))] [] [.one (.p (.val (.bool r_)))] [] := by
  refine callOK (n := 66) (rs := [.tmp 2]) (nb := 0) (V := []) Try.func11 rfl (by kernel_rfl) rfl rfl rfl rfl (Nat.le_of_ble_eq_true rfl) rfl (by decide) ?_
  unfold law14_AccessAlgebra at H0
  refine lok_rt E0 (⟨66, mkS [(0, .x (.one (.p (.sl 1 (List.map encI t)))))], mkH []⟩) ?_
  replace H0 := bind_some H0
  obtain ⟨y, h_0, H0⟩ := H0
  refine lok_rt (Env.of E0 [⟨some 9, 12, [.one (.p (.sl 1 (List.map encI t)))], [], [.one (.ptr 0 0)], [some (.var [.p (.sl 1 (List.map encI y.L)), .p (pi y.At)])], True, fun _ => ok_make_New t y h_0⟩]) (⟨66, mkS [(3, .x (.one (.ptr 1009 0)))], mkH [(1009, .var [.p (.sl 1 (List.map encI y.L)), .p (pi y.At)])]⟩) ?_
  replace H0 := bind_some H0
  obtain ⟨⟨y1, y2⟩, h_1, H0⟩ := H0
  try dsimp only at H0
  replace H0 := bind_some H0
  obtain ⟨⟨y3, y4⟩, h_2, H0⟩ := H0
  try dsimp only at H0
  replace H0 := bind_some H0
  obtain ⟨⟨y5, y6⟩, h_3, H0⟩ := H0
  try dsimp only at H0
  refine lok_rt (Env.of E0 [⟨some 11, 34, [.one (.ptr 0 0), .one (.p (pi (0 : Int)))], [.var [.p (.sl 1 (List.map encI y.L)), .p (pi y.At)]], [.agg [.p (pi y1.Extra), .p (pi y1.Needs)]], [some (.var [.p (.sl 1 (List.map encI y2.L)), .p (pi y2.At)])], True, fun _ => ok_make_Tape_Access y (0 : Int) (y1, y2) h_1⟩,
      ⟨some 13, 34, [.one (.ptr 0 0), .one (.p (pi (0 : Int)))], [.var [.p (.sl 1 (List.map encI y2.L)), .p (pi y2.At)]], [.agg [.p (pi y3.Extra), .p (pi y3.Needs)]], [some (.var [.p (.sl 1 (List.map encI y4.L)), .p (pi y4.At)])], True, fun _ => ok_make_Tape_Access y2 (0 : Int) (y3, y4) h_2⟩,
      ⟨some 15, 34, [.one (.ptr 0 0), .one (.p (pi (0 : Int)))], [.var [.p (.sl 1 (List.map encI y4.L)), .p (pi y4.At)]], [.agg [.p (pi y5.Extra), .p (pi y5.Needs)]], [some (.var [.p (.sl 1 (List.map encI y6.L)), .p (pi y6.At)])], True, fun _ => ok_make_Tape_Access y4 (0 : Int) (y5, y6) h_3⟩]) (⟨66, mkS [(4, .x (.one (.ptr 104 0))), (5, .x (.one (.ptr 105 0))), (6, .x (.one (.ptr 106 0)))], mkH [(104, .var [.p (pi y1.Extra), .p (pi y1.Needs)]), (105, .var [.p (pi y3.Extra), .p (pi y3.Needs)]), (106, .var [.p (pi y5.Extra), .p (pi y5.Needs)])]⟩) ?_
  replace H0 := bind_some H0
  obtain ⟨y7, h_4, H0⟩ := H0
  replace H0 := bind_some H0
  obtain ⟨y8, h_5, H0⟩ := H0
  refine lok_rt (Env.of E0 [⟨some 18, 30, [.agg [.p (pi y1.Extra), .p (pi y1.Needs)], .agg [.p (pi y3.Extra), .p (pi y3.Needs)]], [], [.agg [.p (pi y7.Extra), .p (pi y7.Needs)]], [], True, fun _ => ok_access_Join y1 y3 y7 h_4⟩,
      ⟨some 19, 32, [.agg [.p (pi y7.Extra), .p (pi y7.Needs)]], [], [.agg [.p (pi y8.Extra), .p (pi y8.Needs)]], [], True, fun _ => ok_access_Imply y7 y8 h_5⟩]) (⟨66, mkS [(4, .x (.one (.ptr 104 0))), (5, .x (.one (.ptr 105 0))), (6, .x (.one (.ptr 106 0))), (7, .x (.one (.ptr 107 0)))], mkH [(104, .var [.p (pi y1.Extra), .p (pi y1.Needs)]), (105, .var [.p (pi y3.Extra), .p (pi y3.Needs)]), (106, .var [.p (pi y5.Extra), .p (pi y5.Needs)]), (107, .var [.p (pi y8.Extra), .p (pi y8.Needs)])]⟩) ?_
  replace H0 := bind_some H0
  obtain ⟨y9, h_6, H0⟩ := H0
  replace H0 := bind_some H0
  obtain ⟨y10, h_7, H0⟩ := H0
  replace H0 := req_some H0
  obtain ⟨⟨q_8, q_9, q_10, q_11, q_12, q_13, q_14, q_15, q_16, q_17, q_18⟩, H0⟩ := H0
  refine lok_dt (Env.of E0 [⟨some 22, 30, [.agg [.p (pi y1.Extra), .p (pi y1.Needs)], .agg [.p (pi y3.Extra), .p (pi y3.Needs)]], [], [.agg [.p (pi y9.Extra), .p (pi y9.Needs)]], [], True, fun _ => ok_access_Join y1 y3 y9 h_6⟩,
      ⟨some 25, 30, [.agg [.p (pi y3.Extra), .p (pi y3.Needs)], .agg [.p (pi y1.Extra), .p (pi y1.Needs)]], [], [.agg [.p (pi y10.Extra), .p (pi y10.Needs)]], [], True, fun _ => ok_access_Join y3 y1 y10 h_7⟩,
      ⟨some 30, 30, [.agg [.p (pi y1.Extra), .p (pi y1.Needs)], .agg [.p (pi y3.Extra), .p (pi y3.Needs)]], [], [.agg [.p (pi (((access_Join y1 y3).getD default).Extra)), .p (pi (((access_Join y1 y3).getD default).Needs))]], [], (access_Join y1 y3).isSome = true, fun h => ok_access_Join y1 y3 _ (isSome_get h)⟩,
      ⟨some 32, 30, [.agg [.p (pi (((access_Join y1 y3).getD default).Extra)), .p (pi (((access_Join y1 y3).getD default).Needs))], .agg [.p (pi y5.Extra), .p (pi y5.Needs)]], [], [.agg [.p (pi (((access_Join ((access_Join y1 y3).getD default) y5).getD default).Extra)), .p (pi (((access_Join ((access_Join y1 y3).getD default) y5).getD default).Needs))]], [], (access_Join ((access_Join y1 y3).getD default) y5).isSome = true, fun h => ok_access_Join ((access_Join y1 y3).getD default) y5 _ (isSome_get h)⟩,
      ⟨some 36, 30, [.agg [.p (pi y3.Extra), .p (pi y3.Needs)], .agg [.p (pi y5.Extra), .p (pi y5.Needs)]], [], [.agg [.p (pi (((access_Join y3 y5).getD default).Extra)), .p (pi (((access_Join y3 y5).getD default).Needs))]], [], (access_Join y3 y5).isSome = true, fun h => ok_access_Join y3 y5 _ (isSome_get h)⟩,
      ⟨some 37, 30, [.agg [.p (pi y1.Extra), .p (pi y1.Needs)], .agg [.p (pi (((access_Join y3 y5).getD default).Extra)), .p (pi (((access_Join y3 y5).getD default).Needs))]], [], [.agg [.p (pi (((access_Join y1 ((access_Join y3 y5).getD default)).getD default).Extra)), .p (pi (((access_Join y1 ((access_Join y3 y5).getD default)).getD default).Needs))]], [], (access_Join y1 ((access_Join y3 y5).getD default)).isSome = true, fun h => ok_access_Join y1 ((access_Join y3 y5).getD default) _ (isSome_get h)⟩,
      ⟨some 43, 30, [.agg [.p (pi y1.Extra), .p (pi y1.Needs)], .agg [.p (pi y1.Extra), .p (pi y1.Needs)]], [], [.agg [.p (pi (((access_Join y1 y1).getD default).Extra)), .p (pi (((access_Join y1 y1).getD default).Needs))]], [], (access_Join y1 y1).isSome = true, fun h => ok_access_Join y1 y1 _ (isSome_get h)⟩,
      ⟨some 49, 32, [.agg [.p (pi y8.Extra), .p (pi y8.Needs)]], [], [.agg [.p (pi (((access_Imply y8).getD default).Extra)), .p (pi (((access_Imply y8).getD default).Needs))]], [], (access_Imply y8).isSome = true, fun h => ok_access_Imply y8 _ (isSome_get h)⟩,
      ⟨some 55, 32, [.agg [.p (pi y1.Extra), .p (pi y1.Needs)]], [], [.agg [.p (pi (((access_Imply y1).getD default).Extra)), .p (pi (((access_Imply y1).getD default).Needs))]], [], (access_Imply y1).isSome = true, fun h => ok_access_Imply y1 _ (isSome_get h)⟩,
      ⟨some 57, 32, [.agg [.p (pi y3.Extra), .p (pi y3.Needs)]], [], [.agg [.p (pi (((access_Imply y3).getD default).Extra)), .p (pi (((access_Imply y3).getD default).Needs))]], [], (access_Imply y3).isSome = true, fun h => ok_access_Imply y3 _ (isSome_get h)⟩,
      ⟨some 58, 30, [.agg [.p (pi (((access_Imply y1).getD default).Extra)), .p (pi (((access_Imply y1).getD default).Needs))], .agg [.p (pi (((access_Imply y3).getD default).Extra)), .p (pi (((access_Imply y3).getD default).Needs))]], [], [.agg [.p (pi (((access_Join ((access_Imply y1).getD default) ((access_Imply y3).getD default)).getD default).Extra)), .p (pi (((access_Join ((access_Imply y1).getD default) ((access_Imply y3).getD default)).getD default).Needs))]], [], (access_Join ((access_Imply y1).getD default) ((access_Imply y3).getD default)).isSome = true, fun h => ok_access_Join ((access_Imply y1).getD default) ((access_Imply y3).getD default) _ (isSome_get h)⟩,
      ⟨some 59, 32, [.agg [.p (pi (((access_Join ((access_Imply y1).getD default) ((access_Imply y3).getD default)).getD default).Extra)), .p (pi (((access_Join ((access_Imply y1).getD default) ((access_Imply y3).getD default)).getD default).Needs))]], [], [.agg [.p (pi (((access_Imply ((access_Join ((access_Imply y1).getD default) ((access_Imply y3).getD default)).getD default)).getD default).Extra)), .p (pi (((access_Imply ((access_Join ((access_Imply y1).getD default) ((access_Imply y3).getD default)).getD default)).getD default).Needs))]], [], (access_Imply ((access_Join ((access_Imply y1).getD default) ((access_Imply y3).getD default)).getD default)).isSome = true, fun h => ok_access_Imply ((access_Join ((access_Imply y1).getD default) ((access_Imply y3).getD default)).getD default) _ (isSome_get h)⟩,
      ⟨some 64, 16, [], [], [.one (.p (.val (.bool ((law14_awake).getD default))))], [], (law14_awake).isSome = true, fun h => ok_law14_awake _ (isSome_get h)⟩]) 41 (⟨66, mkS [(2, .x (.one (.p (.val (.bool (((((((y9.Extra == y10.Extra) && (y9.Needs == y10.Needs)) && ((((access_Join ((access_Join y1 y3).getD default) y5).getD default).Extra == ((access_Join y1 ((access_Join y3 y5).getD default)).getD default).Extra) && (((access_Join ((access_Join y1 y3).getD default) y5).getD default).Needs == ((access_Join y1 ((access_Join y3 y5).getD default)).getD default).Needs))) && ((((access_Join y1 y1).getD default).Extra == y1.Extra) && (((access_Join y1 y1).getD default).Needs == y1.Needs))) && ((((access_Imply y8).getD default).Extra == y8.Extra) && (((access_Imply y8).getD default).Needs == y8.Needs))) && ((((access_Imply ((access_Join ((access_Imply y1).getD default) ((access_Imply y3).getD default)).getD default)).getD default).Extra == y8.Extra) && (((access_Imply ((access_Join ((access_Imply y1).getD default) ((access_Imply y3).getD default)).getD default)).getD default).Needs == y8.Needs))) && ((law14_awake).getD default)))))))], mkH []⟩) (by kernel_rfl) (by kernel_rfl) ?_
  refine lok_ret ?_
  obtain rfl := Option.some.inj H0
  try simp only [thenL, blockL]
  exact fin_au _ (.inr rfl) [] (⟨66, mkS [(2, .x (.one (.p (.val (.bool (((((((y9.Extra == y10.Extra) && (y9.Needs == y10.Needs)) && ((((access_Join ((access_Join y1 y3).getD default) y5).getD default).Extra == ((access_Join y1 ((access_Join y3 y5).getD default)).getD default).Extra) && (((access_Join ((access_Join y1 y3).getD default) y5).getD default).Needs == ((access_Join y1 ((access_Join y3 y5).getD default)).getD default).Needs))) && ((((access_Join y1 y1).getD default).Extra == y1.Extra) && (((access_Join y1 y1).getD default).Needs == y1.Needs))) && ((((access_Imply y8).getD default).Extra == y8.Extra) && (((access_Imply y8).getD default).Needs == y8.Needs))) && ((((access_Imply ((access_Join ((access_Imply y1).getD default) ((access_Imply y3).getD default)).getD default)).getD default).Extra == y8.Extra) && (((access_Imply ((access_Join ((access_Imply y1).getD default) ((access_Imply y3).getD default)).getD default)).getD default).Needs == y8.Needs))) && ((law14_awake).getD default)))))))], mkH []⟩) rfl rfl imp_au
end Go.LS
