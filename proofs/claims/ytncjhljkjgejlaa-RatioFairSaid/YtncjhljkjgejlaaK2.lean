/-
  The walks: the functions compute what the plain ones say. Condition: the plain function has a value.
-/
import Derived.Test.YtncjhljkjgejlaaK1
import Derived.Test.YtncjhljkjgejlaaD2
namespace Go.LS
open Go.Proofs
set_option linter.all false
set_option linter.unusedSimpArgs false
set_option linter.unusedVariables false
set_option maxRecDepth 20000

theorem ok_make_Tape_Raw (t : make_Tape) (r_ : Int × make_Tape) (H0 : make_Tape_Raw t = some r_) : CallOK Try.prog 94 [.one (.ptr 0 0)] [.var [.p (.sl 1 (List.map encI t.L)), .p (pi t.At)]] [.one (.p (pi r_.1))] [some (.var [.p (.sl 1 (List.map encI r_.2.L)), .p (pi r_.2.At)])] := by
  refine callOK (n := 31) (rs := [.tmp 2]) (nb := 1) (V := [0]) Try.func94 rfl (by kernel_rfl) rfl rfl rfl rfl (Nat.le_of_ble_eq_true rfl) (by decide) ?_
  unfold make_Tape_Raw at H0
  refine lok_rt E0 (⟨31, mkS [(0, .x (.one (.ptr 0 0)))], mkH [(0, .var [.p (.sl 1 (List.map encI t.L)), .p (pi t.At)])]⟩) ?_
  refine lok_seq ?_
  refine lok_dt E0 9 (⟨31, mkS [(0, .x (.one (.ptr 0 0))), (12, .x (.one (.p (.val (.bool (decide ((t.L.length : Int) ≤ t.At)))))))], mkH [(0, .var [.p (.sl 1 (List.map encI t.L)), .p (pi t.At)])]⟩) (by kernel_rfl) (by kernel_rfl) ?_
  refine lok_c (decide ((t.L.length : Int) ≤ t.At)) ?_ ?_
  · intro b_2
    replace H0 := cpos H0 b_2
    refine lok_rt E0 (⟨31, mkS [(2, .x (.one (.p (pi (0 : Int)))))], mkH [(0, .var [.p (.sl 1 (List.map encI t.L)), .p (pi t.At)])]⟩) ?_
    refine lok_ret ?_
    obtain rfl := Option.some.inj H0
    try simp only [thenL, blockL]
    exact fin_au _ (.inr rfl) [0] (⟨31, mkS [(2, .x (.one (.p (pi (0 : Int)))))], mkH [(0, .var [.p (.sl 1 (List.map encI t.L)), .p (pi t.At)])]⟩) rfl rfl imp_au
  · intro b_2
    replace H0 := cneg H0 b_2
    refine lok_skip ?_
    try simp only [thenL, blockL, ↓reduceIte, reduceCtorEq]
    refine lok_rt E0 (⟨31, mkS [(0, .x (.one (.ptr 0 0)))], mkH [(0, .var [.p (.sl 1 (List.map encI t.L)), .p (pi (IntKind.i64.wrap (t.At + (1 : Int))))])]⟩) ?_
    replace H0 := req_some H0
    obtain ⟨q_1, H0⟩ := H0
    replace H0 := bindV_some H0
    obtain ⟨v, a_0, H0⟩ := H0
    refine lok_dtg E0 9 a_0 (⟨31, mkS [(2, .x (.one (.p (pi v))))], mkH [(0, .var [.p (.sl 1 (List.map encI t.L)), .p (pi (IntKind.i64.wrap (t.At + (1 : Int))))])]⟩) (by kernel_rfl) (by kernel_rfl) ?_
    refine lok_ret ?_
    obtain rfl := Option.some.inj H0
    try simp only [thenL, blockL]
    exact fin_au _ (.inr rfl) [0] (⟨31, mkS [(2, .x (.one (.p (pi v))))], mkH [(0, .var [.p (.sl 1 (List.map encI t.L)), .p (pi (IntKind.i64.wrap (t.At + (1 : Int))))])]⟩) rfl rfl imp_au
theorem ok_make_Tape_Next (t : make_Tape) (n : Int) (r_ : Int × make_Tape) (H0 : make_Tape_Next t n = some r_) : CallOK Try.prog 79 [.one (.ptr 0 0), .one (.p (pi n))] [.var [.p (.sl 1 (List.map encI t.L)), .p (pi t.At)]] [.one (.p (pi r_.1))] [some (.var [.p (.sl 1 (List.map encI r_.2.L)), .p (pi r_.2.At)])] := by
  refine callOK (n := 9) (rs := [.tmp 4]) (nb := 1) (V := [0]) Try.func79 rfl (by kernel_rfl) rfl rfl rfl rfl (Nat.le_of_ble_eq_true rfl) (by decide) ?_
  unfold make_Tape_Next at H0
  refine lok_rt E0 (⟨9, mkS [(0, .x (.one (.ptr 0 0))), (1, .x (.one (.p (pi n))))], mkH [(0, .var [.p (.sl 1 (List.map encI t.L)), .p (pi t.At)])]⟩) ?_
  replace H0 := bind_some H0
  obtain ⟨⟨y, y1⟩, h_0, H0⟩ := H0
  try dsimp only at H0
  replace H0 := bind_some H0
  obtain ⟨y2, h_1, H0⟩ := H0
  refine lok_rt (Env.of E0 [⟨some 6, 94, [.one (.ptr 0 0)], [.var [.p (.sl 1 (List.map encI t.L)), .p (pi t.At)]], [.one (.p (pi y))], [some (.var [.p (.sl 1 (List.map encI y1.L)), .p (pi y1.At)])], True, fun _ => ok_make_Tape_Raw t (y, y1) h_0, []⟩,
      ⟨some 8, 20, [.one (.p (pi y)), .one (.p (pi n))], [], [.one (.p (pi y2))], [], True, fun _ => ok_make_Cut y n y2 h_1, []⟩]) (⟨9, mkS [(4, .x (.one (.p (pi y2))))], mkH [(0, .var [.p (.sl 1 (List.map encI y1.L)), .p (pi y1.At)])]⟩) ?_
  refine lok_ret ?_
  obtain rfl := Option.some.inj H0
  try simp only [thenL, blockL]
  exact fin_au _ (.inr rfl) [0] (⟨9, mkS [(4, .x (.one (.p (pi y2))))], mkH [(0, .var [.p (.sl 1 (List.map encI y1.L)), .p (pi y1.At)])]⟩) rfl rfl imp_au
theorem ok_make_Tape_Range (t : make_Tape) (low : Int) (high : Int) (r_ : Int × make_Tape) (H0 : make_Tape_Range t low high = some r_) : CallOK Try.prog 55 [.one (.ptr 0 0), .one (.p (pi low)), .one (.p (pi high))] [.var [.p (.sl 1 (List.map encI t.L)), .p (pi t.At)]] [.one (.p (pi r_.1))] [some (.var [.p (.sl 1 (List.map encI r_.2.L)), .p (pi r_.2.At)])] := by
  refine callOK (n := 15) (rs := [.tmp 6]) (nb := 1) (V := [0]) Try.func55 rfl (by kernel_rfl) rfl rfl rfl rfl (Nat.le_of_ble_eq_true rfl) (by decide) ?_
  unfold make_Tape_Range at H0
  refine lok_rt E0 (⟨15, mkS [(0, .x (.one (.ptr 0 0))), (1, .x (.one (.p (pi low)))), (2, .x (.one (.p (pi high))))], mkH [(0, .var [.p (.sl 1 (List.map encI t.L)), .p (pi t.At)])]⟩) ?_
  replace H0 := bind_some H0
  obtain ⟨⟨y, y1⟩, h_0, H0⟩ := H0
  try dsimp only at H0
  refine lok_rt (Env.of E0 [⟨some 13, 79, [.one (.ptr 0 0), .one (.p (pi (IntKind.i64.wrap ((IntKind.i64.wrap (high - low)) + (1 : Int)))))], [.var [.p (.sl 1 (List.map encI t.L)), .p (pi t.At)]], [.one (.p (pi y))], [some (.var [.p (.sl 1 (List.map encI y1.L)), .p (pi y1.At)])], True, fun _ => ok_make_Tape_Next t (IntKind.i64.wrap ((IntKind.i64.wrap (high - low)) + (1 : Int))) (y, y1) h_0, []⟩]) (⟨15, mkS [(6, .x (.one (.p (pi (IntKind.i64.wrap (low + y))))))], mkH [(0, .var [.p (.sl 1 (List.map encI y1.L)), .p (pi y1.At)])]⟩) ?_
  refine lok_ret ?_
  obtain rfl := Option.some.inj H0
  try simp only [thenL, blockL]
  exact fin_au _ (.inr rfl) [0] (⟨15, mkS [(6, .x (.one (.p (pi (IntKind.i64.wrap (low + y))))))], mkH [(0, .var [.p (.sl 1 (List.map encI y1.L)), .p (pi y1.At)])]⟩) rfl rfl imp_au
theorem ok_make_Tape_Ints (t : make_Tape) (most : Int) (low : Int) (high : Int) (r_ : (List Int) × make_Tape) (H0 : make_Tape_Ints t most low high = some r_) : CallOK Try.prog 19 [.one (.ptr 0 0), .one (.p (pi most)), .one (.p (pi low)), .one (.p (pi high))] [.var [.p (.sl 1 (List.map encI t.L)), .p (pi t.At)]] [.one (.p (.sl 1 (List.map encI r_.1)))] [some (.var [.p (.sl 1 (List.map encI r_.2.L)), .p (pi r_.2.At)])] := by
  refine callOK (n := 26) (rs := [.tmp 8]) (nb := 1) (V := [0]) Try.func19 rfl (by kernel_rfl) rfl rfl rfl rfl (Nat.le_of_ble_eq_true rfl) (by decide) ?_
  unfold make_Tape_Ints at H0
  refine lok_rt E0 (⟨26, mkS [(0, .x (.one (.ptr 0 0))), (1, .x (.one (.p (pi most)))), (2, .x (.one (.p (pi low)))), (3, .x (.one (.p (pi high))))], mkH [(0, .var [.p (.sl 1 (List.map encI t.L)), .p (pi t.At)])]⟩) ?_
  refine lok_rt E0 (⟨26, mkS [(0, .x (.one (.ptr 0 0))), (1, .x (.one (.p (pi most)))), (2, .x (.one (.p (pi low)))), (3, .x (.one (.p (pi high)))), (9, .x (.one (.vw 109)))], mkH [(0, .var [.p (.sl 1 (List.map encI t.L)), .p (pi t.At)]), (109, .arr 1 (List.map encI ([] : List Int)))]⟩) ?_
  refine lok_join (fun x_ : (List Int) × Int × (List Int) => make_Tape_Ints_j1 x_.1 x_.2.1 x_.2.2 = some r_) (fun x_ => ⟨26, mkS [(9, .x (.one (.vw 109)))], mkH [(0, .var [.p (.sl 1 (List.map encI x_.1)), .p (pi x_.2.1)]), (109, .arr 1 (List.map encI x_.2.2))]⟩) ?hymake_Tape_Ints_j1 ?hxmake_Tape_Ints_j1
  case hymake_Tape_Ints_j1 =>
    rintro ⟨t1, t2, out⟩ H0
    try dsimp only at H0 ⊢
    unfold make_Tape_Ints_j1 at H0
    refine lok_rt E0 (⟨26, mkS [(8, .x (.one (.vw 109)))], mkH [(0, .var [.p (.sl 1 (List.map encI t1)), .p (pi t2)]), (109, .arr 1 (List.map encI out))]⟩) ?_
    refine lok_ret ?_
    obtain rfl := Option.some.inj H0
    try simp only [thenL, blockL]
    exact fin_au _ (.inr rfl) [0] (⟨26, mkS [(8, .x (.one (.p (.sl 1 (List.map encI out)))))], mkH [(0, .var [.p (.sl 1 (List.map encI t1)), .p (pi t2)])]⟩) rfl rfl (Imp.trans (imp_frz 109 1 (List.map encI out)) imp_au)
  case hxmake_Tape_Ints_j1 =>
    replace H0 := bind_some H0
    obtain ⟨⟨y, y1⟩, h_0, H0⟩ := H0
    try dsimp only at H0
    refine lok_rt (Env.of E0 [⟨some 13, 55, [.one (.ptr 0 0), .one (.p (pi (0 : Int))), .one (.p (pi most))], [.var [.p (.sl 1 (List.map encI t.L)), .p (pi t.At)]], [.one (.p (pi y))], [some (.var [.p (.sl 1 (List.map encI y1.L)), .p (pi y1.At)])], True, fun _ => ok_make_Tape_Range t (0 : Int) most (y, y1) h_0, []⟩]) (⟨26, mkS [(0, .x (.one (.ptr 0 0))), (2, .x (.one (.p (pi low)))), (3, .x (.one (.p (pi high)))), (9, .x (.one (.vw 109))), (10, .x (.one (.p (pi y))))], mkH [(0, .var [.p (.sl 1 (List.map encI y1.L)), .p (pi y1.At)]), (109, .arr 1 (List.map encI ([] : List Int)))]⟩) ?_
    refine lok_block ?_
    replace H0 := bind_some H0
    obtain ⟨v_1, hv_1, H0⟩ := H0
    refine lok_iter (fun x_ => ⟨26, mkS [(0, .x (.one (.ptr 0 0))), (2, .x (.one (.p (pi low)))), (3, .x (.one (.p (pi high)))), (9, .x (.one (.vw 109))), (10, .x (.one (.p (pi x_.1))))], mkH [(0, .var [.p (.sl 1 (List.map encI x_.2.1)), .p (pi x_.2.2.1)]), (109, .arr 1 (List.map encI x_.2.2.2))]⟩) hv_1 imp_au ?_
    · rintro ⟨i, t3, t4, out1⟩ o_1 H1 k_1
      unfold make_Tape_Ints_l2 at H1
      try dsimp only at H1 ⊢
      refine lok_seq ?_
      refine lok_rt E0 (⟨26, mkS [(0, .x (.one (.ptr 0 0))), (2, .x (.one (.p (pi low)))), (3, .x (.one (.p (pi high)))), (9, .x (.one (.vw 109))), (10, .x (.one (.p (pi i)))), (15, .x (.one (.p (.val (.bool (decide ((0 : Int) < i)))))))], mkH [(0, .var [.p (.sl 1 (List.map encI t3)), .p (pi t4)]), (109, .arr 1 (List.map encI out1))]⟩) ?_
      refine lok_c (decide ((0 : Int) < i)) ?_ ?_
      · intro b_4
        replace H1 := cpos H1 b_4
        refine lok_skip ?_
        try simp only [thenL, blockL, ↓reduceIte, reduceCtorEq]
        refine lok_seq ?_
        refine lok_block ?_
        replace H1 := bind_some H1
        obtain ⟨⟨y2, y3⟩, h_2, H1⟩ := H1
        try dsimp only at H1
        replace H1 := req_some H1
        obtain ⟨q_3, H1⟩ := H1
        refine lok_rl (Env.of E0 [⟨some 22, 55, [.one (.ptr 0 0), .one (.p (pi low)), .one (.p (pi high))], [.var [.p (.sl 1 (List.map encI t3)), .p (pi t4)]], [.one (.p (pi y2))], [some (.var [.p (.sl 1 (List.map encI y3.L)), .p (pi y3.At)])], True, fun _ => ok_make_Tape_Range (make_Tape.mk t3 t4) low high (y2, y3) h_2, []⟩]) (⟨26, mkS [(0, .x (.one (.ptr 0 0))), (2, .x (.one (.p (pi low)))), (3, .x (.one (.p (pi high)))), (9, .x (.one (.vw 109))), (10, .x (.one (.p (pi i))))], mkH [(0, .var [.p (.sl 1 (List.map encI y3.L)), .p (pi y3.At)]), (109, .arr 1 (List.map encI (out1 ++ [y2])))]⟩) ?_
        try simp only [thenL, blockL, ↓reduceIte, reduceCtorEq]
        refine lok_rl E0 (⟨26, mkS [(0, .x (.one (.ptr 0 0))), (2, .x (.one (.p (pi low)))), (3, .x (.one (.p (pi high)))), (9, .x (.one (.vw 109))), (10, .x (.one (.p (pi (IntKind.i64.wrap (i - (1 : Int)))))))], mkH [(0, .var [.p (.sl 1 (List.map encI y3.L)), .p (pi y3.At)]), (109, .arr 1 (List.map encI (out1 ++ [y2])))]⟩) ?_
        try simp only [thenL, blockL, ↓reduceIte, reduceCtorEq]
        exact ⟨((IntKind.i64.wrap (i - (1 : Int))), y3.L, y3.At, (out1 ++ [y2])), (Option.some.inj H1).symm, imp_au⟩
      · intro b_4
        replace H1 := cneg H1 b_4
        refine lok_exit ?_
        try simp only [thenL, blockL, ↓reduceIte, reduceCtorEq]
        have e_1 := k_1 _ (Option.some.inj H1).symm
        subst e_1
        try dsimp only at H0
        try simp only [thenL, blockL, ↓reduceIte, reduceCtorEq]
        exact ⟨(t3, t4, out1), H0, imp_au⟩
theorem ok_law01_RatioFair (t : List Int) (total : Int) (r_ : Bool) (H0 : law01_RatioFair t total = some r_) : CallOK Try.prog 4 [.one (.p (.sl 1 (List.map encI t))), .one (.p (pi total))] [] [.one (.p (.val (.bool r_)))] [] := by
  refine callOK (n := 133) (rs := [.tmp 4]) (nb := 0) (V := []) Try.func4 rfl (by kernel_rfl) rfl rfl rfl rfl (Nat.le_of_ble_eq_true rfl) (by decide) ?_
  unfold law01_RatioFair at H0
  refine lok_rt E0 (⟨133, mkS [(0, .x (.one (.p (.sl 1 (List.map encI t))))), (1, .x (.one (.p (pi total))))], mkH []⟩) ?_
  replace H0 := bind_some H0
  obtain ⟨y, h_0, H0⟩ := H0
  replace H0 := bind_some H0
  obtain ⟨⟨y1, y2⟩, h_1, H0⟩ := H0
  try dsimp only at H0
  refine lok_rt (Env.of E0 [⟨some 14, 18, [.one (.p (.sl 1 (List.map encI t)))], [], [.one (.ptr 0 0)], [some (.var [.p (.sl 1 (List.map encI y.L)), .p (pi y.At)])], True, fun _ => ok_make_New t y h_0, []⟩,
      ⟨some 15, 19, [.one (.ptr 0 0), .one (.p (pi (8 : Int))), .one (.p (pi (0 : Int))), .one (.p (pi (60 : Int)))], [.var [.p (.sl 1 (List.map encI y.L)), .p (pi y.At)]], [.one (.p (.sl 1 (List.map encI y1)))], [some (.var [.p (.sl 1 (List.map encI y2.L)), .p (pi y2.At)])], True, fun _ => ok_make_Tape_Ints y (8 : Int) (0 : Int) (60 : Int) (y1, y2) h_1, []⟩]) (⟨133, mkS [(1, .x (.one (.p (pi total)))), (5, .x (.one (.p (.sl 1 (List.map encI y1)))))], mkH []⟩) ?_
  replace H0 := bind_some H0
  obtain ⟨y3, h_2, H0⟩ := H0
  refine lok_rt (Env.of E0 [⟨some 17, 20, [.one (.p (pi total)), .one (.p (pi (500 : Int)))], [], [.one (.p (pi y3))], [], True, fun _ => ok_make_Cut total (500 : Int) y3 h_2, []⟩]) (⟨133, mkS [(1, .x (.one (.p (pi y3)))), (5, .x (.one (.p (.sl 1 (List.map encI y1)))))], mkH []⟩) ?_
  refine lok_rt E0 (⟨133, mkS [(1, .x (.one (.p (pi y3)))), (5, .x (.one (.p (.sl 1 (List.map encI y1))))), (6, .x (.one (.p (pi (0 : Int)))))], mkH []⟩) ?_
  refine lok_join (fun x_ : Int => law01_RatioFair_j5 y1 y3 x_ = some r_) (fun x_ => ⟨133, mkS [(1, .x (.one (.p (pi y3)))), (5, .x (.one (.p (.sl 1 (List.map encI y1))))), (6, .x (.one (.p (pi x_))))], mkH []⟩) ?hylaw01_RatioFair_j5 ?hxlaw01_RatioFair_j5
  case hylaw01_RatioFair_j5 =>
    rintro sum H0
    try dsimp only at H0 ⊢
    unfold law01_RatioFair_j5 at H0
    replace H0 := bind_some H0
    obtain ⟨⟨y4, y5⟩, h_3, H0⟩ := H0
    try dsimp only at H0
    refine lok_rt (Env.of E0 [⟨some 33, 14, [.one (.p (pi y3)), .one (.p (.sl 1 (List.map encI y1)))], [], [.one (.p (.sl 1 (List.map encI y4))), .one (.p (pi y5))], [], True, fun _ => ok_ratio_Apportion y3 y1 (y4, y5) h_3, []⟩]) (⟨133, mkS [(1, .x (.one (.p (pi y3)))), (5, .x (.one (.p (.sl 1 (List.map encI y1))))), (6, .x (.one (.p (pi sum)))), (8, .x (.one (.p (.sl 1 (List.map encI y4))))), (9, .x (.one (.p (pi y5))))], mkH []⟩) ?_
    refine lok_seq ?_
    refine lok_rt E0 (⟨133, mkS [(1, .x (.one (.p (pi y3)))), (5, .x (.one (.p (.sl 1 (List.map encI y1))))), (6, .x (.one (.p (pi sum)))), (8, .x (.one (.p (.sl 1 (List.map encI y4))))), (9, .x (.one (.p (pi y5)))), (37, .x (.one (.p (.val (.bool (sum == (0 : Int)))))))], mkH []⟩) ?_
    refine lok_c (sum == (0 : Int)) ?_ ?_
    · intro b_22
      replace H0 := cpos H0 b_22
      replace H0 := req_some H0
      obtain ⟨q_4, H0⟩ := H0
      refine lok_rt (Env.of E0 [⟨some 46, 17, [], [], [.one (.p (.val (.bool ((law01_awake).getD default))))], [], (law01_awake).isSome = true, fun h => ok_law01_awake _ (isSome_get h), []⟩]) (⟨133, mkS [(4, .x (.one (.p (.val (.bool (((y5 == (10 : Int)) && ((y4.length : Int) == (0 : Int))) && ((law01_awake).getD default)))))))], mkH []⟩) ?_
      refine lok_ret ?_
      obtain rfl := Option.some.inj H0
      try simp only [thenL, blockL]
      exact fin_au _ (.inr rfl) [] (⟨133, mkS [(4, .x (.one (.p (.val (.bool (((y5 == (10 : Int)) && ((y4.length : Int) == (0 : Int))) && ((law01_awake).getD default)))))))], mkH []⟩) rfl rfl imp_au
    · intro b_22
      replace H0 := cneg H0 b_22
      refine lok_skip ?_
      try simp only [thenL, blockL, ↓reduceIte, reduceCtorEq]
      refine lok_seq ?_
      refine lok_rt E0 (⟨133, mkS [(1, .x (.one (.p (pi y3)))), (5, .x (.one (.p (.sl 1 (List.map encI y1))))), (6, .x (.one (.p (pi sum)))), (8, .x (.one (.p (.sl 1 (List.map encI y4))))), (56, .x (.one (.p (.val (.bool ((y5 != (0 : Int)) || ((y4.length : Int) != (y1.length : Int))))))))], mkH []⟩) ?_
      refine lok_c ((y5 != (0 : Int)) || ((y4.length : Int) != (y1.length : Int))) ?_ ?_
      · intro b_21
        replace H0 := cpos H0 b_21
        refine lok_rt E0 (⟨133, mkS [(4, .x (.one (.p (.val (.bool false)))))], mkH []⟩) ?_
        refine lok_ret ?_
        obtain rfl := Option.some.inj H0
        try simp only [thenL, blockL]
        exact fin_au _ (.inr rfl) [] (⟨133, mkS [(4, .x (.one (.p (.val (.bool false)))))], mkH []⟩) rfl rfl imp_au
      · intro b_21
        replace H0 := cneg H0 b_21
        refine lok_skip ?_
        try simp only [thenL, blockL, ↓reduceIte, reduceCtorEq]
        refine lok_rt E0 (⟨133, mkS [(1, .x (.one (.p (pi y3)))), (5, .x (.one (.p (.sl 1 (List.map encI y1))))), (6, .x (.one (.p (pi sum)))), (8, .x (.one (.p (.sl 1 (List.map encI y4))))), (10, .x (.one (.p (pi y3))))], mkH []⟩) ?_
        refine lok_join (fun x_ : Int => law01_RatioFair_j1 x_ = some r_) (fun x_ => ⟨133, mkS [(10, .x (.one (.p (pi x_))))], mkH []⟩) ?hylaw01_RatioFair_j1 ?hxlaw01_RatioFair_j1
        case hylaw01_RatioFair_j1 =>
          rintro left H0
          try dsimp only at H0 ⊢
          unfold law01_RatioFair_j1 at H0
          replace H0 := req_some H0
          obtain ⟨q_5, H0⟩ := H0
          refine lok_rt (Env.of E0 [⟨some 131, 17, [], [], [.one (.p (.val (.bool ((law01_awake).getD default))))], [], (law01_awake).isSome = true, fun h => ok_law01_awake _ (isSome_get h), []⟩]) (⟨133, mkS [(4, .x (.one (.p (.val (.bool ((left == (0 : Int)) && ((law01_awake).getD default)))))))], mkH []⟩) ?_
          refine lok_ret ?_
          obtain rfl := Option.some.inj H0
          try simp only [thenL, blockL]
          exact fin_au _ (.inr rfl) [] (⟨133, mkS [(4, .x (.one (.p (.val (.bool ((left == (0 : Int)) && ((law01_awake).getD default)))))))], mkH []⟩) rfl rfl imp_au
        case hxlaw01_RatioFair_j1 =>
          refine lok_rt E0 (⟨133, mkS [(1, .x (.one (.p (pi y3)))), (5, .x (.one (.p (.sl 1 (List.map encI y1))))), (6, .x (.one (.p (pi sum)))), (8, .x (.one (.p (.sl 1 (List.map encI y4))))), (10, .x (.one (.p (pi y3)))), (11, .x (.one (.p (pi (0 : Int)))))], mkH []⟩) ?_
          refine lok_block ?_
          replace H0 := bind_some H0
          obtain ⟨v_6, hv_6, H0⟩ := H0
          refine lok_iter (fun x_ => ⟨133, mkS [(1, .x (.one (.p (pi y3)))), (5, .x (.one (.p (.sl 1 (List.map encI y1))))), (6, .x (.one (.p (pi sum)))), (8, .x (.one (.p (.sl 1 (List.map encI y4))))), (10, .x (.one (.p (pi x_.1)))), (11, .x (.one (.p (pi x_.2))))], mkH []⟩) hv_6 imp_au ?_
          · rintro ⟨left1, i⟩ o_1 H1 k_1
            unfold law01_RatioFair_l4 at H1
            try dsimp only at H1 ⊢
            refine lok_seq ?_
            refine lok_rt E0 (⟨133, mkS [(1, .x (.one (.p (pi y3)))), (5, .x (.one (.p (.sl 1 (List.map encI y1))))), (6, .x (.one (.p (pi sum)))), (8, .x (.one (.p (.sl 1 (List.map encI y4))))), (10, .x (.one (.p (pi left1)))), (11, .x (.one (.p (pi i)))), (61, .x (.one (.p (.val (.bool (decide (i < (y1.length : Int))))))))], mkH []⟩) ?_
            refine lok_c (decide (i < (y1.length : Int))) ?_ ?_
            · intro b_20
              replace H1 := cpos H1 b_20
              refine lok_skip ?_
              try simp only [thenL, blockL, ↓reduceIte, reduceCtorEq]
              refine lok_join (fun x_ : Unit => law01_RatioFair_j2 y4 left1 i = some o_1) (fun x_ => ⟨133, mkS [(1, .x (.one (.p (pi y3)))), (5, .x (.one (.p (.sl 1 (List.map encI y1))))), (6, .x (.one (.p (pi sum)))), (8, .x (.one (.p (.sl 1 (List.map encI y4))))), (10, .x (.one (.p (pi (IntKind.i64.wrap (left1 - (ix y4 i))))))), (11, .x (.one (.p (pi i))))], mkH []⟩) ?hylaw01_RatioFair_j2 ?hxlaw01_RatioFair_j2
              case hylaw01_RatioFair_j2 =>
                rintro _ H1
                try dsimp only at H1 ⊢
                unfold law01_RatioFair_j2 at H1
                refine lok_rl E0 (⟨133, mkS [(1, .x (.one (.p (pi y3)))), (5, .x (.one (.p (.sl 1 (List.map encI y1))))), (6, .x (.one (.p (pi sum)))), (8, .x (.one (.p (.sl 1 (List.map encI y4))))), (10, .x (.one (.p (pi (IntKind.i64.wrap (left1 - (ix y4 i))))))), (11, .x (.one (.p (pi (IntKind.i64.wrap (i + (1 : Int)))))))], mkH []⟩) ?_
                try simp only [thenL, blockL, ↓reduceIte, reduceCtorEq]
                exact ⟨((IntKind.i64.wrap (left1 - (ix y4 i))), (IntKind.i64.wrap (i + (1 : Int)))), (Option.some.inj H1).symm, imp_au⟩
              case hxlaw01_RatioFair_j2 =>
                refine lok_block ?_
                replace H1 := req_some H1
                obtain ⟨q_19, H1⟩ := H1
                refine lok_rt E0 (⟨133, mkS [(1, .x (.one (.p (pi y3)))), (5, .x (.one (.p (.sl 1 (List.map encI y1))))), (6, .x (.one (.p (pi sum)))), (8, .x (.one (.p (.sl 1 (List.map encI y4))))), (10, .x (.one (.p (pi (IntKind.i64.wrap (left1 - (ix y4 i))))))), (11, .x (.one (.p (pi i))))], mkH []⟩) ?_
                refine lok_seq ?_
                replace H1 := req_some H1
                obtain ⟨⟨q_15, q_16, q_17, q_18⟩, H1⟩ := H1
                refine lok_dt E0 30 (⟨133, mkS [(1, .x (.one (.p (pi y3)))), (5, .x (.one (.p (.sl 1 (List.map encI y1))))), (6, .x (.one (.p (pi sum)))), (8, .x (.one (.p (.sl 1 (List.map encI y4))))), (10, .x (.one (.p (pi (IntKind.i64.wrap (left1 - (ix y4 i))))))), (11, .x (.one (.p (pi i)))), (101, .x (.one (.p (.val (.bool ((decide ((IntKind.i64.wrap ((ix y4 i) * sum)) ≤ (IntKind.i64.wrap ((IntKind.i64.wrap (y3 * (ix y1 i))) - sum)))) || (decide ((IntKind.i64.wrap ((IntKind.i64.wrap (y3 * (ix y1 i))) + sum)) ≤ (IntKind.i64.wrap ((ix y4 i) * sum))))))))))], mkH []⟩) (by kernel_rfl) (by kernel_rfl) ?_
                refine lok_c ((decide ((IntKind.i64.wrap ((ix y4 i) * sum)) ≤ (IntKind.i64.wrap ((IntKind.i64.wrap (y3 * (ix y1 i))) - sum)))) || (decide ((IntKind.i64.wrap ((IntKind.i64.wrap (y3 * (ix y1 i))) + sum)) ≤ (IntKind.i64.wrap ((ix y4 i) * sum))))) ?_ ?_
                · intro b_14
                  replace H1 := cpos H1 b_14
                  refine lok_rt E0 (⟨133, mkS [(4, .x (.one (.p (.val (.bool false)))))], mkH []⟩) ?_
                  refine lok_ret ?_
                  try simp only [thenL, blockL, ↓reduceIte, reduceCtorEq]
                  have e_1 := k_1 _ (Option.some.inj H1).symm
                  subst e_1
                  try dsimp only at H0
                  obtain rfl := Option.some.inj H0
                  try simp only [thenL, blockL]
                  exact fin_au _ (.inr rfl) [] (⟨133, mkS [(4, .x (.one (.p (.val (.bool false)))))], mkH []⟩) rfl rfl imp_au
                · intro b_14
                  replace H1 := cneg H1 b_14
                  refine lok_skip ?_
                  try simp only [thenL, blockL, ↓reduceIte, reduceCtorEq]
                  refine lok_rt E0 (⟨133, mkS [(1, .x (.one (.p (pi y3)))), (5, .x (.one (.p (.sl 1 (List.map encI y1))))), (6, .x (.one (.p (pi sum)))), (8, .x (.one (.p (.sl 1 (List.map encI y4))))), (10, .x (.one (.p (pi (IntKind.i64.wrap (left1 - (ix y4 i))))))), (11, .x (.one (.p (pi i)))), (12, .x (.one (.p (pi (0 : Int)))))], mkH []⟩) ?_
                  refine lok_block ?_
                  replace H1 := bind_some H1
                  obtain ⟨v_7, hv_7, H1⟩ := H1
                  refine lok_iter (fun x_ => ⟨133, mkS [(1, .x (.one (.p (pi y3)))), (5, .x (.one (.p (.sl 1 (List.map encI y1))))), (6, .x (.one (.p (pi sum)))), (8, .x (.one (.p (.sl 1 (List.map encI y4))))), (10, .x (.one (.p (pi (IntKind.i64.wrap (left1 - (ix y4 i))))))), (11, .x (.one (.p (pi i)))), (12, .x (.one (.p (pi x_))))], mkH []⟩) hv_7 imp_au ?_
                  · rintro k o_2 H2 k_2
                    unfold law01_RatioFair_l3 at H2
                    try dsimp only at H2 ⊢
                    refine lok_seq ?_
                    refine lok_rt E0 (⟨133, mkS [(1, .x (.one (.p (pi y3)))), (5, .x (.one (.p (.sl 1 (List.map encI y1))))), (6, .x (.one (.p (pi sum)))), (8, .x (.one (.p (.sl 1 (List.map encI y4))))), (10, .x (.one (.p (pi (IntKind.i64.wrap (left1 - (ix y4 i))))))), (11, .x (.one (.p (pi i)))), (12, .x (.one (.p (pi k)))), (105, .x (.one (.p (.val (.bool (decide (k < (y1.length : Int))))))))], mkH []⟩) ?_
                    refine lok_c (decide (k < (y1.length : Int))) ?_ ?_
                    · intro b_13
                      replace H2 := cpos H2 b_13
                      refine lok_skip ?_
                      try simp only [thenL, blockL, ↓reduceIte, reduceCtorEq]
                      refine lok_seq ?_
                      refine lok_block ?_
                      replace H2 := req_some H2
                      obtain ⟨⟨q_9, q_10, q_11, q_12⟩, H2⟩ := H2
                      refine lok_dt E0 18 (⟨133, mkS [(1, .x (.one (.p (pi y3)))), (5, .x (.one (.p (.sl 1 (List.map encI y1))))), (6, .x (.one (.p (pi sum)))), (8, .x (.one (.p (.sl 1 (List.map encI y4))))), (10, .x (.one (.p (pi (IntKind.i64.wrap (left1 - (ix y4 i))))))), (11, .x (.one (.p (pi i)))), (12, .x (.one (.p (pi k)))), (127, .x (.one (.p (.val (.bool ((decide ((ix y1 k) < (ix y1 i))) && (decide ((ix y4 i) < (ix y4 k)))))))))], mkH []⟩) (by kernel_rfl) (by kernel_rfl) ?_
                      refine lok_c ((decide ((ix y1 k) < (ix y1 i))) && (decide ((ix y4 i) < (ix y4 k)))) ?_ ?_
                      · intro b_8
                        replace H2 := cpos H2 b_8
                        refine lok_rt E0 (⟨133, mkS [(4, .x (.one (.p (.val (.bool false)))))], mkH []⟩) ?_
                        refine lok_ret ?_
                        try simp only [thenL, blockL, ↓reduceIte, reduceCtorEq]
                        have e_2 := k_2 _ (Option.some.inj H2).symm
                        subst e_2
                        try dsimp only at H1
                        try simp only [thenL, blockL, ↓reduceIte, reduceCtorEq]
                        have e_1 := k_1 _ (Option.some.inj H1).symm
                        subst e_1
                        try dsimp only at H0
                        obtain rfl := Option.some.inj H0
                        try simp only [thenL, blockL]
                        exact fin_au _ (.inr rfl) [] (⟨133, mkS [(4, .x (.one (.p (.val (.bool false)))))], mkH []⟩) rfl rfl imp_au
                      · intro b_8
                        replace H2 := cneg H2 b_8
                        refine lok_skip ?_
                        try simp only [thenL, blockL, ↓reduceIte, reduceCtorEq]
                        refine lok_rl E0 (⟨133, mkS [(1, .x (.one (.p (pi y3)))), (5, .x (.one (.p (.sl 1 (List.map encI y1))))), (6, .x (.one (.p (pi sum)))), (8, .x (.one (.p (.sl 1 (List.map encI y4))))), (10, .x (.one (.p (pi (IntKind.i64.wrap (left1 - (ix y4 i))))))), (11, .x (.one (.p (pi i)))), (12, .x (.one (.p (pi (IntKind.i64.wrap (k + (1 : Int)))))))], mkH []⟩) ?_
                        try simp only [thenL, blockL, ↓reduceIte, reduceCtorEq]
                        exact ⟨(IntKind.i64.wrap (k + (1 : Int))), (Option.some.inj H2).symm, imp_au⟩
                    · intro b_13
                      replace H2 := cneg H2 b_13
                      refine lok_exit ?_
                      try simp only [thenL, blockL, ↓reduceIte, reduceCtorEq]
                      have e_2 := k_2 _ (Option.some.inj H2).symm
                      subst e_2
                      try dsimp only at H1
                      try simp only [thenL, blockL, ↓reduceIte, reduceCtorEq]
                      exact ⟨(), H1, imp_au⟩
            · intro b_20
              replace H1 := cneg H1 b_20
              refine lok_exit ?_
              try simp only [thenL, blockL, ↓reduceIte, reduceCtorEq]
              have e_1 := k_1 _ (Option.some.inj H1).symm
              subst e_1
              try dsimp only at H0
              try simp only [thenL, blockL, ↓reduceIte, reduceCtorEq]
              exact ⟨left1, H0, imp_au⟩
  case hxlaw01_RatioFair_j5 =>
    refine lok_rt E0 (⟨133, mkS [(1, .x (.one (.p (pi y3)))), (5, .x (.one (.p (.sl 1 (List.map encI y1))))), (6, .x (.one (.p (pi (0 : Int))))), (7, .x (.one (.p (pi (0 : Int)))))], mkH []⟩) ?_
    refine lok_block ?_
    replace H0 := bind_some H0
    obtain ⟨v_23, hv_23, H0⟩ := H0
    refine lok_iter (fun x_ => ⟨133, mkS [(1, .x (.one (.p (pi y3)))), (5, .x (.one (.p (.sl 1 (List.map encI y1))))), (6, .x (.one (.p (pi x_.1)))), (7, .x (.one (.p (pi x_.2))))], mkH []⟩) hv_23 imp_au ?_
    · rintro ⟨sum1, i1⟩ o_1 H1 k_1
      unfold law01_RatioFair_l6 at H1
      try dsimp only at H1 ⊢
      refine lok_seq ?_
      refine lok_rt E0 (⟨133, mkS [(1, .x (.one (.p (pi y3)))), (5, .x (.one (.p (.sl 1 (List.map encI y1))))), (6, .x (.one (.p (pi sum1)))), (7, .x (.one (.p (pi i1)))), (21, .x (.one (.p (.val (.bool (decide (i1 < (y1.length : Int))))))))], mkH []⟩) ?_
      refine lok_c (decide (i1 < (y1.length : Int))) ?_ ?_
      · intro b_25
        replace H1 := cpos H1 b_25
        refine lok_skip ?_
        try simp only [thenL, blockL, ↓reduceIte, reduceCtorEq]
        refine lok_seq ?_
        refine lok_block ?_
        replace H1 := req_some H1
        obtain ⟨q_24, H1⟩ := H1
        refine lok_rl E0 (⟨133, mkS [(1, .x (.one (.p (pi y3)))), (5, .x (.one (.p (.sl 1 (List.map encI y1))))), (6, .x (.one (.p (pi (IntKind.i64.wrap (sum1 + (ix y1 i1))))))), (7, .x (.one (.p (pi i1))))], mkH []⟩) ?_
        try simp only [thenL, blockL, ↓reduceIte, reduceCtorEq]
        refine lok_rl E0 (⟨133, mkS [(1, .x (.one (.p (pi y3)))), (5, .x (.one (.p (.sl 1 (List.map encI y1))))), (6, .x (.one (.p (pi (IntKind.i64.wrap (sum1 + (ix y1 i1))))))), (7, .x (.one (.p (pi (IntKind.i64.wrap (i1 + (1 : Int)))))))], mkH []⟩) ?_
        try simp only [thenL, blockL, ↓reduceIte, reduceCtorEq]
        exact ⟨((IntKind.i64.wrap (sum1 + (ix y1 i1))), (IntKind.i64.wrap (i1 + (1 : Int)))), (Option.some.inj H1).symm, imp_au⟩
      · intro b_25
        replace H1 := cneg H1 b_25
        refine lok_exit ?_
        try simp only [thenL, blockL, ↓reduceIte, reduceCtorEq]
        have e_1 := k_1 _ (Option.some.inj H1).symm
        subst e_1
        try dsimp only at H0
        try simp only [thenL, blockL, ↓reduceIte, reduceCtorEq]
        exact ⟨sum1, H0, imp_au⟩
theorem ok_ref01_Order (a : ref01_Wide) (b : ref01_Wide) (r_ : Int) (H0 : ref01_Order a b = some r_) : CallOK Try.prog 88 [.agg [.p (.val (.int .u64 a.Hi)), .p (.val (.int .u64 a.Lo))], .agg [.p (.val (.int .u64 b.Hi)), .p (.val (.int .u64 b.Lo))]] [] [.one (.p (pi r_))] [] := by
  refine callOK (n := 27) (rs := [.tmp 4]) (nb := 0) (V := []) Try.func88 rfl (by kernel_rfl) rfl rfl rfl rfl (Nat.le_of_ble_eq_true rfl) (by decide) ?_
  unfold ref01_Order at H0
  refine lok_rt E0 (⟨27, mkS [(2, .x (.one (.ptr 102 0))), (3, .x (.one (.ptr 103 0)))], mkH [(102, .var [.p (.val (.int .u64 a.Hi)), .p (.val (.int .u64 a.Lo))]), (103, .var [.p (.val (.int .u64 b.Hi)), .p (.val (.int .u64 b.Lo))])]⟩) ?_
  refine lok_seq ?_
  refine lok_rt E0 (⟨27, mkS [(2, .x (.one (.ptr 102 0))), (3, .x (.one (.ptr 103 0))), (23, .x (.one (.p (.val (.bool ((decide (a.Hi < b.Hi)) || ((a.Hi == b.Hi) && (decide (a.Lo < b.Lo)))))))))], mkH [(102, .var [.p (.val (.int .u64 a.Hi)), .p (.val (.int .u64 a.Lo))]), (103, .var [.p (.val (.int .u64 b.Hi)), .p (.val (.int .u64 b.Lo))])]⟩) ?_
  refine lok_c ((decide (a.Hi < b.Hi)) || ((a.Hi == b.Hi) && (decide (a.Lo < b.Lo)))) ?_ ?_
  · intro b_1
    replace H0 := cpos H0 b_1
    refine lok_rt E0 (⟨27, mkS [(4, .x (.one (.p (pi (-1 : Int)))))], mkH []⟩) ?_
    refine lok_ret ?_
    obtain rfl := Option.some.inj H0
    try simp only [thenL, blockL]
    exact fin_au _ (.inr rfl) [] (⟨27, mkS [(4, .x (.one (.p (pi (-1 : Int)))))], mkH []⟩) rfl rfl imp_au
  · intro b_1
    replace H0 := cneg H0 b_1
    refine lok_skip ?_
    try simp only [thenL, blockL, ↓reduceIte, reduceCtorEq]
    refine lok_seq ?_
    refine lok_rt E0 (⟨27, mkS [(26, .x (.one (.p (.val (.bool ((a.Hi == b.Hi) && (a.Lo == b.Lo)))))))], mkH []⟩) ?_
    refine lok_c ((a.Hi == b.Hi) && (a.Lo == b.Lo)) ?_ ?_
    · intro b_0
      replace H0 := cpos H0 b_0
      refine lok_rt E0 (⟨27, mkS [(4, .x (.one (.p (pi (0 : Int)))))], mkH []⟩) ?_
      refine lok_ret ?_
      obtain rfl := Option.some.inj H0
      try simp only [thenL, blockL]
      exact fin_au _ (.inr rfl) [] (⟨27, mkS [(4, .x (.one (.p (pi (0 : Int)))))], mkH []⟩) rfl rfl imp_au
    · intro b_0
      replace H0 := cneg H0 b_0
      refine lok_skip ?_
      try simp only [thenL, blockL, ↓reduceIte, reduceCtorEq]
      refine lok_rt E0 (⟨27, mkS [(4, .x (.one (.p (pi (1 : Int)))))], mkH []⟩) ?_
      refine lok_ret ?_
      obtain rfl := Option.some.inj H0
      try simp only [thenL, blockL]
      exact fin_au _ (.inr rfl) [] (⟨27, mkS [(4, .x (.one (.p (pi (1 : Int)))))], mkH []⟩) rfl rfl imp_au
theorem ok_bits_Sub64 (x y borrow : Int) (r_ : Int × Int) (H0 : bits_Sub64 x y borrow = some r_) : CallOK Try.prog 100 [.int .u64 x, .int .u64 y, .int .u64 borrow] [] [.int .u64 r_.1, .int .u64 r_.2] [] :=
  okSub64 Try.func100 (by kernel_rfl) (by kernel_rfl) (by kernel_rfl) (by kernel_rfl) _ _ _ r_ H0
theorem ok_ref01_Minus (a : ref01_Wide) (b : ref01_Wide) (r_ : ref01_Wide) (H0 : ref01_Minus a b = some r_) : CallOK Try.prog 89 [.agg [.p (.val (.int .u64 a.Hi)), .p (.val (.int .u64 a.Lo))], .agg [.p (.val (.int .u64 b.Hi)), .p (.val (.int .u64 b.Lo))]] [] [.agg [.p (.val (.int .u64 r_.Hi)), .p (.val (.int .u64 r_.Lo))]] [] := by
  refine callOK (n := 29) (rs := [.cell 4 63]) (nb := 0) (V := []) Try.func89 rfl (by kernel_rfl) rfl rfl rfl rfl (Nat.le_of_ble_eq_true rfl) (by decide) ?_
  unfold ref01_Minus at H0
  refine lok_rt E0 (⟨29, mkS [(2, .x (.one (.ptr 102 0))), (3, .x (.one (.ptr 103 0))), (4, .x (.one (.ptr 104 0)))], mkH [(102, .var [.p (.val (.int .u64 a.Hi)), .p (.val (.int .u64 a.Lo))]), (103, .var [.p (.val (.int .u64 b.Hi)), .p (.val (.int .u64 b.Lo))]), (104, .var [.p (.val (.int .u64 (0 : Int))), .p (.val (.int .u64 (0 : Int)))])]⟩) ?_
  replace H0 := bind_some H0
  obtain ⟨⟨y, y1⟩, h_0, H0⟩ := H0
  try dsimp only at H0
  refine lok_rt (Env.of E0 [⟨some 14, 100, [.one (.p (.val (.int .u64 a.Lo))), .one (.p (.val (.int .u64 b.Lo))), .one (.p (.val (.int .u64 (0 : Int))))], [], [.one (.p (.val (.int .u64 y))), .one (.p (.val (.int .u64 y1)))], [], True, fun _ => ok_bits_Sub64 a.Lo b.Lo (0 : Int) (y, y1) h_0, []⟩]) (⟨29, mkS [(2, .x (.one (.ptr 102 0))), (3, .x (.one (.ptr 103 0))), (4, .x (.one (.ptr 104 0))), (5, .x (.one (.p (.val (.int .u64 y))))), (6, .x (.one (.p (.val (.int .u64 y1)))))], mkH [(102, .var [.p (.val (.int .u64 a.Hi)), .p (.val (.int .u64 a.Lo))]), (103, .var [.p (.val (.int .u64 b.Hi)), .p (.val (.int .u64 b.Lo))]), (104, .var [.p (.val (.int .u64 (0 : Int))), .p (.val (.int .u64 (0 : Int)))])]⟩) ?_
  replace H0 := bind_some H0
  obtain ⟨⟨y2, y3⟩, h_1, H0⟩ := H0
  try dsimp only at H0
  refine lok_rt (Env.of E0 [⟨some 23, 100, [.one (.p (.val (.int .u64 a.Hi))), .one (.p (.val (.int .u64 b.Hi))), .one (.p (.val (.int .u64 y1)))], [], [.one (.p (.val (.int .u64 y2))), .one (.p (.val (.int .u64 y3)))], [], True, fun _ => ok_bits_Sub64 a.Hi b.Hi y1 (y2, y3) h_1, []⟩]) (⟨29, mkS [(4, .x (.one (.ptr 104 0))), (5, .x (.one (.p (.val (.int .u64 y))))), (7, .x (.one (.p (.val (.int .u64 y2)))))], mkH [(104, .var [.p (.val (.int .u64 (0 : Int))), .p (.val (.int .u64 (0 : Int)))])]⟩) ?_
  refine lok_rt E0 (⟨29, mkS [(4, .x (.one (.ptr 104 0)))], mkH [(104, .var [.p (.val (.int .u64 y2)), .p (.val (.int .u64 y))])]⟩) ?_
  refine lok_ret ?_
  obtain rfl := Option.some.inj H0
  try simp only [thenL, blockL]
  exact fin_au _ (.inr rfl) [] (⟨29, mkS [(4, .x (.one (.ptr 104 0)))], mkH [(104, .var [.p (.val (.int .u64 y2)), .p (.val (.int .u64 y))])]⟩) rfl rfl imp_au
theorem ok_ref01_Twice (a : ref01_Wide) (r_ : ref01_Wide) (H0 : ref01_Twice a = some r_) : CallOK Try.prog 95 [.agg [.p (.val (.int .u64 a.Hi)), .p (.val (.int .u64 a.Lo))]] [] [.agg [.p (.val (.int .u64 r_.Hi)), .p (.val (.int .u64 r_.Lo))]] [] := by
  refine callOK (n := 14) (rs := [.cell 2 63]) (nb := 0) (V := []) Try.func95 rfl (by kernel_rfl) rfl rfl rfl rfl (Nat.le_of_ble_eq_true rfl) (by decide) ?_
  unfold ref01_Twice at H0
  refine lok_rt E0 (⟨14, mkS [(1, .x (.one (.ptr 101 0))), (2, .x (.one (.ptr 102 0)))], mkH [(101, .var [.p (.val (.int .u64 a.Hi)), .p (.val (.int .u64 a.Lo))]), (102, .var [.p (.val (.int .u64 (0 : Int))), .p (.val (.int .u64 (0 : Int)))])]⟩) ?_
  refine lok_rt E0 (⟨14, mkS [(2, .x (.one (.ptr 102 0)))], mkH [(102, .var [.p (.val (.int .u64 (bOr .u64 (bShl .u64 a.Hi (1 : Int)) (bShr .u64 a.Lo (63 : Int))))), .p (.val (.int .u64 (bShl .u64 a.Lo (1 : Int))))])]⟩) ?_
  refine lok_ret ?_
  obtain rfl := Option.some.inj H0
  try simp only [thenL, blockL]
  exact fin_au _ (.inr rfl) [] (⟨14, mkS [(2, .x (.one (.ptr 102 0)))], mkH [(102, .var [.p (.val (.int .u64 (bOr .u64 (bShl .u64 a.Hi (1 : Int)) (bShr .u64 a.Lo (63 : Int))))), .p (.val (.int .u64 (bShl .u64 a.Lo (1 : Int))))])]⟩) rfl rfl imp_au
theorem ok_ref01_Divide (a : ref01_Wide) (b : ref01_Wide) (r_ : ref01_Wide × ref01_Wide) (H0 : ref01_Divide a b = some r_) : CallOK Try.prog 80 [.agg [.p (.val (.int .u64 a.Hi)), .p (.val (.int .u64 a.Lo))], .agg [.p (.val (.int .u64 b.Hi)), .p (.val (.int .u64 b.Lo))]] [] [.agg [.p (.val (.int .u64 r_.1.Hi)), .p (.val (.int .u64 r_.1.Lo))], .agg [.p (.val (.int .u64 r_.2.Hi)), .p (.val (.int .u64 r_.2.Lo))]] [] := by
  refine callOK (n := 82) (rs := [.cell 4 63, .cell 5 63]) (nb := 0) (V := []) Try.func80 rfl (by kernel_rfl) rfl rfl rfl rfl (Nat.le_of_ble_eq_true rfl) (by decide) ?_
  unfold ref01_Divide at H0
  refine lok_rt E0 (⟨82, mkS [(2, .x (.one (.ptr 102 0))), (3, .x (.one (.ptr 103 0))), (4, .x (.one (.ptr 104 0))), (5, .x (.one (.ptr 105 0)))], mkH [(102, .var [.p (.val (.int .u64 a.Hi)), .p (.val (.int .u64 a.Lo))]), (103, .var [.p (.val (.int .u64 b.Hi)), .p (.val (.int .u64 b.Lo))]), (104, .var [.p (.val (.int .u64 (0 : Int))), .p (.val (.int .u64 (0 : Int)))]), (105, .var [.p (.val (.int .u64 (0 : Int))), .p (.val (.int .u64 (0 : Int)))])]⟩) ?_
  refine lok_seq ?_
  refine lok_rt E0 (⟨82, mkS [(2, .x (.one (.ptr 102 0))), (3, .x (.one (.ptr 103 0))), (4, .x (.one (.ptr 104 0))), (5, .x (.one (.ptr 105 0))), (18, .x (.one (.p (.val (.bool ((a.Hi == (0 : Int)) && (b.Hi == (0 : Int))))))))], mkH [(102, .var [.p (.val (.int .u64 a.Hi)), .p (.val (.int .u64 a.Lo))]), (103, .var [.p (.val (.int .u64 b.Hi)), .p (.val (.int .u64 b.Lo))]), (104, .var [.p (.val (.int .u64 (0 : Int))), .p (.val (.int .u64 (0 : Int)))]), (105, .var [.p (.val (.int .u64 (0 : Int))), .p (.val (.int .u64 (0 : Int)))])]⟩) ?_
  refine lok_c ((a.Hi == (0 : Int)) && (b.Hi == (0 : Int))) ?_ ?_
  · intro b_13
    replace H0 := cpos H0 b_13
    replace H0 := req_some H0
    obtain ⟨q_0, H0⟩ := H0
    refine lok_et E0 82 [⟨[(2, .x (.one (.ptr 102 0)))], [], [(19, .x (.one (.ptr 102 1)))], [], none⟩,
      ⟨[(19, .x (.one (.ptr 102 1)))], [(102, some (.var [.p (.val (.int .u64 a.Hi)), .p (.val (.int .u64 a.Lo))]))], [(20, .x (.one (.p (.val (.int .u64 a.Lo)))))], [], none⟩,
      ⟨[(3, .x (.one (.ptr 103 0)))], [], [(21, .x (.one (.ptr 103 1)))], [], none⟩,
      ⟨[(21, .x (.one (.ptr 103 1)))], [(103, some (.var [.p (.val (.int .u64 b.Hi)), .p (.val (.int .u64 b.Lo))]))], [(22, .x (.one (.p (.val (.int .u64 b.Lo)))))], [], none⟩,
      ⟨[(20, .x (.one (.p (.val (.int .u64 a.Lo))))), (22, .x (.one (.p (.val (.int .u64 b.Lo)))))], [], [(23, .x (.one (.p (.val (.int .u64 (IntKind.u64.wrap (Int.tdiv a.Lo b.Lo)))))))], [], none⟩,
      ⟨[(23, .x (.one (.p (.val (.int .u64 (IntKind.u64.wrap (Int.tdiv a.Lo b.Lo)))))))], [], [(24, .x (.agg [.p (.val (.int .u64 (0 : Int))), .p (.val (.int .u64 (IntKind.u64.wrap (Int.tdiv a.Lo b.Lo))))]))], [], none⟩,
      ⟨[(2, .x (.one (.ptr 102 0)))], [], [(25, .x (.one (.ptr 102 1)))], [], none⟩,
      ⟨[(25, .x (.one (.ptr 102 1)))], [(102, some (.var [.p (.val (.int .u64 a.Hi)), .p (.val (.int .u64 a.Lo))]))], [(26, .x (.one (.p (.val (.int .u64 a.Lo)))))], [], none⟩,
      ⟨[(3, .x (.one (.ptr 103 0)))], [], [(27, .x (.one (.ptr 103 1)))], [], none⟩,
      ⟨[(27, .x (.one (.ptr 103 1)))], [(103, some (.var [.p (.val (.int .u64 b.Hi)), .p (.val (.int .u64 b.Lo))]))], [(28, .x (.one (.p (.val (.int .u64 b.Lo)))))], [], none⟩,
      ⟨[(26, .x (.one (.p (.val (.int .u64 a.Lo))))), (28, .x (.one (.p (.val (.int .u64 b.Lo)))))], [], [(29, .x (.one (.p (.val (.int .u64 (Int.tmod a.Lo b.Lo))))))], [], none⟩,
      ⟨[(29, .x (.one (.p (.val (.int .u64 (Int.tmod a.Lo b.Lo))))))], [], [(30, .x (.agg [.p (.val (.int .u64 (0 : Int))), .p (.val (.int .u64 (Int.tmod a.Lo b.Lo)))]))], [], none⟩,
      ⟨[(4, .x (.one (.ptr 104 0))), (24, .x (.agg [.p (.val (.int .u64 (0 : Int))), .p (.val (.int .u64 (IntKind.u64.wrap (Int.tdiv a.Lo b.Lo))))]))], [(104, some (.var [.p (.val (.int .u64 (0 : Int))), .p (.val (.int .u64 (0 : Int)))]))], [], [(104, some (.var [.p (.val (.int .u64 (0 : Int))), .p (.val (.int .u64 (IntKind.u64.wrap (Int.tdiv a.Lo b.Lo))))]))], none⟩] (⟨82, mkS [(4, .x (.one (.ptr 104 0))), (5, .x (.one (.ptr 105 0)))], mkH [(104, .var [.p (.val (.int .u64 (0 : Int))), .p (.val (.int .u64 (IntKind.u64.wrap (Int.tdiv a.Lo b.Lo))))]), (105, .var [.p (.val (.int .u64 (0 : Int))), .p (.val (.int .u64 (Int.tmod a.Lo b.Lo)))])]⟩) (by kernel_rfl) (by kernel_rfl) (by kernel_rfl) rfl rfl rfl ?_
    refine lok_ret ?_
    obtain rfl := Option.some.inj H0
    try simp only [thenL, blockL]
    exact fin_au _ (.inr rfl) [] (⟨82, mkS [(4, .x (.one (.ptr 104 0))), (5, .x (.one (.ptr 105 0)))], mkH [(104, .var [.p (.val (.int .u64 (0 : Int))), .p (.val (.int .u64 (IntKind.u64.wrap (Int.tdiv a.Lo b.Lo))))]), (105, .var [.p (.val (.int .u64 (0 : Int))), .p (.val (.int .u64 (Int.tmod a.Lo b.Lo)))])]⟩) rfl rfl imp_au
  · intro b_13
    replace H0 := cneg H0 b_13
    refine lok_skip ?_
    try simp only [thenL, blockL, ↓reduceIte, reduceCtorEq]
    refine lok_rt E0 (⟨82, mkS [(2, .x (.one (.ptr 102 0))), (3, .x (.one (.ptr 103 0))), (4, .x (.one (.ptr 104 0))), (5, .x (.one (.ptr 105 0))), (6, .x (.one (.ptr 106 0))), (7, .x (.one (.ptr 107 0)))], mkH [(102, .var [.p (.val (.int .u64 a.Hi)), .p (.val (.int .u64 a.Lo))]), (103, .var [.p (.val (.int .u64 b.Hi)), .p (.val (.int .u64 b.Lo))]), (104, .var [.p (.val (.int .u64 (0 : Int))), .p (.val (.int .u64 (0 : Int)))]), (105, .var [.p (.val (.int .u64 (0 : Int))), .p (.val (.int .u64 (0 : Int)))]), (106, .var [.p (.val (.int .u64 (0 : Int))), .p (.val (.int .u64 (0 : Int)))]), (107, .var [.p (.val (.int .u64 (0 : Int))), .p (.val (.int .u64 (0 : Int)))])]⟩) ?_
    refine lok_join (fun x_ : Int × Int × Int × Int => ref01_Divide_j1 x_.1 x_.2.1 x_.2.2.1 x_.2.2.2 = some r_) (fun x_ => ⟨82, mkS [(4, .x (.one (.ptr 104 0))), (5, .x (.one (.ptr 105 0))), (6, .x (.one (.ptr 106 0))), (7, .x (.one (.ptr 107 0)))], mkH [(104, .var [.p (.val (.int .u64 (0 : Int))), .p (.val (.int .u64 (0 : Int)))]), (105, .var [.p (.val (.int .u64 (0 : Int))), .p (.val (.int .u64 (0 : Int)))]), (106, .var [.p (.val (.int .u64 x_.1)), .p (.val (.int .u64 x_.2.1))]), (107, .var [.p (.val (.int .u64 x_.2.2.1)), .p (.val (.int .u64 x_.2.2.2))])]⟩) ?hyref01_Divide_j1 ?hxref01_Divide_j1
    case hyref01_Divide_j1 =>
      rintro ⟨q, q1, r, r1⟩ H0
      try dsimp only at H0 ⊢
      unfold ref01_Divide_j1 at H0
      refine lok_et E0 82 [⟨[(6, .x (.one (.ptr 106 0)))], [(106, some (.var [.p (.val (.int .u64 q)), .p (.val (.int .u64 q1))]))], [(80, .x (.agg [.p (.val (.int .u64 q)), .p (.val (.int .u64 q1))]))], [], none⟩,
      ⟨[(7, .x (.one (.ptr 107 0)))], [(107, some (.var [.p (.val (.int .u64 r)), .p (.val (.int .u64 r1))]))], [(81, .x (.agg [.p (.val (.int .u64 r)), .p (.val (.int .u64 r1))]))], [], none⟩,
      ⟨[(4, .x (.one (.ptr 104 0))), (80, .x (.agg [.p (.val (.int .u64 q)), .p (.val (.int .u64 q1))]))], [(104, some (.var [.p (.val (.int .u64 (0 : Int))), .p (.val (.int .u64 (0 : Int)))]))], [], [(104, some (.var [.p (.val (.int .u64 q)), .p (.val (.int .u64 q1))]))], none⟩] (⟨82, mkS [(4, .x (.one (.ptr 104 0))), (5, .x (.one (.ptr 105 0)))], mkH [(104, .var [.p (.val (.int .u64 q)), .p (.val (.int .u64 q1))]), (105, .var [.p (.val (.int .u64 r)), .p (.val (.int .u64 r1))])]⟩) (by kernel_rfl) (by kernel_rfl) (by kernel_rfl) rfl rfl rfl ?_
      refine lok_ret ?_
      obtain rfl := Option.some.inj H0
      try simp only [thenL, blockL]
      exact fin_au _ (.inr rfl) [] (⟨82, mkS [(4, .x (.one (.ptr 104 0))), (5, .x (.one (.ptr 105 0)))], mkH [(104, .var [.p (.val (.int .u64 q)), .p (.val (.int .u64 q1))]), (105, .var [.p (.val (.int .u64 r)), .p (.val (.int .u64 r1))])]⟩) rfl rfl imp_au
    case hxref01_Divide_j1 =>
      refine lok_rt E0 (⟨82, mkS [(2, .x (.one (.ptr 102 0))), (3, .x (.one (.ptr 103 0))), (4, .x (.one (.ptr 104 0))), (5, .x (.one (.ptr 105 0))), (6, .x (.one (.ptr 106 0))), (7, .x (.one (.ptr 107 0))), (8, .x (.one (.p (pi (127 : Int)))))], mkH [(102, .var [.p (.val (.int .u64 a.Hi)), .p (.val (.int .u64 a.Lo))]), (103, .var [.p (.val (.int .u64 b.Hi)), .p (.val (.int .u64 b.Lo))]), (104, .var [.p (.val (.int .u64 (0 : Int))), .p (.val (.int .u64 (0 : Int)))]), (105, .var [.p (.val (.int .u64 (0 : Int))), .p (.val (.int .u64 (0 : Int)))]), (106, .var [.p (.val (.int .u64 (0 : Int))), .p (.val (.int .u64 (0 : Int)))]), (107, .var [.p (.val (.int .u64 (0 : Int))), .p (.val (.int .u64 (0 : Int)))])]⟩) ?_
      refine lok_block ?_
      replace H0 := bind_some H0
      obtain ⟨v_1, hv_1, H0⟩ := H0
      refine lok_iter (fun x_ => ⟨82, mkS [(2, .x (.one (.ptr 102 0))), (3, .x (.one (.ptr 103 0))), (4, .x (.one (.ptr 104 0))), (5, .x (.one (.ptr 105 0))), (6, .x (.one (.ptr 106 0))), (7, .x (.one (.ptr 107 0))), (8, .x (.one (.p (pi x_.1))))], mkH [(102, .var [.p (.val (.int .u64 a.Hi)), .p (.val (.int .u64 a.Lo))]), (103, .var [.p (.val (.int .u64 b.Hi)), .p (.val (.int .u64 b.Lo))]), (104, .var [.p (.val (.int .u64 (0 : Int))), .p (.val (.int .u64 (0 : Int)))]), (105, .var [.p (.val (.int .u64 (0 : Int))), .p (.val (.int .u64 (0 : Int)))]), (106, .var [.p (.val (.int .u64 x_.2.1)), .p (.val (.int .u64 x_.2.2.1))]), (107, .var [.p (.val (.int .u64 x_.2.2.2.1)), .p (.val (.int .u64 x_.2.2.2.2))])]⟩) hv_1 imp_au ?_
      · rintro ⟨i, q2, q3, r2, r3⟩ o_1 H1 k_1
        unfold ref01_Divide_l4 at H1
        try dsimp only at H1 ⊢
        refine lok_seq ?_
        refine lok_rt E0 (⟨82, mkS [(2, .x (.one (.ptr 102 0))), (3, .x (.one (.ptr 103 0))), (4, .x (.one (.ptr 104 0))), (5, .x (.one (.ptr 105 0))), (6, .x (.one (.ptr 106 0))), (7, .x (.one (.ptr 107 0))), (8, .x (.one (.p (pi i)))), (34, .x (.one (.p (.val (.bool (decide ((0 : Int) ≤ i)))))))], mkH [(102, .var [.p (.val (.int .u64 a.Hi)), .p (.val (.int .u64 a.Lo))]), (103, .var [.p (.val (.int .u64 b.Hi)), .p (.val (.int .u64 b.Lo))]), (104, .var [.p (.val (.int .u64 (0 : Int))), .p (.val (.int .u64 (0 : Int)))]), (105, .var [.p (.val (.int .u64 (0 : Int))), .p (.val (.int .u64 (0 : Int)))]), (106, .var [.p (.val (.int .u64 q2)), .p (.val (.int .u64 q3))]), (107, .var [.p (.val (.int .u64 r2)), .p (.val (.int .u64 r3))])]⟩) ?_
        refine lok_c (decide ((0 : Int) ≤ i)) ?_ ?_
        · intro b_12
          replace H1 := cpos H1 b_12
          refine lok_skip ?_
          try simp only [thenL, blockL, ↓reduceIte, reduceCtorEq]
          refine lok_join (fun x_ : Int × Int × Int × Int => ref01_Divide_j2 i x_.1 x_.2.1 x_.2.2.1 x_.2.2.2 = some o_1) (fun x_ => ⟨82, mkS [(2, .x (.one (.ptr 102 0))), (3, .x (.one (.ptr 103 0))), (4, .x (.one (.ptr 104 0))), (5, .x (.one (.ptr 105 0))), (6, .x (.one (.ptr 106 0))), (7, .x (.one (.ptr 107 0))), (8, .x (.one (.p (pi i))))], mkH [(102, .var [.p (.val (.int .u64 a.Hi)), .p (.val (.int .u64 a.Lo))]), (103, .var [.p (.val (.int .u64 b.Hi)), .p (.val (.int .u64 b.Lo))]), (104, .var [.p (.val (.int .u64 (0 : Int))), .p (.val (.int .u64 (0 : Int)))]), (105, .var [.p (.val (.int .u64 (0 : Int))), .p (.val (.int .u64 (0 : Int)))]), (106, .var [.p (.val (.int .u64 x_.1)), .p (.val (.int .u64 x_.2.1))]), (107, .var [.p (.val (.int .u64 x_.2.2.1)), .p (.val (.int .u64 x_.2.2.2))])]⟩) ?hyref01_Divide_j2 ?hxref01_Divide_j2
          case hyref01_Divide_j2 =>
            rintro ⟨q6, q7, r6, r7⟩ H1
            try dsimp only at H1 ⊢
            unfold ref01_Divide_j2 at H1
            refine lok_rl E0 (⟨82, mkS [(2, .x (.one (.ptr 102 0))), (3, .x (.one (.ptr 103 0))), (4, .x (.one (.ptr 104 0))), (5, .x (.one (.ptr 105 0))), (6, .x (.one (.ptr 106 0))), (7, .x (.one (.ptr 107 0))), (8, .x (.one (.p (pi (IntKind.i64.wrap (i - (1 : Int)))))))], mkH [(102, .var [.p (.val (.int .u64 a.Hi)), .p (.val (.int .u64 a.Lo))]), (103, .var [.p (.val (.int .u64 b.Hi)), .p (.val (.int .u64 b.Lo))]), (104, .var [.p (.val (.int .u64 (0 : Int))), .p (.val (.int .u64 (0 : Int)))]), (105, .var [.p (.val (.int .u64 (0 : Int))), .p (.val (.int .u64 (0 : Int)))]), (106, .var [.p (.val (.int .u64 q6)), .p (.val (.int .u64 q7))]), (107, .var [.p (.val (.int .u64 r6)), .p (.val (.int .u64 r7))])]⟩) ?_
            try simp only [thenL, blockL, ↓reduceIte, reduceCtorEq]
            exact ⟨((IntKind.i64.wrap (i - (1 : Int))), q6, q7, r6, r7), (Option.some.inj H1).symm, imp_au⟩
          case hxref01_Divide_j2 =>
            refine lok_block ?_
            replace H1 := req_some H1
            obtain ⟨q_11, H1⟩ := H1
            replace H1 := bindV_some H1
            obtain ⟨bit, a_2, H1⟩ := H1
            refine lok_rtg E0 a_2 (⟨82, mkS [(2, .x (.one (.ptr 102 0))), (3, .x (.one (.ptr 103 0))), (4, .x (.one (.ptr 104 0))), (5, .x (.one (.ptr 105 0))), (6, .x (.one (.ptr 106 0))), (7, .x (.one (.ptr 107 0))), (8, .x (.one (.p (pi i)))), (9, .x (.one (.p (.val (.int .u64 bit)))))], mkH [(102, .var [.p (.val (.int .u64 a.Hi)), .p (.val (.int .u64 a.Lo))]), (103, .var [.p (.val (.int .u64 b.Hi)), .p (.val (.int .u64 b.Lo))]), (104, .var [.p (.val (.int .u64 (0 : Int))), .p (.val (.int .u64 (0 : Int)))]), (105, .var [.p (.val (.int .u64 (0 : Int))), .p (.val (.int .u64 (0 : Int)))]), (106, .var [.p (.val (.int .u64 q2)), .p (.val (.int .u64 q3))]), (107, .var [.p (.val (.int .u64 r2)), .p (.val (.int .u64 r3))])]⟩) ?_
            refine lok_join (fun x_ : Int => ref01_Divide_j3 b i q2 q3 r2 r3 x_ = some o_1) (fun x_ => ⟨82, mkS [(2, .x (.one (.ptr 102 0))), (3, .x (.one (.ptr 103 0))), (4, .x (.one (.ptr 104 0))), (5, .x (.one (.ptr 105 0))), (6, .x (.one (.ptr 106 0))), (7, .x (.one (.ptr 107 0))), (8, .x (.one (.p (pi i)))), (9, .x (.one (.p (.val (.int .u64 x_)))))], mkH [(102, .var [.p (.val (.int .u64 a.Hi)), .p (.val (.int .u64 a.Lo))]), (103, .var [.p (.val (.int .u64 b.Hi)), .p (.val (.int .u64 b.Lo))]), (104, .var [.p (.val (.int .u64 (0 : Int))), .p (.val (.int .u64 (0 : Int)))]), (105, .var [.p (.val (.int .u64 (0 : Int))), .p (.val (.int .u64 (0 : Int)))]), (106, .var [.p (.val (.int .u64 q2)), .p (.val (.int .u64 q3))]), (107, .var [.p (.val (.int .u64 r2)), .p (.val (.int .u64 r3))])]⟩) ?hyref01_Divide_j3 ?hxref01_Divide_j3
            case hyref01_Divide_j3 =>
              rintro bit1 H1
              try dsimp only at H1 ⊢
              unfold ref01_Divide_j3 at H1
              refine lok_rt E0 (⟨82, mkS [(2, .x (.one (.ptr 102 0))), (3, .x (.one (.ptr 103 0))), (4, .x (.one (.ptr 104 0))), (5, .x (.one (.ptr 105 0))), (6, .x (.one (.ptr 106 0))), (7, .x (.one (.ptr 107 0))), (8, .x (.one (.p (pi i)))), (9, .x (.one (.p (.val (.int .u64 bit1))))), (10, .x (.one (.p (.val (.bool ((bShr .u64 r2 (63 : Int)) == (1 : Int)))))))], mkH [(102, .var [.p (.val (.int .u64 a.Hi)), .p (.val (.int .u64 a.Lo))]), (103, .var [.p (.val (.int .u64 b.Hi)), .p (.val (.int .u64 b.Lo))]), (104, .var [.p (.val (.int .u64 (0 : Int))), .p (.val (.int .u64 (0 : Int)))]), (105, .var [.p (.val (.int .u64 (0 : Int))), .p (.val (.int .u64 (0 : Int)))]), (106, .var [.p (.val (.int .u64 q2)), .p (.val (.int .u64 q3))]), (107, .var [.p (.val (.int .u64 r2)), .p (.val (.int .u64 r3))])]⟩) ?_
              replace H1 := bind_some H1
              obtain ⟨y, h_3, H1⟩ := H1
              refine lok_rt (Env.of E0 [⟨some 58, 95, [.agg [.p (.val (.int .u64 r2)), .p (.val (.int .u64 r3))]], [], [.agg [.p (.val (.int .u64 y.Hi)), .p (.val (.int .u64 y.Lo))]], [], True, fun _ => ok_ref01_Twice (ref01_Wide.mk r2 r3) y h_3, []⟩]) (⟨82, mkS [(2, .x (.one (.ptr 102 0))), (3, .x (.one (.ptr 103 0))), (4, .x (.one (.ptr 104 0))), (5, .x (.one (.ptr 105 0))), (6, .x (.one (.ptr 106 0))), (7, .x (.one (.ptr 107 0))), (8, .x (.one (.p (pi i)))), (9, .x (.one (.p (.val (.int .u64 bit1))))), (10, .x (.one (.p (.val (.bool ((bShr .u64 r2 (63 : Int)) == (1 : Int)))))))], mkH [(102, .var [.p (.val (.int .u64 a.Hi)), .p (.val (.int .u64 a.Lo))]), (103, .var [.p (.val (.int .u64 b.Hi)), .p (.val (.int .u64 b.Lo))]), (104, .var [.p (.val (.int .u64 (0 : Int))), .p (.val (.int .u64 (0 : Int)))]), (105, .var [.p (.val (.int .u64 (0 : Int))), .p (.val (.int .u64 (0 : Int)))]), (106, .var [.p (.val (.int .u64 q2)), .p (.val (.int .u64 q3))]), (107, .var [.p (.val (.int .u64 y.Hi)), .p (.val (.int .u64 y.Lo))])]⟩) ?_
              refine lok_rt E0 (⟨82, mkS [(2, .x (.one (.ptr 102 0))), (3, .x (.one (.ptr 103 0))), (4, .x (.one (.ptr 104 0))), (5, .x (.one (.ptr 105 0))), (6, .x (.one (.ptr 106 0))), (7, .x (.one (.ptr 107 0))), (8, .x (.one (.p (pi i)))), (10, .x (.one (.p (.val (.bool ((bShr .u64 r2 (63 : Int)) == (1 : Int)))))))], mkH [(102, .var [.p (.val (.int .u64 a.Hi)), .p (.val (.int .u64 a.Lo))]), (103, .var [.p (.val (.int .u64 b.Hi)), .p (.val (.int .u64 b.Lo))]), (104, .var [.p (.val (.int .u64 (0 : Int))), .p (.val (.int .u64 (0 : Int)))]), (105, .var [.p (.val (.int .u64 (0 : Int))), .p (.val (.int .u64 (0 : Int)))]), (106, .var [.p (.val (.int .u64 q2)), .p (.val (.int .u64 q3))]), (107, .var [.p (.val (.int .u64 y.Hi)), .p (.val (.int .u64 (bOr .u64 y.Lo bit1)))])]⟩) ?_
              replace H1 := bind_some H1
              obtain ⟨y1, h_4, H1⟩ := H1
              refine lok_rt (Env.of E0 [⟨some 65, 95, [.agg [.p (.val (.int .u64 q2)), .p (.val (.int .u64 q3))]], [], [.agg [.p (.val (.int .u64 y1.Hi)), .p (.val (.int .u64 y1.Lo))]], [], True, fun _ => ok_ref01_Twice (ref01_Wide.mk q2 q3) y1 h_4, []⟩]) (⟨82, mkS [(2, .x (.one (.ptr 102 0))), (3, .x (.one (.ptr 103 0))), (4, .x (.one (.ptr 104 0))), (5, .x (.one (.ptr 105 0))), (6, .x (.one (.ptr 106 0))), (7, .x (.one (.ptr 107 0))), (8, .x (.one (.p (pi i)))), (10, .x (.one (.p (.val (.bool ((bShr .u64 r2 (63 : Int)) == (1 : Int)))))))], mkH [(102, .var [.p (.val (.int .u64 a.Hi)), .p (.val (.int .u64 a.Lo))]), (103, .var [.p (.val (.int .u64 b.Hi)), .p (.val (.int .u64 b.Lo))]), (104, .var [.p (.val (.int .u64 (0 : Int))), .p (.val (.int .u64 (0 : Int)))]), (105, .var [.p (.val (.int .u64 (0 : Int))), .p (.val (.int .u64 (0 : Int)))]), (106, .var [.p (.val (.int .u64 y1.Hi)), .p (.val (.int .u64 y1.Lo))]), (107, .var [.p (.val (.int .u64 y.Hi)), .p (.val (.int .u64 (bOr .u64 y.Lo bit1)))])]⟩) ?_
              replace H1 := req_some H1
              obtain ⟨q_7, H1⟩ := H1
              refine lok_rt (Env.of E0 [⟨some 70, 88, [.agg [.p (.val (.int .u64 y.Hi)), .p (.val (.int .u64 (bOr .u64 y.Lo bit1)))], .agg [.p (.val (.int .u64 b.Hi)), .p (.val (.int .u64 b.Lo))]], [], [.one (.p (pi ((ref01_Order (ref01_Wide.mk y.Hi (bOr .u64 y.Lo bit1)) b).getD default)))], [], (ref01_Order (ref01_Wide.mk y.Hi (bOr .u64 y.Lo bit1)) b).isSome = true, fun h => ok_ref01_Order (ref01_Wide.mk y.Hi (bOr .u64 y.Lo bit1)) b _ (isSome_get h), []⟩]) (⟨82, mkS [(2, .x (.one (.ptr 102 0))), (3, .x (.one (.ptr 103 0))), (4, .x (.one (.ptr 104 0))), (5, .x (.one (.ptr 105 0))), (6, .x (.one (.ptr 106 0))), (7, .x (.one (.ptr 107 0))), (8, .x (.one (.p (pi i)))), (72, .x (.one (.p (.val (.bool (((bShr .u64 r2 (63 : Int)) == (1 : Int)) || (decide ((0 : Int) ≤ ((ref01_Order (ref01_Wide.mk y.Hi (bOr .u64 y.Lo bit1)) b).getD default)))))))))], mkH [(102, .var [.p (.val (.int .u64 a.Hi)), .p (.val (.int .u64 a.Lo))]), (103, .var [.p (.val (.int .u64 b.Hi)), .p (.val (.int .u64 b.Lo))]), (104, .var [.p (.val (.int .u64 (0 : Int))), .p (.val (.int .u64 (0 : Int)))]), (105, .var [.p (.val (.int .u64 (0 : Int))), .p (.val (.int .u64 (0 : Int)))]), (106, .var [.p (.val (.int .u64 y1.Hi)), .p (.val (.int .u64 y1.Lo))]), (107, .var [.p (.val (.int .u64 y.Hi)), .p (.val (.int .u64 (bOr .u64 y.Lo bit1)))])]⟩) ?_
              refine lok_c (((bShr .u64 r2 (63 : Int)) == (1 : Int)) || (decide ((0 : Int) ≤ ((ref01_Order (ref01_Wide.mk y.Hi (bOr .u64 y.Lo bit1)) b).getD default)))) ?_ ?_
              · intro b_6
                replace H1 := cpos H1 b_6
                replace H1 := bind_some H1
                obtain ⟨y2, h_5, H1⟩ := H1
                refine lok_rt (Env.of E0 [⟨some 75, 89, [.agg [.p (.val (.int .u64 y.Hi)), .p (.val (.int .u64 (bOr .u64 y.Lo bit1)))], .agg [.p (.val (.int .u64 b.Hi)), .p (.val (.int .u64 b.Lo))]], [], [.agg [.p (.val (.int .u64 y2.Hi)), .p (.val (.int .u64 y2.Lo))]], [], True, fun _ => ok_ref01_Minus (ref01_Wide.mk y.Hi (bOr .u64 y.Lo bit1)) b y2 h_5, []⟩]) (⟨82, mkS [(2, .x (.one (.ptr 102 0))), (3, .x (.one (.ptr 103 0))), (4, .x (.one (.ptr 104 0))), (5, .x (.one (.ptr 105 0))), (6, .x (.one (.ptr 106 0))), (7, .x (.one (.ptr 107 0))), (8, .x (.one (.p (pi i))))], mkH [(102, .var [.p (.val (.int .u64 a.Hi)), .p (.val (.int .u64 a.Lo))]), (103, .var [.p (.val (.int .u64 b.Hi)), .p (.val (.int .u64 b.Lo))]), (104, .var [.p (.val (.int .u64 (0 : Int))), .p (.val (.int .u64 (0 : Int)))]), (105, .var [.p (.val (.int .u64 (0 : Int))), .p (.val (.int .u64 (0 : Int)))]), (106, .var [.p (.val (.int .u64 y1.Hi)), .p (.val (.int .u64 y1.Lo))]), (107, .var [.p (.val (.int .u64 y2.Hi)), .p (.val (.int .u64 y2.Lo))])]⟩) ?_
                refine lok_rl E0 (⟨82, mkS [(2, .x (.one (.ptr 102 0))), (3, .x (.one (.ptr 103 0))), (4, .x (.one (.ptr 104 0))), (5, .x (.one (.ptr 105 0))), (6, .x (.one (.ptr 106 0))), (7, .x (.one (.ptr 107 0))), (8, .x (.one (.p (pi i))))], mkH [(102, .var [.p (.val (.int .u64 a.Hi)), .p (.val (.int .u64 a.Lo))]), (103, .var [.p (.val (.int .u64 b.Hi)), .p (.val (.int .u64 b.Lo))]), (104, .var [.p (.val (.int .u64 (0 : Int))), .p (.val (.int .u64 (0 : Int)))]), (105, .var [.p (.val (.int .u64 (0 : Int))), .p (.val (.int .u64 (0 : Int)))]), (106, .var [.p (.val (.int .u64 y1.Hi)), .p (.val (.int .u64 (bOr .u64 y1.Lo (1 : Int))))]), (107, .var [.p (.val (.int .u64 y2.Hi)), .p (.val (.int .u64 y2.Lo))])]⟩) ?_
                try simp only [thenL, blockL, ↓reduceIte, reduceCtorEq]
                exact ⟨(y1.Hi, (bOr .u64 y1.Lo (1 : Int)), y2.Hi, y2.Lo), H1, imp_au⟩
              · intro b_6
                replace H1 := cneg H1 b_6
                refine lok_skip ?_
                try simp only [thenL, blockL, ↓reduceIte, reduceCtorEq]
                exact ⟨(y1.Hi, y1.Lo, y.Hi, (bOr .u64 y.Lo bit1)), H1, imp_au⟩
            case hxref01_Divide_j3 =>
              refine lok_rt E0 (⟨82, mkS [(2, .x (.one (.ptr 102 0))), (3, .x (.one (.ptr 103 0))), (4, .x (.one (.ptr 104 0))), (5, .x (.one (.ptr 105 0))), (6, .x (.one (.ptr 106 0))), (7, .x (.one (.ptr 107 0))), (8, .x (.one (.p (pi i)))), (9, .x (.one (.p (.val (.int .u64 bit))))), (45, .x (.one (.p (.val (.bool (decide ((64 : Int) ≤ i)))))))], mkH [(102, .var [.p (.val (.int .u64 a.Hi)), .p (.val (.int .u64 a.Lo))]), (103, .var [.p (.val (.int .u64 b.Hi)), .p (.val (.int .u64 b.Lo))]), (104, .var [.p (.val (.int .u64 (0 : Int))), .p (.val (.int .u64 (0 : Int)))]), (105, .var [.p (.val (.int .u64 (0 : Int))), .p (.val (.int .u64 (0 : Int)))]), (106, .var [.p (.val (.int .u64 q2)), .p (.val (.int .u64 q3))]), (107, .var [.p (.val (.int .u64 r2)), .p (.val (.int .u64 r3))])]⟩) ?_
              refine lok_c (decide ((64 : Int) ≤ i)) ?_ ?_
              · intro b_10
                replace H1 := cpos H1 b_10
                replace H1 := req_some H1
                obtain ⟨q_9, H1⟩ := H1
                replace H1 := bindV_some H1
                obtain ⟨bit2, a_8, H1⟩ := H1
                refine lok_rlg E0 a_8 (⟨82, mkS [(2, .x (.one (.ptr 102 0))), (3, .x (.one (.ptr 103 0))), (4, .x (.one (.ptr 104 0))), (5, .x (.one (.ptr 105 0))), (6, .x (.one (.ptr 106 0))), (7, .x (.one (.ptr 107 0))), (8, .x (.one (.p (pi i)))), (9, .x (.one (.p (.val (.int .u64 bit2)))))], mkH [(102, .var [.p (.val (.int .u64 a.Hi)), .p (.val (.int .u64 a.Lo))]), (103, .var [.p (.val (.int .u64 b.Hi)), .p (.val (.int .u64 b.Lo))]), (104, .var [.p (.val (.int .u64 (0 : Int))), .p (.val (.int .u64 (0 : Int)))]), (105, .var [.p (.val (.int .u64 (0 : Int))), .p (.val (.int .u64 (0 : Int)))]), (106, .var [.p (.val (.int .u64 q2)), .p (.val (.int .u64 q3))]), (107, .var [.p (.val (.int .u64 r2)), .p (.val (.int .u64 r3))])]⟩) ?_
                try simp only [thenL, blockL, ↓reduceIte, reduceCtorEq]
                exact ⟨bit2, H1, imp_au⟩
              · intro b_10
                replace H1 := cneg H1 b_10
                refine lok_skip ?_
                try simp only [thenL, blockL, ↓reduceIte, reduceCtorEq]
                exact ⟨bit, H1, imp_au⟩
        · intro b_12
          replace H1 := cneg H1 b_12
          refine lok_exit ?_
          try simp only [thenL, blockL, ↓reduceIte, reduceCtorEq]
          have e_1 := k_1 _ (Option.some.inj H1).symm
          subst e_1
          try dsimp only at H0
          try simp only [thenL, blockL, ↓reduceIte, reduceCtorEq]
          exact ⟨(q2, q3, r2, r3), H0, imp_au⟩
theorem ok_ref01_Divisor (a : ref01_Wide) (b : ref01_Wide) (r_ : ref01_Wide) (H0 : ref01_Divisor a b = some r_) : CallOK Try.prog 61 [.agg [.p (.val (.int .u64 a.Hi)), .p (.val (.int .u64 a.Lo))], .agg [.p (.val (.int .u64 b.Hi)), .p (.val (.int .u64 b.Lo))]] [] [.agg [.p (.val (.int .u64 r_.Hi)), .p (.val (.int .u64 r_.Lo))]] [] := by
  refine callOK (n := 19) (rs := [.cell 4 63]) (nb := 0) (V := []) Try.func61 rfl (by kernel_rfl) rfl rfl rfl rfl (Nat.le_of_ble_eq_true rfl) (by decide) ?_
  unfold ref01_Divisor at H0
  refine lok_rt E0 (⟨19, mkS [(2, .x (.one (.ptr 102 0))), (3, .x (.one (.ptr 103 0))), (4, .x (.one (.ptr 104 0)))], mkH [(102, .var [.p (.val (.int .u64 a.Hi)), .p (.val (.int .u64 a.Lo))]), (103, .var [.p (.val (.int .u64 b.Hi)), .p (.val (.int .u64 b.Lo))]), (104, .var [.p (.val (.int .u64 (0 : Int))), .p (.val (.int .u64 (0 : Int)))])]⟩) ?_
  refine lok_join (fun x_ : Int × Int => ref01_Divisor_j1 x_.1 x_.2 = some r_) (fun x_ => ⟨19, mkS [(2, .x (.one (.ptr 102 0))), (4, .x (.one (.ptr 104 0)))], mkH [(102, .var [.p (.val (.int .u64 x_.1)), .p (.val (.int .u64 x_.2))]), (104, .var [.p (.val (.int .u64 (0 : Int))), .p (.val (.int .u64 (0 : Int)))])]⟩) ?hyref01_Divisor_j1 ?hxref01_Divisor_j1
  case hyref01_Divisor_j1 =>
    rintro ⟨a1, a2⟩ H0
    try dsimp only at H0 ⊢
    unfold ref01_Divisor_j1 at H0
    refine lok_rt E0 (⟨19, mkS [(4, .x (.one (.ptr 104 0)))], mkH [(104, .var [.p (.val (.int .u64 a1)), .p (.val (.int .u64 a2))])]⟩) ?_
    refine lok_ret ?_
    obtain rfl := Option.some.inj H0
    try simp only [thenL, blockL]
    exact fin_au _ (.inr rfl) [] (⟨19, mkS [(4, .x (.one (.ptr 104 0)))], mkH [(104, .var [.p (.val (.int .u64 a1)), .p (.val (.int .u64 a2))])]⟩) rfl rfl imp_au
  case hxref01_Divisor_j1 =>
    refine lok_block ?_
    replace H0 := bind_some H0
    obtain ⟨v_0, hv_0, H0⟩ := H0
    refine lok_iter (fun x_ => ⟨19, mkS [(2, .x (.one (.ptr 102 0))), (3, .x (.one (.ptr 103 0))), (4, .x (.one (.ptr 104 0)))], mkH [(102, .var [.p (.val (.int .u64 x_.1)), .p (.val (.int .u64 x_.2.1))]), (103, .var [.p (.val (.int .u64 x_.2.2.1)), .p (.val (.int .u64 x_.2.2.2))]), (104, .var [.p (.val (.int .u64 (0 : Int))), .p (.val (.int .u64 (0 : Int)))])]⟩) hv_0 imp_au ?_
    · rintro ⟨a3, a4, b1, b2⟩ o_1 H1 k_1
      unfold ref01_Divisor_l2 at H1
      try dsimp only at H1 ⊢
      refine lok_seq ?_
      refine lok_rt E0 (⟨19, mkS [(2, .x (.one (.ptr 102 0))), (3, .x (.one (.ptr 103 0))), (4, .x (.one (.ptr 104 0))), (9, .x (.one (.p (.val (.bool (!((b1 == (0 : Int)) && (b2 == (0 : Int)))))))))], mkH [(102, .var [.p (.val (.int .u64 a3)), .p (.val (.int .u64 a4))]), (103, .var [.p (.val (.int .u64 b1)), .p (.val (.int .u64 b2))]), (104, .var [.p (.val (.int .u64 (0 : Int))), .p (.val (.int .u64 (0 : Int)))])]⟩) ?_
      refine lok_c (!((b1 == (0 : Int)) && (b2 == (0 : Int)))) ?_ ?_
      · intro b_2
        replace H1 := cpos H1 b_2
        refine lok_skip ?_
        try simp only [thenL, blockL, ↓reduceIte, reduceCtorEq]
        refine lok_block ?_
        replace H1 := bind_some H1
        obtain ⟨⟨y, y1⟩, h_1, H1⟩ := H1
        try dsimp only at H1
        refine lok_rt (Env.of E0 [⟨some 13, 80, [.agg [.p (.val (.int .u64 a3)), .p (.val (.int .u64 a4))], .agg [.p (.val (.int .u64 b1)), .p (.val (.int .u64 b2))]], [], [.agg [.p (.val (.int .u64 y.Hi)), .p (.val (.int .u64 y.Lo))], .agg [.p (.val (.int .u64 y1.Hi)), .p (.val (.int .u64 y1.Lo))]], [], True, fun _ => ok_ref01_Divide (ref01_Wide.mk a3 a4) (ref01_Wide.mk b1 b2) (y, y1) h_1, []⟩]) (⟨19, mkS [(2, .x (.one (.ptr 102 0))), (3, .x (.one (.ptr 103 0))), (4, .x (.one (.ptr 104 0))), (6, .x (.one (.ptr 106 0)))], mkH [(102, .var [.p (.val (.int .u64 a3)), .p (.val (.int .u64 a4))]), (103, .var [.p (.val (.int .u64 b1)), .p (.val (.int .u64 b2))]), (104, .var [.p (.val (.int .u64 (0 : Int))), .p (.val (.int .u64 (0 : Int)))]), (106, .var [.p (.val (.int .u64 y1.Hi)), .p (.val (.int .u64 y1.Lo))])]⟩) ?_
        refine lok_el E0 19 [⟨[(3, .x (.one (.ptr 103 0)))], [(103, some (.var [.p (.val (.int .u64 b1)), .p (.val (.int .u64 b2))]))], [(16, .x (.agg [.p (.val (.int .u64 b1)), .p (.val (.int .u64 b2))]))], [], none⟩,
      ⟨[(6, .x (.one (.ptr 106 0)))], [(106, some (.var [.p (.val (.int .u64 y1.Hi)), .p (.val (.int .u64 y1.Lo))]))], [(17, .x (.agg [.p (.val (.int .u64 y1.Hi)), .p (.val (.int .u64 y1.Lo))]))], [], none⟩,
      ⟨[(2, .x (.one (.ptr 102 0))), (16, .x (.agg [.p (.val (.int .u64 b1)), .p (.val (.int .u64 b2))]))], [(102, some (.var [.p (.val (.int .u64 a3)), .p (.val (.int .u64 a4))]))], [], [(102, some (.var [.p (.val (.int .u64 b1)), .p (.val (.int .u64 b2))]))], none⟩] (⟨19, mkS [(2, .x (.one (.ptr 102 0))), (3, .x (.one (.ptr 103 0))), (4, .x (.one (.ptr 104 0)))], mkH [(102, .var [.p (.val (.int .u64 b1)), .p (.val (.int .u64 b2))]), (103, .var [.p (.val (.int .u64 y1.Hi)), .p (.val (.int .u64 y1.Lo))]), (104, .var [.p (.val (.int .u64 (0 : Int))), .p (.val (.int .u64 (0 : Int)))])]⟩) (by kernel_rfl) (by kernel_rfl) (by kernel_rfl) rfl rfl rfl ?_
        try simp only [thenL, blockL, ↓reduceIte, reduceCtorEq]
        exact ⟨(b1, b2, y1.Hi, y1.Lo), (Option.some.inj H1).symm, imp_au⟩
      · intro b_2
        replace H1 := cneg H1 b_2
        refine lok_exit ?_
        try simp only [thenL, blockL, ↓reduceIte, reduceCtorEq]
        have e_1 := k_1 _ (Option.some.inj H1).symm
        subst e_1
        try dsimp only at H0
        try simp only [thenL, blockL, ↓reduceIte, reduceCtorEq]
        exact ⟨(a3, a4), H0, imp_au⟩
theorem ok_ref01_Reduce (negative : Bool) (num : ref01_Wide) (den : ref01_Wide) (r_ : api_Ratio × Int) (H0 : ref01_Reduce negative num den = some r_) : CallOK Try.prog 58 [.one (.p (.val (.bool negative))), .agg [.p (.val (.int .u64 num.Hi)), .p (.val (.int .u64 num.Lo))], .agg [.p (.val (.int .u64 den.Hi)), .p (.val (.int .u64 den.Lo))]] [] [.agg [.p (pi r_.1.Num), .p (pi r_.1.Den)], .one (.p (pi r_.2))] [] := by
  refine callOK (n := 61) (rs := [.cell 6 35, .tmp 7]) (nb := 0) (V := []) Try.func58 rfl (by kernel_rfl) rfl rfl rfl rfl (Nat.le_of_ble_eq_true rfl) (by decide) ?_
  unfold ref01_Reduce at H0
  refine lok_rt E0 (⟨61, mkS [(0, .x (.one (.p (.val (.bool negative))))), (4, .x (.one (.ptr 104 0))), (5, .x (.one (.ptr 105 0))), (6, .x (.one (.ptr 106 0)))], mkH [(104, .var [.p (.val (.int .u64 num.Hi)), .p (.val (.int .u64 num.Lo))]), (105, .var [.p (.val (.int .u64 den.Hi)), .p (.val (.int .u64 den.Lo))]), (106, .var [.p (pi (0 : Int)), .p (pi (0 : Int))])]⟩) ?_
  replace H0 := bind_some H0
  obtain ⟨y, h_0, H0⟩ := H0
  refine lok_rt (Env.of E0 [⟨some 16, 61, [.agg [.p (.val (.int .u64 num.Hi)), .p (.val (.int .u64 num.Lo))], .agg [.p (.val (.int .u64 den.Hi)), .p (.val (.int .u64 den.Lo))]], [], [.agg [.p (.val (.int .u64 y.Hi)), .p (.val (.int .u64 y.Lo))]], [], True, fun _ => ok_ref01_Divisor num den y h_0, []⟩]) (⟨61, mkS [(0, .x (.one (.p (.val (.bool negative))))), (4, .x (.one (.ptr 104 0))), (5, .x (.one (.ptr 105 0))), (6, .x (.one (.ptr 106 0))), (8, .x (.one (.ptr 108 0)))], mkH [(104, .var [.p (.val (.int .u64 num.Hi)), .p (.val (.int .u64 num.Lo))]), (105, .var [.p (.val (.int .u64 den.Hi)), .p (.val (.int .u64 den.Lo))]), (106, .var [.p (pi (0 : Int)), .p (pi (0 : Int))]), (108, .var [.p (.val (.int .u64 y.Hi)), .p (.val (.int .u64 y.Lo))])]⟩) ?_
  replace H0 := bind_some H0
  obtain ⟨⟨y1, y2⟩, h_1, H0⟩ := H0
  try dsimp only at H0
  refine lok_rt (Env.of E0 [⟨some 20, 80, [.agg [.p (.val (.int .u64 num.Hi)), .p (.val (.int .u64 num.Lo))], .agg [.p (.val (.int .u64 y.Hi)), .p (.val (.int .u64 y.Lo))]], [], [.agg [.p (.val (.int .u64 y1.Hi)), .p (.val (.int .u64 y1.Lo))], .agg [.p (.val (.int .u64 y2.Hi)), .p (.val (.int .u64 y2.Lo))]], [], True, fun _ => ok_ref01_Divide num y (y1, y2) h_1, []⟩]) (⟨61, mkS [(0, .x (.one (.p (.val (.bool negative))))), (5, .x (.one (.ptr 105 0))), (6, .x (.one (.ptr 106 0))), (8, .x (.one (.ptr 108 0))), (9, .x (.one (.ptr 109 0)))], mkH [(105, .var [.p (.val (.int .u64 den.Hi)), .p (.val (.int .u64 den.Lo))]), (106, .var [.p (pi (0 : Int)), .p (pi (0 : Int))]), (108, .var [.p (.val (.int .u64 y.Hi)), .p (.val (.int .u64 y.Lo))]), (109, .var [.p (.val (.int .u64 y1.Hi)), .p (.val (.int .u64 y1.Lo))])]⟩) ?_
  replace H0 := bind_some H0
  obtain ⟨⟨y3, y4⟩, h_2, H0⟩ := H0
  try dsimp only at H0
  refine lok_rt (Env.of E0 [⟨some 26, 80, [.agg [.p (.val (.int .u64 den.Hi)), .p (.val (.int .u64 den.Lo))], .agg [.p (.val (.int .u64 y.Hi)), .p (.val (.int .u64 y.Lo))]], [], [.agg [.p (.val (.int .u64 y3.Hi)), .p (.val (.int .u64 y3.Lo))], .agg [.p (.val (.int .u64 y4.Hi)), .p (.val (.int .u64 y4.Lo))]], [], True, fun _ => ok_ref01_Divide den y (y3, y4) h_2, []⟩]) (⟨61, mkS [(0, .x (.one (.p (.val (.bool negative))))), (6, .x (.one (.ptr 106 0))), (9, .x (.one (.ptr 109 0))), (11, .x (.one (.ptr 111 0)))], mkH [(106, .var [.p (pi (0 : Int)), .p (pi (0 : Int))]), (109, .var [.p (.val (.int .u64 y1.Hi)), .p (.val (.int .u64 y1.Lo))]), (111, .var [.p (.val (.int .u64 y3.Hi)), .p (.val (.int .u64 y3.Lo))])]⟩) ?_
  refine lok_seq ?_
  refine lok_rt E0 (⟨61, mkS [(0, .x (.one (.p (.val (.bool negative))))), (6, .x (.one (.ptr 106 0))), (9, .x (.one (.ptr 109 0))), (11, .x (.one (.ptr 111 0))), (46, .x (.one (.p (.val (.bool ((((decide ((0 : Int) < y1.Hi)) || (decide ((0 : Int) < y3.Hi))) || (decide ((1152921504606846976 : Int) < y1.Lo))) || (decide ((1152921504606846976 : Int) < y3.Lo))))))))], mkH [(106, .var [.p (pi (0 : Int)), .p (pi (0 : Int))]), (109, .var [.p (.val (.int .u64 y1.Hi)), .p (.val (.int .u64 y1.Lo))]), (111, .var [.p (.val (.int .u64 y3.Hi)), .p (.val (.int .u64 y3.Lo))])]⟩) ?_
  refine lok_c ((((decide ((0 : Int) < y1.Hi)) || (decide ((0 : Int) < y3.Hi))) || (decide ((1152921504606846976 : Int) < y1.Lo))) || (decide ((1152921504606846976 : Int) < y3.Lo))) ?_ ?_
  · intro b_4
    replace H0 := cpos H0 b_4
    refine lok_rt E0 (⟨61, mkS [(6, .x (.one (.ptr 106 0))), (7, .x (.one (.p (pi (6 : Int)))))], mkH [(106, .var [.p (pi (0 : Int)), .p (pi (0 : Int))])]⟩) ?_
    refine lok_ret ?_
    obtain rfl := Option.some.inj H0
    try simp only [thenL, blockL]
    exact fin_au _ (.inr rfl) [] (⟨61, mkS [(6, .x (.one (.ptr 106 0))), (7, .x (.one (.p (pi (6 : Int)))))], mkH [(106, .var [.p (pi (0 : Int)), .p (pi (0 : Int))])]⟩) rfl rfl imp_au
  · intro b_4
    replace H0 := cneg H0 b_4
    refine lok_skip ?_
    try simp only [thenL, blockL, ↓reduceIte, reduceCtorEq]
    refine lok_rt E0 (⟨61, mkS [(0, .x (.one (.p (.val (.bool negative))))), (6, .x (.one (.ptr 106 0))), (13, .x (.one (.ptr 113 0)))], mkH [(106, .var [.p (pi (0 : Int)), .p (pi (0 : Int))]), (113, .var [.p (pi (IntKind.i64.wrap y1.Lo)), .p (pi (IntKind.i64.wrap y3.Lo))])]⟩) ?_
    refine lok_join (fun x_ : Int => ref01_Reduce_j1 y3 x_ = some r_) (fun x_ => ⟨61, mkS [(6, .x (.one (.ptr 106 0))), (13, .x (.one (.ptr 113 0)))], mkH [(106, .var [.p (pi (0 : Int)), .p (pi (0 : Int))]), (113, .var [.p (pi x_), .p (pi (IntKind.i64.wrap y3.Lo))])]⟩) ?hyref01_Reduce_j1 ?hxref01_Reduce_j1
    case hyref01_Reduce_j1 =>
      rintro out H0
      try dsimp only at H0 ⊢
      unfold ref01_Reduce_j1 at H0
      refine lok_rt E0 (⟨61, mkS [(6, .x (.one (.ptr 106 0))), (7, .x (.one (.p (pi (0 : Int)))))], mkH [(106, .var [.p (pi out), .p (pi (IntKind.i64.wrap y3.Lo))])]⟩) ?_
      refine lok_ret ?_
      obtain rfl := Option.some.inj H0
      try simp only [thenL, blockL]
      exact fin_au _ (.inr rfl) [] (⟨61, mkS [(6, .x (.one (.ptr 106 0))), (7, .x (.one (.p (pi (0 : Int)))))], mkH [(106, .var [.p (pi out), .p (pi (IntKind.i64.wrap y3.Lo))])]⟩) rfl rfl imp_au
    case hxref01_Reduce_j1 =>
      refine lok_rt E0 (⟨61, mkS [(6, .x (.one (.ptr 106 0))), (13, .x (.one (.ptr 113 0))), (55, .x (.one (.p (.val (.bool negative)))))], mkH [(106, .var [.p (pi (0 : Int)), .p (pi (0 : Int))]), (113, .var [.p (pi (IntKind.i64.wrap y1.Lo)), .p (pi (IntKind.i64.wrap y3.Lo))])]⟩) ?_
      refine lok_c negative ?_ ?_
      · intro b_3
        replace H0 := cpos H0 b_3
        refine lok_rl E0 (⟨61, mkS [(6, .x (.one (.ptr 106 0))), (13, .x (.one (.ptr 113 0)))], mkH [(106, .var [.p (pi (0 : Int)), .p (pi (0 : Int))]), (113, .var [.p (pi (IntKind.i64.wrap (0 - (IntKind.i64.wrap y1.Lo)))), .p (pi (IntKind.i64.wrap y3.Lo))])]⟩) ?_
        try simp only [thenL, blockL, ↓reduceIte, reduceCtorEq]
        exact ⟨(IntKind.i64.wrap (0 - (IntKind.i64.wrap y1.Lo))), H0, imp_au⟩
      · intro b_3
        replace H0 := cneg H0 b_3
        refine lok_skip ?_
        try simp only [thenL, blockL, ↓reduceIte, reduceCtorEq]
        exact ⟨(IntKind.i64.wrap y1.Lo), H0, imp_au⟩
theorem ok_ref01_Size (n : Int) (r_ : Int) (H0 : ref01_Size n = some r_) : CallOK Try.prog 59 [.one (.p (pi n))] [] [.one (.p (.val (.int .u64 r_)))] [] := by
  refine callOK (n := 12) (rs := [.tmp 2]) (nb := 0) (V := []) Try.func59 rfl (by kernel_rfl) rfl rfl rfl rfl (Nat.le_of_ble_eq_true rfl) (by decide) ?_
  unfold ref01_Size at H0
  refine lok_rt E0 (⟨12, mkS [(0, .x (.one (.p (pi n))))], mkH []⟩) ?_
  refine lok_seq ?_
  refine lok_rt E0 (⟨12, mkS [(0, .x (.one (.p (pi n)))), (4, .x (.one (.p (.val (.bool (decide (n < (0 : Int))))))))], mkH []⟩) ?_
  refine lok_c (decide (n < (0 : Int))) ?_ ?_
  · intro b_1
    replace H0 := cpos H0 b_1
    replace H0 := bindV_some H0
    obtain ⟨v, a_0, H0⟩ := H0
    refine lok_rtg E0 a_0 (⟨12, mkS [(2, .x (.one (.p (.val (.int .u64 v)))))], mkH []⟩) ?_
    refine lok_ret ?_
    obtain rfl := Option.some.inj H0
    try simp only [thenL, blockL]
    exact fin_au _ (.inr rfl) [] (⟨12, mkS [(2, .x (.one (.p (.val (.int .u64 v)))))], mkH []⟩) rfl rfl imp_au
  · intro b_1
    replace H0 := cneg H0 b_1
    refine lok_skip ?_
    try simp only [thenL, blockL, ↓reduceIte, reduceCtorEq]
    refine lok_rt E0 (⟨12, mkS [(2, .x (.one (.p (.val (.int .u64 (IntKind.u64.wrap n))))))], mkH []⟩) ?_
    refine lok_ret ?_
    obtain rfl := Option.some.inj H0
    try simp only [thenL, blockL]
    exact fin_au _ (.inr rfl) [] (⟨12, mkS [(2, .x (.one (.p (.val (.int .u64 (IntKind.u64.wrap n))))))], mkH []⟩) rfl rfl imp_au
theorem ok_ref01_New (num : Int) (den : Int) (r_ : api_Ratio × Int) (H0 : ref01_New num den = some r_) : CallOK Try.prog 22 [.one (.p (pi num)), .one (.p (pi den))] [] [.agg [.p (pi r_.1.Num), .p (pi r_.1.Den)], .one (.p (pi r_.2))] [] := by
  refine callOK (n := 23) (rs := [.cell 4 35, .tmp 5]) (nb := 0) (V := []) Try.func22 rfl (by kernel_rfl) rfl rfl rfl rfl (Nat.le_of_ble_eq_true rfl) (by decide) ?_
  unfold ref01_New at H0
  refine lok_rt E0 (⟨23, mkS [(0, .x (.one (.p (pi num)))), (1, .x (.one (.p (pi den)))), (4, .x (.one (.ptr 104 0)))], mkH [(104, .var [.p (pi (0 : Int)), .p (pi (0 : Int))])]⟩) ?_
  refine lok_seq ?_
  refine lok_rt E0 (⟨23, mkS [(0, .x (.one (.p (pi num)))), (1, .x (.one (.p (pi den)))), (4, .x (.one (.ptr 104 0))), (7, .x (.one (.p (.val (.bool (den == (0 : Int)))))))], mkH [(104, .var [.p (pi (0 : Int)), .p (pi (0 : Int))])]⟩) ?_
  refine lok_c (den == (0 : Int)) ?_ ?_
  · intro b_3
    replace H0 := cpos H0 b_3
    refine lok_rt E0 (⟨23, mkS [(4, .x (.one (.ptr 104 0))), (5, .x (.one (.p (pi (2 : Int)))))], mkH [(104, .var [.p (pi (0 : Int)), .p (pi (0 : Int))])]⟩) ?_
    refine lok_ret ?_
    obtain rfl := Option.some.inj H0
    try simp only [thenL, blockL]
    exact fin_au _ (.inr rfl) [] (⟨23, mkS [(4, .x (.one (.ptr 104 0))), (5, .x (.one (.p (pi (2 : Int)))))], mkH [(104, .var [.p (pi (0 : Int)), .p (pi (0 : Int))])]⟩) rfl rfl imp_au
  · intro b_3
    replace H0 := cneg H0 b_3
    refine lok_skip ?_
    try simp only [thenL, blockL, ↓reduceIte, reduceCtorEq]
    replace H0 := bind_some H0
    obtain ⟨y, h_0, H0⟩ := H0
    replace H0 := bind_some H0
    obtain ⟨y1, h_1, H0⟩ := H0
    replace H0 := bind_some H0
    obtain ⟨⟨y2, y3⟩, h_2, H0⟩ := H0
    try dsimp only at H0
    refine lok_rt (Env.of E0 [⟨some 15, 59, [.one (.p (pi num))], [], [.one (.p (.val (.int .u64 y)))], [], True, fun _ => ok_ref01_Size num y h_0, []⟩,
      ⟨some 18, 59, [.one (.p (pi den))], [], [.one (.p (.val (.int .u64 y1)))], [], True, fun _ => ok_ref01_Size den y1 h_1, []⟩,
      ⟨some 20, 58, [.one (.p (.val (.bool (!((decide (num < (0 : Int))) == (decide (den < (0 : Int)))))))), .agg [.p (.val (.int .u64 (0 : Int))), .p (.val (.int .u64 y))], .agg [.p (.val (.int .u64 (0 : Int))), .p (.val (.int .u64 y1))]], [], [.agg [.p (pi y2.Num), .p (pi y2.Den)], .one (.p (pi y3))], [], True, fun _ => ok_ref01_Reduce (!((decide (num < (0 : Int))) == (decide (den < (0 : Int))))) (ref01_Wide.mk (0 : Int) y) (ref01_Wide.mk (0 : Int) y1) (y2, y3) h_2, []⟩]) (⟨23, mkS [(4, .x (.one (.ptr 104 0))), (5, .x (.one (.p (pi y3))))], mkH [(104, .var [.p (pi y2.Num), .p (pi y2.Den)])]⟩) ?_
    refine lok_ret ?_
    obtain rfl := Option.some.inj H0
    try simp only [thenL, blockL]
    exact fin_au _ (.inr rfl) [] (⟨23, mkS [(4, .x (.one (.ptr 104 0))), (5, .x (.one (.p (pi y3))))], mkH [(104, .var [.p (pi y2.Num), .p (pi y2.Den)])]⟩) rfl rfl imp_au
theorem ok_law01_RatioMakes (num : Int) (den : Int) (r_ : Bool) (H0 : law01_RatioMakes num den = some r_) : CallOK Try.prog 5 [.one (.p (pi num)), .one (.p (pi den))] [] [.one (.p (.val (.bool r_)))] [] := by
  refine callOK (n := 32) (rs := [.tmp 4]) (nb := 0) (V := []) Try.func5 rfl (by kernel_rfl) rfl rfl rfl rfl (Nat.le_of_ble_eq_true rfl) (by decide) ?_
  unfold law01_RatioMakes at H0
  refine lok_rt E0 (⟨32, mkS [(0, .x (.one (.p (pi num)))), (1, .x (.one (.p (pi den))))], mkH []⟩) ?_
  replace H0 := bind_some H0
  obtain ⟨⟨y, y1⟩, h_0, H0⟩ := H0
  try dsimp only at H0
  refine lok_rt (Env.of E0 [⟨some 12, 21, [.one (.p (pi num)), .one (.p (pi den))], [], [.agg [.p (pi y.Num), .p (pi y.Den)], .one (.p (pi y1))], [], True, fun _ => ok_ratio_New num den (y, y1) h_0, []⟩]) (⟨32, mkS [(0, .x (.one (.p (pi num)))), (1, .x (.one (.p (pi den)))), (5, .x (.one (.ptr 105 0))), (6, .x (.one (.p (pi y1))))], mkH [(105, .var [.p (pi y.Num), .p (pi y.Den)])]⟩) ?_
  replace H0 := bind_some H0
  obtain ⟨⟨y2, y3⟩, h_1, H0⟩ := H0
  try dsimp only at H0
  refine lok_rt (Env.of E0 [⟨some 18, 22, [.one (.p (pi num)), .one (.p (pi den))], [], [.agg [.p (pi y2.Num), .p (pi y2.Den)], .one (.p (pi y3))], [], True, fun _ => ok_ref01_New num den (y2, y3) h_1, []⟩]) (⟨32, mkS [(5, .x (.one (.ptr 105 0))), (6, .x (.one (.p (pi y1)))), (7, .x (.one (.ptr 107 0))), (8, .x (.one (.p (pi y3))))], mkH [(105, .var [.p (pi y.Num), .p (pi y.Den)]), (107, .var [.p (pi y2.Num), .p (pi y2.Den)])]⟩) ?_
  replace H0 := req_some H0
  obtain ⟨q_2, H0⟩ := H0
  refine lok_rt (Env.of E0 [⟨some 30, 17, [], [], [.one (.p (.val (.bool ((law01_awake).getD default))))], [], (law01_awake).isSome = true, fun h => ok_law01_awake _ (isSome_get h), []⟩]) (⟨32, mkS [(4, .x (.one (.p (.val (.bool ((((y.Num == y2.Num) && (y.Den == y2.Den)) && (y1 == y3)) && ((law01_awake).getD default)))))))], mkH []⟩) ?_
  refine lok_ret ?_
  obtain rfl := Option.some.inj H0
  try simp only [thenL, blockL]
  exact fin_au _ (.inr rfl) [] (⟨32, mkS [(4, .x (.one (.p (.val (.bool ((((y.Num == y2.Num) && (y.Den == y2.Den)) && (y1 == y3)) && ((law01_awake).getD default)))))))], mkH []⟩) rfl rfl imp_au
theorem ok_ratio_Valid (a : api_Ratio) (r_ : Bool) (H0 : ratio_Valid a = some r_) : CallOK Try.prog 23 [.agg [.p (pi a.Num), .p (pi a.Den)]] [] [.one (.p (.val (.bool r_)))] [] := by
  refine callOK (n := 29) (rs := [.tmp 2]) (nb := 0) (V := []) Try.func23 rfl (by kernel_rfl) rfl rfl rfl rfl (Nat.le_of_ble_eq_true rfl) (by decide) ?_
  unfold ratio_Valid at H0
  refine lok_rt E0 (⟨29, mkS [(1, .x (.one (.ptr 101 0)))], mkH [(101, .var [.p (pi a.Num), .p (pi a.Den)])]⟩) ?_
  refine lok_seq ?_
  refine lok_rt E0 (⟨29, mkS [(1, .x (.one (.ptr 101 0))), (20, .x (.one (.p (.val (.bool ((((decide (a.Den < (1 : Int))) || (decide ((1152921504606846976 : Int) < a.Den))) || (decide (a.Num < (-1152921504606846976 : Int)))) || (decide ((1152921504606846976 : Int) < a.Num))))))))], mkH [(101, .var [.p (pi a.Num), .p (pi a.Den)])]⟩) ?_
  refine lok_c ((((decide (a.Den < (1 : Int))) || (decide ((1152921504606846976 : Int) < a.Den))) || (decide (a.Num < (-1152921504606846976 : Int)))) || (decide ((1152921504606846976 : Int) < a.Num))) ?_ ?_
  · intro b_2
    replace H0 := cpos H0 b_2
    refine lok_rt E0 (⟨29, mkS [(2, .x (.one (.p (.val (.bool false)))))], mkH []⟩) ?_
    refine lok_ret ?_
    obtain rfl := Option.some.inj H0
    try simp only [thenL, blockL]
    exact fin_au _ (.inr rfl) [] (⟨29, mkS [(2, .x (.one (.p (.val (.bool false)))))], mkH []⟩) rfl rfl imp_au
  · intro b_2
    replace H0 := cneg H0 b_2
    refine lok_skip ?_
    try simp only [thenL, blockL, ↓reduceIte, reduceCtorEq]
    replace H0 := bind_some H0
    obtain ⟨y, h_0, H0⟩ := H0
    replace H0 := bind_some H0
    obtain ⟨y1, h_1, H0⟩ := H0
    refine lok_dt (Env.of E0 [⟨some 23, 57, [.one (.p (pi a.Num))], [], [.one (.p (.val (.int .u64 y)))], [], True, fun _ => ok_ratio_magnitude a.Num y h_0, []⟩,
      ⟨some 27, 60, [.one (.p (.val (.int .u64 y))), .one (.p (.val (.int .u64 (IntKind.u64.wrap a.Den))))], [], [.one (.p (.val (.int .u64 y1)))], [], True, fun _ => ok_ratio_gcd y (IntKind.u64.wrap a.Den) y1 h_1, []⟩]) 6 (⟨29, mkS [(2, .x (.one (.p (.val (.bool (y1 == (1 : Int)))))))], mkH []⟩) (by kernel_rfl) (by kernel_rfl) ?_
    refine lok_ret ?_
    obtain rfl := Option.some.inj H0
    try simp only [thenL, blockL]
    exact fin_au _ (.inr rfl) [] (⟨29, mkS [(2, .x (.one (.p (.val (.bool (y1 == (1 : Int)))))))], mkH []⟩) rfl rfl imp_au
theorem ok_ref01_Valid (a : api_Ratio) (r_ : Bool) (H0 : ref01_Valid a = some r_) : CallOK Try.prog 24 [.agg [.p (pi a.Num), .p (pi a.Den)]] [] [.one (.p (.val (.bool r_)))] [] := by
  refine callOK (n := 32) (rs := [.tmp 2]) (nb := 0) (V := []) Try.func24 rfl (by kernel_rfl) rfl rfl rfl rfl (Nat.le_of_ble_eq_true rfl) (by decide) ?_
  unfold ref01_Valid at H0
  refine lok_rt E0 (⟨32, mkS [(1, .x (.one (.ptr 101 0)))], mkH [(101, .var [.p (pi a.Num), .p (pi a.Den)])]⟩) ?_
  refine lok_seq ?_
  refine lok_rt E0 (⟨32, mkS [(1, .x (.one (.ptr 101 0))), (20, .x (.one (.p (.val (.bool ((((decide (a.Den < (1 : Int))) || (decide ((1152921504606846976 : Int) < a.Den))) || (decide (a.Num < (-1152921504606846976 : Int)))) || (decide ((1152921504606846976 : Int) < a.Num))))))))], mkH [(101, .var [.p (pi a.Num), .p (pi a.Den)])]⟩) ?_
  refine lok_c ((((decide (a.Den < (1 : Int))) || (decide ((1152921504606846976 : Int) < a.Den))) || (decide (a.Num < (-1152921504606846976 : Int)))) || (decide ((1152921504606846976 : Int) < a.Num))) ?_ ?_
  · intro b_3
    replace H0 := cpos H0 b_3
    refine lok_rt E0 (⟨32, mkS [(2, .x (.one (.p (.val (.bool false)))))], mkH []⟩) ?_
    refine lok_ret ?_
    obtain rfl := Option.some.inj H0
    try simp only [thenL, blockL]
    exact fin_au _ (.inr rfl) [] (⟨32, mkS [(2, .x (.one (.p (.val (.bool false)))))], mkH []⟩) rfl rfl imp_au
  · intro b_3
    replace H0 := cneg H0 b_3
    refine lok_skip ?_
    try simp only [thenL, blockL, ↓reduceIte, reduceCtorEq]
    replace H0 := bind_some H0
    obtain ⟨y, h_0, H0⟩ := H0
    replace H0 := bind_some H0
    obtain ⟨y1, h_1, H0⟩ := H0
    replace H0 := bind_some H0
    obtain ⟨y2, h_2, H0⟩ := H0
    refine lok_dt (Env.of E0 [⟨some 23, 59, [.one (.p (pi a.Num))], [], [.one (.p (.val (.int .u64 y)))], [], True, fun _ => ok_ref01_Size a.Num y h_0, []⟩,
      ⟨some 27, 59, [.one (.p (pi a.Den))], [], [.one (.p (.val (.int .u64 y1)))], [], True, fun _ => ok_ref01_Size a.Den y1 h_1, []⟩,
      ⟨some 29, 61, [.agg [.p (.val (.int .u64 (0 : Int))), .p (.val (.int .u64 y))], .agg [.p (.val (.int .u64 (0 : Int))), .p (.val (.int .u64 y1))]], [], [.agg [.p (.val (.int .u64 y2.Hi)), .p (.val (.int .u64 y2.Lo))]], [], True, fun _ => ok_ref01_Divisor (ref01_Wide.mk (0 : Int) y) (ref01_Wide.mk (0 : Int) y1) y2 h_2, []⟩]) 10 (⟨32, mkS [(2, .x (.one (.p (.val (.bool ((y2.Hi == (0 : Int)) && (y2.Lo == (1 : Int))))))))], mkH []⟩) (by kernel_rfl) (by kernel_rfl) ?_
    refine lok_ret ?_
    obtain rfl := Option.some.inj H0
    try simp only [thenL, blockL]
    exact fin_au _ (.inr rfl) [] (⟨32, mkS [(2, .x (.one (.p (.val (.bool ((y2.Hi == (0 : Int)) && (y2.Lo == (1 : Int))))))))], mkH []⟩) rfl rfl imp_au
theorem ok_law01_RatioValid (num : Int) (den : Int) (r_ : Bool) (H0 : law01_RatioValid num den = some r_) : CallOK Try.prog 6 [.one (.p (pi num)), .one (.p (pi den))] [] [.one (.p (.val (.bool r_)))] [] := by
  refine callOK (n := 17) (rs := [.tmp 4]) (nb := 0) (V := []) Try.func6 rfl (by kernel_rfl) rfl rfl rfl rfl (Nat.le_of_ble_eq_true rfl) (by decide) ?_
  unfold law01_RatioValid at H0
  refine lok_rt E0 (⟨17, mkS [(0, .x (.one (.p (pi num)))), (1, .x (.one (.p (pi den))))], mkH []⟩) ?_
  refine lok_rt E0 (⟨17, mkS [(5, .x (.one (.ptr 105 0)))], mkH [(105, .var [.p (pi num), .p (pi den)])]⟩) ?_
  replace H0 := bind_some H0
  obtain ⟨y, h_0, H0⟩ := H0
  replace H0 := bind_some H0
  obtain ⟨y1, h_1, H0⟩ := H0
  replace H0 := req_some H0
  obtain ⟨q_2, H0⟩ := H0
  refine lok_dt (Env.of E0 [⟨some 10, 23, [.agg [.p (pi num), .p (pi den)]], [], [.one (.p (.val (.bool y)))], [], True, fun _ => ok_ratio_Valid (api_Ratio.mk num den) y h_0, []⟩,
      ⟨some 12, 24, [.agg [.p (pi num), .p (pi den)]], [], [.one (.p (.val (.bool y1)))], [], True, fun _ => ok_ref01_Valid (api_Ratio.mk num den) y1 h_1, []⟩,
      ⟨some 15, 17, [], [], [.one (.p (.val (.bool ((law01_awake).getD default))))], [], (law01_awake).isSome = true, fun h => ok_law01_awake _ (isSome_get h), []⟩]) 3 (⟨17, mkS [(4, .x (.one (.p (.val (.bool ((y == y1) && ((law01_awake).getD default)))))))], mkH []⟩) (by kernel_rfl) (by kernel_rfl) ?_
  refine lok_ret ?_
  obtain rfl := Option.some.inj H0
  try simp only [thenL, blockL]
  exact fin_au _ (.inr rfl) [] (⟨17, mkS [(4, .x (.one (.p (.val (.bool ((y == y1) && ((law01_awake).getD default)))))))], mkH []⟩) rfl rfl imp_au
theorem ok_make_Tape_One (t : make_Tape) (n : Int) (r_ : Bool × make_Tape) (H0 : make_Tape_One t n = some r_) : CallOK Try.prog 62 [.one (.ptr 0 0), .one (.p (pi n))] [.var [.p (.sl 1 (List.map encI t.L)), .p (pi t.At)]] [.one (.p (.val (.bool r_.1)))] [some (.var [.p (.sl 1 (List.map encI r_.2.L)), .p (pi r_.2.At)])] := by
  refine callOK (n := 11) (rs := [.tmp 4]) (nb := 1) (V := [0]) Try.func62 rfl (by kernel_rfl) rfl rfl rfl rfl (Nat.le_of_ble_eq_true rfl) (by decide) ?_
  unfold make_Tape_One at H0
  refine lok_rt E0 (⟨11, mkS [(0, .x (.one (.ptr 0 0))), (1, .x (.one (.p (pi n))))], mkH [(0, .var [.p (.sl 1 (List.map encI t.L)), .p (pi t.At)])]⟩) ?_
  replace H0 := bind_some H0
  obtain ⟨⟨y, y1⟩, h_0, H0⟩ := H0
  try dsimp only at H0
  refine lok_rt (Env.of E0 [⟨some 7, 79, [.one (.ptr 0 0), .one (.p (pi n))], [.var [.p (.sl 1 (List.map encI t.L)), .p (pi t.At)]], [.one (.p (pi y))], [some (.var [.p (.sl 1 (List.map encI y1.L)), .p (pi y1.At)])], True, fun _ => ok_make_Tape_Next t n (y, y1) h_0, []⟩]) (⟨11, mkS [(4, .x (.one (.p (.val (.bool (y == (IntKind.i64.wrap (n - (1 : Int)))))))))], mkH [(0, .var [.p (.sl 1 (List.map encI y1.L)), .p (pi y1.At)])]⟩) ?_
  refine lok_ret ?_
  obtain rfl := Option.some.inj H0
  try simp only [thenL, blockL]
  exact fin_au _ (.inr rfl) [0] (⟨11, mkS [(4, .x (.one (.p (.val (.bool (y == (IntKind.i64.wrap (n - (1 : Int)))))))))], mkH [(0, .var [.p (.sl 1 (List.map encI y1.L)), .p (pi y1.At)])]⟩) rfl rfl imp_au
theorem ok_make_Tape_Pick (t : make_Tape) (l : List Int) (r_ : Int × make_Tape) (H0 : make_Tape_Pick t l = some r_) : CallOK Try.prog 81 [.one (.ptr 0 0), .one (.p (.sl 1 (List.map encI l)))] [.var [.p (.sl 1 (List.map encI t.L)), .p (pi t.At)]] [.one (.p (pi r_.1))] [some (.var [.p (.sl 1 (List.map encI r_.2.L)), .p (pi r_.2.At)])] := by
  refine callOK (n := 12) (rs := [.tmp 4]) (nb := 1) (V := [0]) Try.func81 rfl (by kernel_rfl) rfl rfl rfl rfl (Nat.le_of_ble_eq_true rfl) (by decide) ?_
  unfold make_Tape_Pick at H0
  refine lok_rt E0 (⟨12, mkS [(0, .x (.one (.ptr 0 0))), (1, .x (.one (.p (.sl 1 (List.map encI l)))))], mkH [(0, .var [.p (.sl 1 (List.map encI t.L)), .p (pi t.At)])]⟩) ?_
  replace H0 := bind_some H0
  obtain ⟨⟨y, y1⟩, h_0, H0⟩ := H0
  try dsimp only at H0
  replace H0 := req_some H0
  obtain ⟨q_1, H0⟩ := H0
  refine lok_rt (Env.of E0 [⟨some 9, 79, [.one (.ptr 0 0), .one (.p (pi (l.length : Int)))], [.var [.p (.sl 1 (List.map encI t.L)), .p (pi t.At)]], [.one (.p (pi y))], [some (.var [.p (.sl 1 (List.map encI y1.L)), .p (pi y1.At)])], True, fun _ => ok_make_Tape_Next t (l.length : Int) (y, y1) h_0, []⟩]) (⟨12, mkS [(4, .x (.one (.p (pi (ix l y)))))], mkH [(0, .var [.p (.sl 1 (List.map encI y1.L)), .p (pi y1.At)])]⟩) ?_
  refine lok_ret ?_
  obtain rfl := Option.some.inj H0
  try simp only [thenL, blockL]
  exact fin_au _ (.inr rfl) [0] (⟨12, mkS [(4, .x (.one (.p (pi (ix l y)))))], mkH [(0, .var [.p (.sl 1 (List.map encI y1.L)), .p (pi y1.At)])]⟩) rfl rfl imp_au
theorem ok_make_Tape_Ratio (t : make_Tape) (r_ : api_Ratio × make_Tape) (H0 : make_Tape_Ratio t = some r_) : CallOK Try.prog 50 [.one (.ptr 0 0)] [.var [.p (.sl 1 (List.map encI t.L)), .p (pi t.At)]] [.agg [.p (pi r_.1.Num), .p (pi r_.1.Den)]] [some (.var [.p (.sl 1 (List.map encI r_.2.L)), .p (pi r_.2.At)])] := by
  refine callOK (n := 31) (rs := [.cell 2 35]) (nb := 1) (V := [0]) Try.func50 rfl (by kernel_rfl) rfl rfl rfl rfl (Nat.le_of_ble_eq_true rfl) (by decide) ?_
  unfold make_Tape_Ratio at H0
  refine lok_rt E0 (⟨31, mkS [(0, .x (.one (.ptr 0 0))), (2, .x (.one (.ptr 102 0)))], mkH [(0, .var [.p (.sl 1 (List.map encI t.L)), .p (pi t.At)]), (102, .var [.p (pi (0 : Int)), .p (pi (0 : Int))])]⟩) ?_
  replace H0 := bind_some H0
  obtain ⟨⟨y, y1⟩, h_0, H0⟩ := H0
  try dsimp only at H0
  replace H0 := bind_some H0
  obtain ⟨⟨y2, y3⟩, h_1, H0⟩ := H0
  try dsimp only at H0
  refine lok_rt (Env.of E0 [⟨some 8, 55, [.one (.ptr 0 0), .one (.p (pi (-9 : Int))), .one (.p (pi (9 : Int)))], [.var [.p (.sl 1 (List.map encI t.L)), .p (pi t.At)]], [.one (.p (pi y))], [some (.var [.p (.sl 1 (List.map encI y1.L)), .p (pi y1.At)])], True, fun _ => ok_make_Tape_Range t (-9 : Int) (9 : Int) (y, y1) h_0, []⟩,
      ⟨some 10, 55, [.one (.ptr 0 0), .one (.p (pi (1 : Int))), .one (.p (pi (9 : Int)))], [.var [.p (.sl 1 (List.map encI y1.L)), .p (pi y1.At)]], [.one (.p (pi y2))], [some (.var [.p (.sl 1 (List.map encI y3.L)), .p (pi y3.At)])], True, fun _ => ok_make_Tape_Range y1 (1 : Int) (9 : Int) (y2, y3) h_1, []⟩]) (⟨31, mkS [(0, .x (.one (.ptr 0 0))), (2, .x (.one (.ptr 102 0))), (3, .x (.one (.p (pi y)))), (4, .x (.one (.p (pi y2))))], mkH [(0, .var [.p (.sl 1 (List.map encI y3.L)), .p (pi y3.At)]), (102, .var [.p (pi (0 : Int)), .p (pi (0 : Int))])]⟩) ?_
  refine lok_join (fun x_ : Int × (List Int) × Int => make_Tape_Ratio_j2 y2 x_.1 x_.2.1 x_.2.2 = some r_) (fun x_ => ⟨31, mkS [(0, .x (.one (.ptr 0 0))), (2, .x (.one (.ptr 102 0))), (3, .x (.one (.p (pi x_.1)))), (4, .x (.one (.p (pi y2))))], mkH [(0, .var [.p (.sl 1 (List.map encI x_.2.1)), .p (pi x_.2.2)]), (102, .var [.p (pi (0 : Int)), .p (pi (0 : Int))])]⟩) ?hymake_Tape_Ratio_j2 ?hxmake_Tape_Ratio_j2
  case hymake_Tape_Ratio_j2 =>
    rintro ⟨num, t1, t2⟩ H0
    try dsimp only at H0 ⊢
    unfold make_Tape_Ratio_j2 at H0
    refine lok_join (fun x_ : Int × (List Int) × Int => make_Tape_Ratio_j1 num x_.1 x_.2.1 x_.2.2 = some r_) (fun x_ => ⟨31, mkS [(2, .x (.one (.ptr 102 0))), (3, .x (.one (.p (pi num)))), (4, .x (.one (.p (pi x_.1))))], mkH [(0, .var [.p (.sl 1 (List.map encI x_.2.1)), .p (pi x_.2.2)]), (102, .var [.p (pi (0 : Int)), .p (pi (0 : Int))])]⟩) ?hymake_Tape_Ratio_j1 ?hxmake_Tape_Ratio_j1
    case hymake_Tape_Ratio_j1 =>
      rintro ⟨den, t3, t4⟩ H0
      try dsimp only at H0 ⊢
      unfold make_Tape_Ratio_j1 at H0
      replace H0 := bind_some H0
      obtain ⟨⟨y4, y5⟩, h_2, H0⟩ := H0
      try dsimp only at H0
      refine lok_rt (Env.of E0 [⟨some 24, 22, [.one (.p (pi num)), .one (.p (pi den))], [], [.agg [.p (pi y4.Num), .p (pi y4.Den)], .one (.p (pi y5))], [], True, fun _ => ok_ref01_New num den (y4, y5) h_2, []⟩]) (⟨31, mkS [(2, .x (.one (.ptr 102 0))), (5, .x (.one (.ptr 105 0))), (6, .x (.one (.p (pi y5))))], mkH [(0, .var [.p (.sl 1 (List.map encI t3)), .p (pi t4)]), (102, .var [.p (pi (0 : Int)), .p (pi (0 : Int))]), (105, .var [.p (pi y4.Num), .p (pi y4.Den)])]⟩) ?_
      refine lok_seq ?_
      refine lok_rt E0 (⟨31, mkS [(2, .x (.one (.ptr 102 0))), (5, .x (.one (.ptr 105 0))), (28, .x (.one (.p (.val (.bool (y5 != (0 : Int)))))))], mkH [(0, .var [.p (.sl 1 (List.map encI t3)), .p (pi t4)]), (102, .var [.p (pi (0 : Int)), .p (pi (0 : Int))]), (105, .var [.p (pi y4.Num), .p (pi y4.Den)])]⟩) ?_
      refine lok_c (y5 != (0 : Int)) ?_ ?_
      · intro b_3
        replace H0 := cpos H0 b_3
        refine lok_rt E0 (⟨31, mkS [(2, .x (.one (.ptr 102 0)))], mkH [(0, .var [.p (.sl 1 (List.map encI t3)), .p (pi t4)]), (102, .var [.p (pi (1 : Int)), .p (pi (1 : Int))])]⟩) ?_
        refine lok_ret ?_
        obtain rfl := Option.some.inj H0
        try simp only [thenL, blockL]
        exact fin_au _ (.inr rfl) [0] (⟨31, mkS [(2, .x (.one (.ptr 102 0)))], mkH [(0, .var [.p (.sl 1 (List.map encI t3)), .p (pi t4)]), (102, .var [.p (pi (1 : Int)), .p (pi (1 : Int))])]⟩) rfl rfl imp_au
      · intro b_3
        replace H0 := cneg H0 b_3
        refine lok_skip ?_
        try simp only [thenL, blockL, ↓reduceIte, reduceCtorEq]
        refine lok_rt E0 (⟨31, mkS [(2, .x (.one (.ptr 102 0)))], mkH [(0, .var [.p (.sl 1 (List.map encI t3)), .p (pi t4)]), (102, .var [.p (pi y4.Num), .p (pi y4.Den)])]⟩) ?_
        refine lok_ret ?_
        obtain rfl := Option.some.inj H0
        try simp only [thenL, blockL]
        exact fin_au _ (.inr rfl) [0] (⟨31, mkS [(2, .x (.one (.ptr 102 0)))], mkH [(0, .var [.p (.sl 1 (List.map encI t3)), .p (pi t4)]), (102, .var [.p (pi y4.Num), .p (pi y4.Den)])]⟩) rfl rfl imp_au
    case hxmake_Tape_Ratio_j1 =>
      replace H0 := bind_some H0
      obtain ⟨⟨y6, y7⟩, h_4, H0⟩ := H0
      try dsimp only at H0
      refine lok_rt (Env.of E0 [⟨some 17, 62, [.one (.ptr 0 0), .one (.p (pi (4 : Int)))], [.var [.p (.sl 1 (List.map encI t1)), .p (pi t2)]], [.one (.p (.val (.bool y6)))], [some (.var [.p (.sl 1 (List.map encI y7.L)), .p (pi y7.At)])], True, fun _ => ok_make_Tape_One (make_Tape.mk t1 t2) (4 : Int) (y6, y7) h_4, []⟩]) (⟨31, mkS [(0, .x (.one (.ptr 0 0))), (2, .x (.one (.ptr 102 0))), (3, .x (.one (.p (pi num)))), (4, .x (.one (.p (pi y2)))), (17, .x (.one (.p (.val (.bool y6)))))], mkH [(0, .var [.p (.sl 1 (List.map encI y7.L)), .p (pi y7.At)]), (102, .var [.p (pi (0 : Int)), .p (pi (0 : Int))])]⟩) ?_
      refine lok_c y6 ?_ ?_
      · intro b_6
        replace H0 := cpos H0 b_6
        replace H0 := bind_some H0
        obtain ⟨⟨y8, y9⟩, h_5, H0⟩ := H0
        try dsimp only at H0
        refine lok_rl (Env.of E0 [⟨some 20, 81, [.one (.ptr 0 0), .one (.p (.sl 1 (List.map encI ([(1152921504606846976 : Int), (1152921504606846975 : Int), (576460752303423488 : Int), (1073741824 : Int), (1000000000 : Int), (1000000007 : Int), (432345564227567616 : Int), (1152921504606846869 : Int)]))))], [.var [.p (.sl 1 (List.map encI y7.L)), .p (pi y7.At)]], [.one (.p (pi y8))], [some (.var [.p (.sl 1 (List.map encI y9.L)), .p (pi y9.At)])], True, fun _ => ok_make_Tape_Pick y7 ([(1152921504606846976 : Int), (1152921504606846975 : Int), (576460752303423488 : Int), (1073741824 : Int), (1000000000 : Int), (1000000007 : Int), (432345564227567616 : Int), (1152921504606846869 : Int)]) (y8, y9) h_5, []⟩]) (⟨31, mkS [(2, .x (.one (.ptr 102 0))), (3, .x (.one (.p (pi num)))), (4, .x (.one (.p (pi y8))))], mkH [(0, .var [.p (.sl 1 (List.map encI y9.L)), .p (pi y9.At)]), (102, .var [.p (pi (0 : Int)), .p (pi (0 : Int))])]⟩) ?_
        try simp only [thenL, blockL, ↓reduceIte, reduceCtorEq]
        exact ⟨(y8, y9.L, y9.At), H0, imp_au⟩
      · intro b_6
        replace H0 := cneg H0 b_6
        refine lok_skip ?_
        try simp only [thenL, blockL, ↓reduceIte, reduceCtorEq]
        exact ⟨(y2, y7.L, y7.At), H0, imp_au⟩
  case hxmake_Tape_Ratio_j2 =>
    replace H0 := bind_some H0
    obtain ⟨⟨y10, y11⟩, h_7, H0⟩ := H0
    try dsimp only at H0
    refine lok_rt (Env.of E0 [⟨some 12, 62, [.one (.ptr 0 0), .one (.p (pi (4 : Int)))], [.var [.p (.sl 1 (List.map encI y3.L)), .p (pi y3.At)]], [.one (.p (.val (.bool y10)))], [some (.var [.p (.sl 1 (List.map encI y11.L)), .p (pi y11.At)])], True, fun _ => ok_make_Tape_One y3 (4 : Int) (y10, y11) h_7, []⟩]) (⟨31, mkS [(0, .x (.one (.ptr 0 0))), (2, .x (.one (.ptr 102 0))), (3, .x (.one (.p (pi y)))), (4, .x (.one (.p (pi y2)))), (12, .x (.one (.p (.val (.bool y10)))))], mkH [(0, .var [.p (.sl 1 (List.map encI y11.L)), .p (pi y11.At)]), (102, .var [.p (pi (0 : Int)), .p (pi (0 : Int))])]⟩) ?_
    refine lok_c y10 ?_ ?_
    · intro b_9
      replace H0 := cpos H0 b_9
      replace H0 := bind_some H0
      obtain ⟨⟨y12, y13⟩, h_8, H0⟩ := H0
      try dsimp only at H0
      refine lok_rl (Env.of E0 [⟨some 15, 81, [.one (.ptr 0 0), .one (.p (.sl 1 (List.map encI ([(1152921504606846976 : Int), (1152921504606846975 : Int), (-1152921504606846976 : Int), (576460752303423488 : Int), (1073741824 : Int), (3486784401 : Int), (-1000000007 : Int), (1152921504606846883 : Int)]))))], [.var [.p (.sl 1 (List.map encI y11.L)), .p (pi y11.At)]], [.one (.p (pi y12))], [some (.var [.p (.sl 1 (List.map encI y13.L)), .p (pi y13.At)])], True, fun _ => ok_make_Tape_Pick y11 ([(1152921504606846976 : Int), (1152921504606846975 : Int), (-1152921504606846976 : Int), (576460752303423488 : Int), (1073741824 : Int), (3486784401 : Int), (-1000000007 : Int), (1152921504606846883 : Int)]) (y12, y13) h_8, []⟩]) (⟨31, mkS [(0, .x (.one (.ptr 0 0))), (2, .x (.one (.ptr 102 0))), (3, .x (.one (.p (pi y12)))), (4, .x (.one (.p (pi y2))))], mkH [(0, .var [.p (.sl 1 (List.map encI y13.L)), .p (pi y13.At)]), (102, .var [.p (pi (0 : Int)), .p (pi (0 : Int))])]⟩) ?_
      try simp only [thenL, blockL, ↓reduceIte, reduceCtorEq]
      exact ⟨(y12, y13.L, y13.At), H0, imp_au⟩
    · intro b_9
      replace H0 := cneg H0 b_9
      refine lok_skip ?_
      try simp only [thenL, blockL, ↓reduceIte, reduceCtorEq]
      exact ⟨(y, y11.L, y11.At), H0, imp_au⟩
theorem ok_make_Tape_Wild (t : make_Tape) (r_ : Int × make_Tape) (H0 : make_Tape_Wild t = some r_) : CallOK Try.prog 84 [.one (.ptr 0 0)] [.var [.p (.sl 1 (List.map encI t.L)), .p (pi t.At)]] [.one (.p (pi r_.1))] [some (.var [.p (.sl 1 (List.map encI r_.2.L)), .p (pi r_.2.At)])] := by
  refine callOK (n := 6) (rs := [.tmp 2]) (nb := 1) (V := [0]) Try.func84 rfl (by kernel_rfl) rfl rfl rfl rfl (Nat.le_of_ble_eq_true rfl) (by decide) ?_
  unfold make_Tape_Wild at H0
  refine lok_rt E0 (⟨6, mkS [(0, .x (.one (.ptr 0 0)))], mkH [(0, .var [.p (.sl 1 (List.map encI t.L)), .p (pi t.At)])]⟩) ?_
  replace H0 := bind_some H0
  obtain ⟨⟨y, y1⟩, h_0, H0⟩ := H0
  try dsimp only at H0
  refine lok_rt (Env.of E0 [⟨some 5, 81, [.one (.ptr 0 0), .one (.p (.sl 1 (List.map encI ([(-1 : Int), (0 : Int), (1 : Int), (2 : Int), (31 : Int), (32 : Int), (99 : Int), (100 : Int), (200 : Int), (201 : Int), (9999 : Int), (10000 : Int), (1000000 : Int), (1000001 : Int), (1152921504606846976 : Int), (1152921504606846977 : Int), (-1152921504606846976 : Int), (9223372036854775807 : Int), (-9223372036854775808 : Int)]))))], [.var [.p (.sl 1 (List.map encI t.L)), .p (pi t.At)]], [.one (.p (pi y))], [some (.var [.p (.sl 1 (List.map encI y1.L)), .p (pi y1.At)])], True, fun _ => ok_make_Tape_Pick t ([(-1 : Int), (0 : Int), (1 : Int), (2 : Int), (31 : Int), (32 : Int), (99 : Int), (100 : Int), (200 : Int), (201 : Int), (9999 : Int), (10000 : Int), (1000000 : Int), (1000001 : Int), (1152921504606846976 : Int), (1152921504606846977 : Int), (-1152921504606846976 : Int), (9223372036854775807 : Int), (-9223372036854775808 : Int)]) (y, y1) h_0, []⟩]) (⟨6, mkS [(2, .x (.one (.p (pi y))))], mkH [(0, .var [.p (.sl 1 (List.map encI y1.L)), .p (pi y1.At)])]⟩) ?_
  refine lok_ret ?_
  obtain rfl := Option.some.inj H0
  try simp only [thenL, blockL]
  exact fin_au _ (.inr rfl) [0] (⟨6, mkS [(2, .x (.one (.p (pi y))))], mkH [(0, .var [.p (.sl 1 (List.map encI y1.L)), .p (pi y1.At)])]⟩) rfl rfl imp_au
theorem ok_make_Tape_Spoil (t : make_Tape) (x : Int) (n : Int) (r_ : Int × make_Tape) (H0 : make_Tape_Spoil t x n = some r_) : CallOK Try.prog 63 [.one (.ptr 0 0), .one (.p (pi x)), .one (.p (pi n))] [.var [.p (.sl 1 (List.map encI t.L)), .p (pi t.At)]] [.one (.p (pi r_.1))] [some (.var [.p (.sl 1 (List.map encI r_.2.L)), .p (pi r_.2.At)])] := by
  refine callOK (n := 17) (rs := [.tmp 6]) (nb := 1) (V := [0]) Try.func63 rfl (by kernel_rfl) rfl rfl rfl rfl (Nat.le_of_ble_eq_true rfl) (by decide) ?_
  unfold make_Tape_Spoil at H0
  refine lok_rt E0 (⟨17, mkS [(0, .x (.one (.ptr 0 0))), (1, .x (.one (.p (pi x)))), (2, .x (.one (.p (pi n))))], mkH [(0, .var [.p (.sl 1 (List.map encI t.L)), .p (pi t.At)])]⟩) ?_
  refine lok_seq ?_
  rcases bcases (decide ((0 : Int) < n)) with g_0 | g_0
  · replace H0 := cpos H0 g_0
    replace H0 := bind_some H0
    obtain ⟨⟨y, y1⟩, h_1, H0⟩ := H0
    try dsimp only at H0
    refine lok_rtg (Env.of E0 [⟨some 12, 62, [.one (.ptr 0 0), .one (.p (pi n))], [.var [.p (.sl 1 (List.map encI t.L)), .p (pi t.At)]], [.one (.p (.val (.bool y)))], [some (.var [.p (.sl 1 (List.map encI y1.L)), .p (pi y1.At)])], True, fun _ => ok_make_Tape_One t n (y, y1) h_1, []⟩]) g_0 (⟨17, mkS [(0, .x (.one (.ptr 0 0))), (1, .x (.one (.p (pi x)))), (13, .x (.one (.p (.val (.bool y)))))], mkH [(0, .var [.p (.sl 1 (List.map encI y1.L)), .p (pi y1.At)])]⟩) ?_
    refine lok_c y ?_ ?_
    · intro b_3
      replace H0 := cpos H0 b_3
      replace H0 := bind_some H0
      obtain ⟨⟨y2, y3⟩, h_2, H0⟩ := H0
      try dsimp only at H0
      refine lok_rt (Env.of E0 [⟨some 15, 84, [.one (.ptr 0 0)], [.var [.p (.sl 1 (List.map encI y1.L)), .p (pi y1.At)]], [.one (.p (pi y2))], [some (.var [.p (.sl 1 (List.map encI y3.L)), .p (pi y3.At)])], True, fun _ => ok_make_Tape_Wild y1 (y2, y3) h_2, []⟩]) (⟨17, mkS [(6, .x (.one (.p (pi y2))))], mkH [(0, .var [.p (.sl 1 (List.map encI y3.L)), .p (pi y3.At)])]⟩) ?_
      refine lok_ret ?_
      obtain rfl := Option.some.inj H0
      try simp only [thenL, blockL]
      exact fin_au _ (.inr rfl) [0] (⟨17, mkS [(6, .x (.one (.p (pi y2))))], mkH [(0, .var [.p (.sl 1 (List.map encI y3.L)), .p (pi y3.At)])]⟩) rfl rfl imp_au
    · intro b_3
      replace H0 := cneg H0 b_3
      refine lok_skip ?_
      try simp only [thenL, blockL, ↓reduceIte, reduceCtorEq]
      refine lok_rt E0 (⟨17, mkS [(6, .x (.one (.p (pi x))))], mkH [(0, .var [.p (.sl 1 (List.map encI y1.L)), .p (pi y1.At)])]⟩) ?_
      refine lok_ret ?_
      obtain rfl := Option.some.inj H0
      try simp only [thenL, blockL]
      exact fin_au _ (.inr rfl) [0] (⟨17, mkS [(6, .x (.one (.p (pi x))))], mkH [(0, .var [.p (.sl 1 (List.map encI y1.L)), .p (pi y1.At)])]⟩) rfl rfl imp_au
  · replace H0 := cneg H0 g_0
    refine lok_rtg E0 g_0 (⟨17, mkS [(0, .x (.one (.ptr 0 0))), (1, .x (.one (.p (pi x)))), (13, .x (.one (.p (.val (.bool false)))))], mkH [(0, .var [.p (.sl 1 (List.map encI t.L)), .p (pi t.At)])]⟩) ?_
    refine lok_c false ?_ ?_
    · intro h; exact absurd h (by decide)
    · intro _
      refine lok_skip ?_
      try simp only [thenL, blockL, ↓reduceIte, reduceCtorEq]
      refine lok_rt E0 (⟨17, mkS [(6, .x (.one (.p (pi x))))], mkH [(0, .var [.p (.sl 1 (List.map encI t.L)), .p (pi t.At)])]⟩) ?_
      refine lok_ret ?_
      obtain rfl := Option.some.inj H0
      try simp only [thenL, blockL]
      exact fin_au _ (.inr rfl) [0] (⟨17, mkS [(6, .x (.one (.p (pi x))))], mkH [(0, .var [.p (.sl 1 (List.map encI t.L)), .p (pi t.At)])]⟩) rfl rfl imp_au
theorem ok_make_Tape_Loose (t : make_Tape) (r_ : api_Ratio × make_Tape) (H0 : make_Tape_Loose t = some r_) : CallOK Try.prog 25 [.one (.ptr 0 0)] [.var [.p (.sl 1 (List.map encI t.L)), .p (pi t.At)]] [.agg [.p (pi r_.1.Num), .p (pi r_.1.Den)]] [some (.var [.p (.sl 1 (List.map encI r_.2.L)), .p (pi r_.2.At)])] := by
  refine callOK (n := 18) (rs := [.cell 2 35]) (nb := 1) (V := [0]) Try.func25 rfl (by kernel_rfl) rfl rfl rfl rfl (Nat.le_of_ble_eq_true rfl) (by decide) ?_
  unfold make_Tape_Loose at H0
  refine lok_rt E0 (⟨18, mkS [(0, .x (.one (.ptr 0 0))), (2, .x (.one (.ptr 102 0)))], mkH [(0, .var [.p (.sl 1 (List.map encI t.L)), .p (pi t.At)]), (102, .var [.p (pi (0 : Int)), .p (pi (0 : Int))])]⟩) ?_
  replace H0 := bind_some H0
  obtain ⟨⟨y, y1⟩, h_0, H0⟩ := H0
  try dsimp only at H0
  refine lok_rt (Env.of E0 [⟨some 5, 50, [.one (.ptr 0 0)], [.var [.p (.sl 1 (List.map encI t.L)), .p (pi t.At)]], [.agg [.p (pi y.Num), .p (pi y.Den)]], [some (.var [.p (.sl 1 (List.map encI y1.L)), .p (pi y1.At)])], True, fun _ => ok_make_Tape_Ratio t (y, y1) h_0, []⟩]) (⟨18, mkS [(0, .x (.one (.ptr 0 0))), (2, .x (.one (.ptr 102 0))), (3, .x (.one (.ptr 103 0)))], mkH [(0, .var [.p (.sl 1 (List.map encI y1.L)), .p (pi y1.At)]), (102, .var [.p (pi (0 : Int)), .p (pi (0 : Int))]), (103, .var [.p (pi y.Num), .p (pi y.Den)])]⟩) ?_
  refine lok_seq ?_
  replace H0 := bind_some H0
  obtain ⟨⟨y2, y3⟩, h_1, H0⟩ := H0
  try dsimp only at H0
  refine lok_rt (Env.of E0 [⟨some 7, 62, [.one (.ptr 0 0), .one (.p (pi (3 : Int)))], [.var [.p (.sl 1 (List.map encI y1.L)), .p (pi y1.At)]], [.one (.p (.val (.bool y2)))], [some (.var [.p (.sl 1 (List.map encI y3.L)), .p (pi y3.At)])], True, fun _ => ok_make_Tape_One y1 (3 : Int) (y2, y3) h_1, []⟩]) (⟨18, mkS [(0, .x (.one (.ptr 0 0))), (2, .x (.one (.ptr 102 0))), (3, .x (.one (.ptr 103 0))), (7, .x (.one (.p (.val (.bool y2)))))], mkH [(0, .var [.p (.sl 1 (List.map encI y3.L)), .p (pi y3.At)]), (102, .var [.p (pi (0 : Int)), .p (pi (0 : Int))]), (103, .var [.p (pi y.Num), .p (pi y.Den)])]⟩) ?_
  refine lok_c y2 ?_ ?_
  · intro b_6
    replace H0 := cpos H0 b_6
    replace H0 := bind_some H0
    obtain ⟨⟨y4, y5⟩, h_2, H0⟩ := H0
    try dsimp only at H0
    replace H0 := bind_some H0
    obtain ⟨⟨y6, y7⟩, h_3, H0⟩ := H0
    try dsimp only at H0
    replace H0 := bind_some H0
    obtain ⟨⟨y8, y9⟩, h_4, H0⟩ := H0
    try dsimp only at H0
    replace H0 := bind_some H0
    obtain ⟨⟨y10, y11⟩, h_5, H0⟩ := H0
    try dsimp only at H0
    refine lok_rt (Env.of E0 [⟨some 10, 55, [.one (.ptr 0 0), .one (.p (pi (-8 : Int))), .one (.p (pi (8 : Int)))], [.var [.p (.sl 1 (List.map encI y3.L)), .p (pi y3.At)]], [.one (.p (pi y4))], [some (.var [.p (.sl 1 (List.map encI y5.L)), .p (pi y5.At)])], True, fun _ => ok_make_Tape_Range y3 (-8 : Int) (8 : Int) (y4, y5) h_2, []⟩,
      ⟨some 11, 63, [.one (.ptr 0 0), .one (.p (pi y4)), .one (.p (pi (3 : Int)))], [.var [.p (.sl 1 (List.map encI y5.L)), .p (pi y5.At)]], [.one (.p (pi y6))], [some (.var [.p (.sl 1 (List.map encI y7.L)), .p (pi y7.At)])], True, fun _ => ok_make_Tape_Spoil y5 y4 (3 : Int) (y6, y7) h_3, []⟩,
      ⟨some 14, 55, [.one (.ptr 0 0), .one (.p (pi (-1 : Int))), .one (.p (pi (8 : Int)))], [.var [.p (.sl 1 (List.map encI y7.L)), .p (pi y7.At)]], [.one (.p (pi y8))], [some (.var [.p (.sl 1 (List.map encI y9.L)), .p (pi y9.At)])], True, fun _ => ok_make_Tape_Range y7 (-1 : Int) (8 : Int) (y8, y9) h_4, []⟩,
      ⟨some 15, 63, [.one (.ptr 0 0), .one (.p (pi y8)), .one (.p (pi (3 : Int)))], [.var [.p (.sl 1 (List.map encI y9.L)), .p (pi y9.At)]], [.one (.p (pi y10))], [some (.var [.p (.sl 1 (List.map encI y11.L)), .p (pi y11.At)])], True, fun _ => ok_make_Tape_Spoil y9 y8 (3 : Int) (y10, y11) h_5, []⟩]) (⟨18, mkS [(2, .x (.one (.ptr 102 0)))], mkH [(0, .var [.p (.sl 1 (List.map encI y11.L)), .p (pi y11.At)]), (102, .var [.p (pi y6), .p (pi y10)])]⟩) ?_
    refine lok_ret ?_
    obtain rfl := Option.some.inj H0
    try simp only [thenL, blockL]
    exact fin_au _ (.inr rfl) [0] (⟨18, mkS [(2, .x (.one (.ptr 102 0)))], mkH [(0, .var [.p (.sl 1 (List.map encI y11.L)), .p (pi y11.At)]), (102, .var [.p (pi y6), .p (pi y10)])]⟩) rfl rfl imp_au
  · intro b_6
    replace H0 := cneg H0 b_6
    refine lok_skip ?_
    try simp only [thenL, blockL, ↓reduceIte, reduceCtorEq]
    refine lok_rt E0 (⟨18, mkS [(2, .x (.one (.ptr 102 0)))], mkH [(0, .var [.p (.sl 1 (List.map encI y3.L)), .p (pi y3.At)]), (102, .var [.p (pi y.Num), .p (pi y.Den)])]⟩) ?_
    refine lok_ret ?_
    obtain rfl := Option.some.inj H0
    try simp only [thenL, blockL]
    exact fin_au _ (.inr rfl) [0] (⟨18, mkS [(2, .x (.one (.ptr 102 0)))], mkH [(0, .var [.p (.sl 1 (List.map encI y3.L)), .p (pi y3.At)]), (102, .var [.p (pi y.Num), .p (pi y.Den)])]⟩) rfl rfl imp_au
theorem ok_ratio_toFloor (floor : Int) (rest : Int) (den : Int) (r_ : Int) (H0 : ratio_toFloor floor rest den = some r_) : CallOK Try.prog 65 [.one (.p (pi floor)), .one (.p (pi rest)), .one (.p (pi den))] [] [.one (.p (pi r_))] [] := by
  refine callOK (n := 8) (rs := [.tmp 6]) (nb := 0) (V := []) Try.func65 rfl (by kernel_rfl) rfl rfl rfl rfl (Nat.le_of_ble_eq_true rfl) (by decide) ?_
  unfold ratio_toFloor at H0
  refine lok_rt E0 (⟨8, mkS [(0, .x (.one (.p (pi floor))))], mkH []⟩) ?_
  refine lok_rt E0 (⟨8, mkS [(6, .x (.one (.p (pi floor))))], mkH []⟩) ?_
  refine lok_ret ?_
  obtain rfl := Option.some.inj H0
  try simp only [thenL, blockL]
  exact fin_au _ (.inr rfl) [] (⟨8, mkS [(6, .x (.one (.p (pi floor))))], mkH []⟩) rfl rfl imp_au
theorem ok_ratio_rounded_ratio_toFloor (a : api_Ratio) (r_ : Int) (H0 : ratio_rounded_ratio_toFloor a = some r_) : CallOK Try.prog 64 [.agg [.p (pi a.Num), .p (pi a.Den)], .one (.fn 65 [])] [] [.one (.p (pi r_))] [] := by
  refine callOK (n := 34) (rs := [.tmp 4]) (nb := 0) (V := []) Try.func64 rfl (by kernel_rfl) rfl rfl rfl rfl (Nat.le_of_ble_eq_true rfl) (by decide) ?_
  unfold ratio_rounded_ratio_toFloor at H0
  refine lok_rt E0 (⟨34, mkS [(1, .x (.one (.fn 65 []))), (2, .x (.one (.ptr 102 0)))], mkH [(102, .var [.p (pi a.Num), .p (pi a.Den)])]⟩) ?_
  refine lok_seq ?_
  replace H0 := bind_some H0
  obtain ⟨y, h_0, H0⟩ := H0
  refine lok_rt (Env.of E0 [⟨some 8, 23, [.agg [.p (pi a.Num), .p (pi a.Den)]], [], [.one (.p (.val (.bool y)))], [], True, fun _ => ok_ratio_Valid a y h_0, []⟩]) (⟨34, mkS [(1, .x (.one (.fn 65 []))), (2, .x (.one (.ptr 102 0))), (9, .x (.one (.p (.val (.bool (!y))))))], mkH [(102, .var [.p (pi a.Num), .p (pi a.Den)])]⟩) ?_
  refine lok_c (!y) ?_ ?_
  · intro b_5
    replace H0 := cpos H0 b_5
    refine lok_rt E0 (⟨34, mkS [(4, .x (.one (.p (pi (0 : Int)))))], mkH []⟩) ?_
    refine lok_ret ?_
    obtain rfl := Option.some.inj H0
    try simp only [thenL, blockL]
    exact fin_au _ (.inr rfl) [] (⟨34, mkS [(4, .x (.one (.p (pi (0 : Int)))))], mkH []⟩) rfl rfl imp_au
  · intro b_5
    replace H0 := cneg H0 b_5
    refine lok_skip ?_
    try simp only [thenL, blockL, ↓reduceIte, reduceCtorEq]
    replace H0 := req_some H0
    obtain ⟨q_4, H0⟩ := H0
    refine lok_dt E0 11 (⟨34, mkS [(1, .x (.one (.fn 65 []))), (2, .x (.one (.ptr 102 0))), (5, .x (.one (.p (pi (IntKind.i64.wrap (Int.tdiv a.Num a.Den)))))), (6, .x (.one (.p (pi (Int.tmod a.Num a.Den)))))], mkH [(102, .var [.p (pi a.Num), .p (pi a.Den)])]⟩) (by kernel_rfl) (by kernel_rfl) ?_
    refine lok_join (fun x_ : Int × Int => ratio_rounded_ratio_toFloor_j1 a x_.1 x_.2 = some r_) (fun x_ => ⟨34, mkS [(1, .x (.one (.fn 65 []))), (2, .x (.one (.ptr 102 0))), (5, .x (.one (.p (pi x_.1)))), (6, .x (.one (.p (pi x_.2))))], mkH [(102, .var [.p (pi a.Num), .p (pi a.Den)])]⟩) ?hyratio_rounded_ratio_toFloor_j1 ?hxratio_rounded_ratio_toFloor_j1
    case hyratio_rounded_ratio_toFloor_j1 =>
      rintro ⟨floor, rest⟩ H0
      try dsimp only at H0 ⊢
      unfold ratio_rounded_ratio_toFloor_j1 at H0
      replace H0 := bind_some H0
      obtain ⟨y1, h_1, H0⟩ := H0
      refine lok_rt (Env.of E0 [⟨some 33, 65, [.one (.p (pi floor)), .one (.p (pi rest)), .one (.p (pi a.Den))], [], [.one (.p (pi y1))], [], True, fun _ => ok_ratio_toFloor floor rest a.Den y1 h_1, []⟩]) (⟨34, mkS [(4, .x (.one (.p (pi y1))))], mkH []⟩) ?_
      refine lok_ret ?_
      obtain rfl := Option.some.inj H0
      try simp only [thenL, blockL]
      exact fin_au _ (.inr rfl) [] (⟨34, mkS [(4, .x (.one (.p (pi y1))))], mkH []⟩) rfl rfl imp_au
    case hxratio_rounded_ratio_toFloor_j1 =>
      refine lok_rt E0 (⟨34, mkS [(1, .x (.one (.fn 65 []))), (2, .x (.one (.ptr 102 0))), (5, .x (.one (.p (pi (IntKind.i64.wrap (Int.tdiv a.Num a.Den)))))), (6, .x (.one (.p (pi (Int.tmod a.Num a.Den))))), (21, .x (.one (.p (.val (.bool (decide ((Int.tmod a.Num a.Den) < (0 : Int))))))))], mkH [(102, .var [.p (pi a.Num), .p (pi a.Den)])]⟩) ?_
      refine lok_c (decide ((Int.tmod a.Num a.Den) < (0 : Int))) ?_ ?_
      · intro b_3
        replace H0 := cpos H0 b_3
        replace H0 := bindV_some H0
        obtain ⟨floor1, a_2, H0⟩ := H0
        refine lok_dlg E0 7 a_2 (⟨34, mkS [(1, .x (.one (.fn 65 []))), (2, .x (.one (.ptr 102 0))), (5, .x (.one (.p (pi floor1)))), (6, .x (.one (.p (pi (IntKind.i64.wrap ((Int.tmod a.Num a.Den) + a.Den))))))], mkH [(102, .var [.p (pi a.Num), .p (pi a.Den)])]⟩) (by kernel_rfl) (by kernel_rfl) ?_
        try simp only [thenL, blockL, ↓reduceIte, reduceCtorEq]
        exact ⟨(floor1, (IntKind.i64.wrap ((Int.tmod a.Num a.Den) + a.Den))), H0, imp_au⟩
      · intro b_3
        replace H0 := cneg H0 b_3
        refine lok_skip ?_
        try simp only [thenL, blockL, ↓reduceIte, reduceCtorEq]
        exact ⟨((IntKind.i64.wrap (Int.tdiv a.Num a.Den)), (Int.tmod a.Num a.Den)), H0, imp_au⟩
theorem ok_ratio_Floor (a : api_Ratio) (r_ : Int) (H0 : ratio_Floor a = some r_) : CallOK Try.prog 26 [.agg [.p (pi a.Num), .p (pi a.Den)]] [] [.one (.p (pi r_))] [] := by
  refine callOK (n := 5) (rs := [.tmp 2]) (nb := 0) (V := []) Try.func26 rfl (by kernel_rfl) rfl rfl rfl rfl (Nat.le_of_ble_eq_true rfl) (by decide) ?_
  unfold ratio_Floor at H0
  refine lok_rt E0 (⟨5, mkS [(1, .x (.one (.ptr 101 0)))], mkH [(101, .var [.p (pi a.Num), .p (pi a.Den)])]⟩) ?_
  replace H0 := bind_some H0
  obtain ⟨y, h_0, H0⟩ := H0
  refine lok_rt (Env.of E0 [⟨some 4, 64, [.agg [.p (pi a.Num), .p (pi a.Den)], .one (.fn 65 [])], [], [.one (.p (pi y))], [], True, fun _ => ok_ratio_rounded_ratio_toFloor a y h_0, []⟩]) (⟨5, mkS [(2, .x (.one (.p (pi y))))], mkH []⟩) ?_
  refine lok_ret ?_
  obtain rfl := Option.some.inj H0
  try simp only [thenL, blockL]
  exact fin_au _ (.inr rfl) [] (⟨5, mkS [(2, .x (.one (.p (pi y))))], mkH []⟩) rfl rfl imp_au
end Go.LS
