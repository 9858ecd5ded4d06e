/-
  The walks: the functions compute what the plain ones say. Condition: the plain function has a value.
-/
import Derived.Test.YtdfbbiahpcelmaaK1
import Derived.Test.YtdfbbiahpcelmaaD2
namespace Go.LS
open Go.Proofs
set_option linter.all false
set_option linter.unusedSimpArgs false
set_option linter.unusedVariables false
set_option maxRecDepth 20000

theorem ok_mark_Dice_Next (d : mark_Dice) (n : Int) (r_ : Int × mark_Dice) (H0 : mark_Dice_Next d n = some r_) : CallOK Try.prog 26 [.one (.ptr 0 0), .one (.p (pi n))] [.var [.p (.sl 1 (List.map encI d.L)), .p (pi d.At)]] [.one (.p (pi r_.1))] [some (.var [.p (.sl 1 (List.map encI r_.2.L)), .p (pi r_.2.At)])] := by
  refine callOK (n := 45) (rs := [.tmp 4]) (nb := 1) (V := [0]) Try.func26 rfl (by kernel_rfl) rfl rfl rfl rfl (Nat.le_of_ble_eq_true rfl) (by decide) ?_
  unfold mark_Dice_Next at H0
  refine lok_rt E0 (⟨45, mkS [(0, .x (.one (.ptr 0 0))), (1, .x (.one (.p (pi n))))], mkH [(0, .var [.p (.sl 1 (List.map encI d.L)), .p (pi d.At)])]⟩) ?_
  refine lok_seq ?_
  refine lok_dt E0 9 (⟨45, mkS [(0, .x (.one (.ptr 0 0))), (1, .x (.one (.p (pi n)))), (19, .x (.one (.p (.val (.bool ((decide ((d.L.length : Int) ≤ d.At)) || (decide (n < (1 : Int)))))))))], mkH [(0, .var [.p (.sl 1 (List.map encI d.L)), .p (pi d.At)])]⟩) (by kernel_rfl) (by kernel_rfl) ?_
  refine lok_c ((decide ((d.L.length : Int) ≤ d.At)) || (decide (n < (1 : Int)))) ?_ ?_
  · intro b_3
    replace H0 := cpos H0 b_3
    refine lok_rt E0 (⟨45, mkS [(4, .x (.one (.p (pi (0 : Int)))))], mkH [(0, .var [.p (.sl 1 (List.map encI d.L)), .p (pi d.At)])]⟩) ?_
    refine lok_ret ?_
    obtain rfl := Option.some.inj H0
    try simp only [thenL, blockL]
    exact fin_au _ (.inr rfl) [0] (⟨45, mkS [(4, .x (.one (.p (pi (0 : Int)))))], mkH [(0, .var [.p (.sl 1 (List.map encI d.L)), .p (pi d.At)])]⟩) rfl rfl imp_au
  · intro b_3
    replace H0 := cneg H0 b_3
    refine lok_skip ?_
    try simp only [thenL, blockL, ↓reduceIte, reduceCtorEq]
    replace H0 := req_some H0
    obtain ⟨⟨q_1, q_2⟩, H0⟩ := H0
    refine lok_dt E0 11 (⟨45, mkS [(0, .x (.one (.ptr 0 0))), (1, .x (.one (.p (pi n)))), (5, .x (.one (.p (pi (Int.tmod (ix d.L d.At) n)))))], mkH [(0, .var [.p (.sl 1 (List.map encI d.L)), .p (pi d.At)])]⟩) (by kernel_rfl) (by kernel_rfl) ?_
    refine lok_rt E0 (⟨45, mkS [(1, .x (.one (.p (pi n)))), (5, .x (.one (.p (pi (Int.tmod (ix d.L d.At) n)))))], mkH [(0, .var [.p (.sl 1 (List.map encI d.L)), .p (pi (IntKind.i64.wrap (d.At + (1 : Int))))])]⟩) ?_
    refine lok_join (fun x_ : Int => mark_Dice_Next_j1 d x_ = some r_) (fun x_ => ⟨45, mkS [(5, .x (.one (.p (pi x_))))], mkH [(0, .var [.p (.sl 1 (List.map encI d.L)), .p (pi (IntKind.i64.wrap (d.At + (1 : Int))))])]⟩) ?hymark_Dice_Next_j1 ?hxmark_Dice_Next_j1
    case hymark_Dice_Next_j1 =>
      rintro x H0
      try dsimp only at H0 ⊢
      unfold mark_Dice_Next_j1 at H0
      refine lok_rt E0 (⟨45, mkS [(4, .x (.one (.p (pi x))))], mkH [(0, .var [.p (.sl 1 (List.map encI d.L)), .p (pi (IntKind.i64.wrap (d.At + (1 : Int))))])]⟩) ?_
      refine lok_ret ?_
      obtain rfl := Option.some.inj H0
      try simp only [thenL, blockL]
      exact fin_au _ (.inr rfl) [0] (⟨45, mkS [(4, .x (.one (.p (pi x))))], mkH [(0, .var [.p (.sl 1 (List.map encI d.L)), .p (pi (IntKind.i64.wrap (d.At + (1 : Int))))])]⟩) rfl rfl imp_au
    case hxmark_Dice_Next_j1 =>
      refine lok_rt E0 (⟨45, mkS [(1, .x (.one (.p (pi n)))), (5, .x (.one (.p (pi (Int.tmod (ix d.L d.At) n))))), (40, .x (.one (.p (.val (.bool (decide ((Int.tmod (ix d.L d.At) n) < (0 : Int))))))))], mkH [(0, .var [.p (.sl 1 (List.map encI d.L)), .p (pi (IntKind.i64.wrap (d.At + (1 : Int))))])]⟩) ?_
      refine lok_c (decide ((Int.tmod (ix d.L d.At) n) < (0 : Int))) ?_ ?_
      · intro b_0
        replace H0 := cpos H0 b_0
        refine lok_rl E0 (⟨45, mkS [(5, .x (.one (.p (pi (IntKind.i64.wrap ((Int.tmod (ix d.L d.At) n) + n))))))], mkH [(0, .var [.p (.sl 1 (List.map encI d.L)), .p (pi (IntKind.i64.wrap (d.At + (1 : Int))))])]⟩) ?_
        try simp only [thenL, blockL, ↓reduceIte, reduceCtorEq]
        exact ⟨(IntKind.i64.wrap ((Int.tmod (ix d.L d.At) n) + n)), H0, imp_au⟩
      · intro b_0
        replace H0 := cneg H0 b_0
        refine lok_skip ?_
        try simp only [thenL, blockL, ↓reduceIte, reduceCtorEq]
        exact ⟨(Int.tmod (ix d.L d.At) n), H0, imp_au⟩
theorem ok_mark_Dice_Pick (d : mark_Dice) (l : List Int) (r_ : Int × mark_Dice) (H0 : mark_Dice_Pick d l = some r_) : CallOK Try.prog 40 [.one (.ptr 0 0), .one (.p (.sl 1 (List.map encI l)))] [.var [.p (.sl 1 (List.map encI d.L)), .p (pi d.At)]] [.one (.p (pi r_.1))] [some (.var [.p (.sl 1 (List.map encI r_.2.L)), .p (pi r_.2.At)])] := by
  refine callOK (n := 12) (rs := [.tmp 4]) (nb := 1) (V := [0]) Try.func40 rfl (by kernel_rfl) rfl rfl rfl rfl (Nat.le_of_ble_eq_true rfl) (by decide) ?_
  unfold mark_Dice_Pick at H0
  refine lok_rt E0 (⟨12, mkS [(0, .x (.one (.ptr 0 0))), (1, .x (.one (.p (.sl 1 (List.map encI l)))))], mkH [(0, .var [.p (.sl 1 (List.map encI d.L)), .p (pi d.At)])]⟩) ?_
  replace H0 := bind_some H0
  obtain ⟨⟨y, y1⟩, h_0, H0⟩ := H0
  try dsimp only at H0
  replace H0 := req_some H0
  obtain ⟨q_1, H0⟩ := H0
  refine lok_rt (Env.of E0 [⟨some 9, 26, [.one (.ptr 0 0), .one (.p (pi (l.length : Int)))], [.var [.p (.sl 1 (List.map encI d.L)), .p (pi d.At)]], [.one (.p (pi y))], [some (.var [.p (.sl 1 (List.map encI y1.L)), .p (pi y1.At)])], True, fun _ => ok_mark_Dice_Next d (l.length : Int) (y, y1) h_0, []⟩]) (⟨12, mkS [(4, .x (.one (.p (pi (ix l y)))))], mkH [(0, .var [.p (.sl 1 (List.map encI y1.L)), .p (pi y1.At)])]⟩) ?_
  refine lok_ret ?_
  obtain rfl := Option.some.inj H0
  try simp only [thenL, blockL]
  exact fin_au _ (.inr rfl) [0] (⟨12, mkS [(4, .x (.one (.p (pi (ix l y)))))], mkH [(0, .var [.p (.sl 1 (List.map encI y1.L)), .p (pi y1.At)])]⟩) rfl rfl imp_au
set_option maxHeartbeats 4000000 in
theorem ok_mark_Dice_Distribution (d : mark_Dice) (n : Int) (full : Bool) (r_ : api_Distribution × mark_Dice) (H0 : mark_Dice_Distribution d n full = some r_) : CallOK Try.prog 12 [.one (.ptr 0 0), .one (.p (pi n)), .one (.p (.val (.bool full)))] [.var [.p (.sl 1 (List.map encI d.L)), .p (pi d.At)]] [.agg [.p (.sl 1 (List.map encI r_.1.Counts))]] [some (.var [.p (.sl 1 (List.map encI r_.2.L)), .p (pi r_.2.At)])] := by
  refine callOK (n := 31) (rs := [.cell 6 26]) (nb := 1) (V := [0]) Try.func12 rfl (by kernel_rfl) rfl rfl rfl rfl (Nat.le_of_ble_eq_true rfl) (by decide) ?_
  unfold mark_Dice_Distribution at H0
  refine lok_rt E0 (⟨31, mkS [(0, .x (.one (.ptr 0 0))), (1, .x (.one (.p (pi n)))), (2, .x (.one (.p (.val (.bool full))))), (6, .x (.one (.ptr 106 0)))], mkH [(0, .var [.p (.sl 1 (List.map encI d.L)), .p (pi d.At)]), (106, .var [.p .nil])]⟩) ?_
  refine lok_rt E0 (⟨31, mkS [(0, .x (.one (.ptr 0 0))), (1, .x (.one (.p (pi n)))), (2, .x (.one (.p (.val (.bool full))))), (6, .x (.one (.ptr 106 0))), (7, .x (.one (.ptr 107 0)))], mkH [(0, .var [.p (.sl 1 (List.map encI d.L)), .p (pi d.At)]), (106, .var [.p .nil]), (107, .var [.p .nil])]⟩) ?_
  refine lok_rt E0 (⟨31, mkS [(0, .x (.one (.ptr 0 0))), (1, .x (.one (.p (pi n)))), (2, .x (.one (.p (.val (.bool full))))), (6, .x (.one (.ptr 106 0))), (7, .x (.one (.ptr 107 0))), (8, .x (.one (.p (pi (0 : Int)))))], mkH [(0, .var [.p (.sl 1 (List.map encI d.L)), .p (pi d.At)]), (106, .var [.p .nil]), (107, .var [.p .nil])]⟩) ?_
  refine lok_join (fun x_ : Int => mark_Dice_Distribution_j3 d n x_ = some r_) (fun x_ => ⟨31, mkS [(0, .x (.one (.ptr 0 0))), (1, .x (.one (.p (pi n)))), (6, .x (.one (.ptr 106 0))), (7, .x (.one (.ptr 107 0))), (8, .x (.one (.p (pi x_))))], mkH [(0, .var [.p (.sl 1 (List.map encI d.L)), .p (pi d.At)]), (106, .var [.p .nil]), (107, .var [.p .nil])]⟩) ?hymark_Dice_Distribution_j3 ?hxmark_Dice_Distribution_j3
  case hymark_Dice_Distribution_j3 =>
    rintro least H0
    try dsimp only at H0 ⊢
    unfold mark_Dice_Distribution_j3 at H0
    refine lok_join (fun x_ : (List Int) × Int × (List Int) => mark_Dice_Distribution_j1 x_.1 x_.2.1 x_.2.2 = some r_) (fun x_ => ⟨31, mkS [(6, .x (.one (.ptr 106 0))), (7, .x (.one (.ptr 107 0)))], mkH [(0, .var [.p (.sl 1 (List.map encI x_.1)), .p (pi x_.2.1)]), (106, .var [.p .nil]), (107, .var [.vw 128]), (128, .arr 1 (List.map encI x_.2.2))]⟩) ?hymark_Dice_Distribution_j1 ?hxmark_Dice_Distribution_j1
    case hymark_Dice_Distribution_j1 =>
      rintro ⟨d1, d2, w⟩ H0
      try dsimp only at H0 ⊢
      unfold mark_Dice_Distribution_j1 at H0
      refine lok_rt E0 (⟨31, mkS [(6, .x (.one (.ptr 106 0)))], mkH [(0, .var [.p (.sl 1 (List.map encI d1)), .p (pi d2)]), (106, .var [.vw 128]), (128, .arr 1 (List.map encI w))]⟩) ?_
      refine lok_ret ?_
      obtain rfl := Option.some.inj H0
      try simp only [thenL, blockL]
      exact fin_au _ (.inr rfl) [0] (⟨31, mkS [(6, .x (.one (.ptr 106 0)))], mkH [(0, .var [.p (.sl 1 (List.map encI d1)), .p (pi d2)]), (106, .var [.p (.sl 1 (List.map encI w))])]⟩) rfl rfl (Imp.trans (imp_frz 128 1 (List.map encI w)) imp_au)
    case hxmark_Dice_Distribution_j1 =>
      replace H0 := bind_some H0
      obtain ⟨⟨y, y1⟩, h_0, H0⟩ := H0
      try dsimp only at H0
      refine lok_rt (Env.of E0 [⟨some 14, 26, [.one (.ptr 0 0), .one (.p (pi (IntKind.i64.wrap (n + (1 : Int)))))], [.var [.p (.sl 1 (List.map encI d.L)), .p (pi d.At)]], [.one (.p (pi y))], [some (.var [.p (.sl 1 (List.map encI y1.L)), .p (pi y1.At)])], True, fun _ => ok_mark_Dice_Next d (IntKind.i64.wrap (n + (1 : Int))) (y, y1) h_0, []⟩]) (⟨31, mkS [(0, .x (.one (.ptr 0 0))), (6, .x (.one (.ptr 106 0))), (7, .x (.one (.ptr 107 0))), (8, .x (.one (.p (pi least)))), (9, .x (.one (.p (pi (IntKind.i64.wrap ((1 : Int) + y))))))], mkH [(0, .var [.p (.sl 1 (List.map encI y1.L)), .p (pi y1.At)]), (106, .var [.p .nil]), (107, .var [.p .nil])]⟩) ?_
      refine lok_block ?_
      replace H0 := bind_some H0
      obtain ⟨v_1, hv_1, H0⟩ := H0
      refine lok_iter (fun x_ => ⟨31, mkS [(0, .x (.one (.ptr 0 0))), (6, .x (.one (.ptr 106 0))), (7, .x (.one (.ptr 107 0))), (8, .x (.one (.p (pi least)))), (9, .x (.one (.p (pi x_.1))))], mkH [(0, .var [.p (.sl 1 (List.map encI x_.2.1)), .p (pi x_.2.2.1)]), (106, .var [.p .nil]), (107, .var [.vw 128]), (128, .arr 1 (List.map encI x_.2.2.2))]⟩) hv_1 imp_au ?_
      · rintro ⟨i, d3, d4, w1⟩ o_1 H1 k_1
        unfold mark_Dice_Distribution_l2 at H1
        try dsimp only at H1 ⊢
        refine lok_seq ?_
        refine lok_rt E0 (⟨31, mkS [(0, .x (.one (.ptr 0 0))), (6, .x (.one (.ptr 106 0))), (7, .x (.one (.ptr 107 0))), (8, .x (.one (.p (pi least)))), (9, .x (.one (.p (pi i)))), (17, .x (.one (.p (.val (.bool (decide ((0 : Int) < i)))))))], mkH [(0, .var [.p (.sl 1 (List.map encI d3)), .p (pi d4)]), (106, .var [.p .nil]), (107, .var [.vw 128]), (128, .arr 1 (List.map encI w1))]⟩) ?_
        refine lok_c (decide ((0 : Int) < i)) ?_ ?_
        · intro b_4
          replace H1 := cpos H1 b_4
          refine lok_skip ?_
          try simp only [thenL, blockL, ↓reduceIte, reduceCtorEq]
          refine lok_seq ?_
          refine lok_block ?_
          replace H1 := bind_some H1
          obtain ⟨⟨y2, y3⟩, h_2, H1⟩ := H1
          try dsimp only at H1
          replace H1 := req_some H1
          obtain ⟨q_3, H1⟩ := H1
          refine lok_el (Env.of E0 [⟨some 25, 40, [.one (.ptr 0 0), .one (.p (.sl 1 (List.map encI ([(0 : Int), (1 : Int), (2 : Int), (5 : Int), (0 : Int)]))))], [.var [.p (.sl 1 (List.map encI d3)), .p (pi d4)]], [.one (.p (pi y2))], [some (.var [.p (.sl 1 (List.map encI y3.L)), .p (pi y3.At)])], True, fun _ => ok_mark_Dice_Pick (mark_Dice.mk d3 d4) ([(0 : Int), (1 : Int), (2 : Int), (5 : Int), (0 : Int)]) (y2, y3) h_2, []⟩]) 31 [⟨[(7, .x (.one (.ptr 107 0)))], [], [(20, .x (.one (.ptr 107 0)))], [], none⟩,
      ⟨[(20, .x (.one (.ptr 107 0)))], [(107, some (.var [.vw 128]))], [(21, .x (.one (.vw 128)))], [], none⟩,
      ⟨[(8, .x (.one (.p (pi least))))], [], [(22, .x (.one (.p (pi least))))], [], none⟩,
      ⟨[(0, .x (.one (.ptr 0 0)))], [], [(23, .x (.one (.ptr 0 0)))], [], none⟩,
      ⟨[], [], [(24, .x (.one (.fl 1 (List.map encI ([(0 : Int), (1 : Int), (2 : Int), (5 : Int), (0 : Int)])))))], [], none⟩,
      ⟨[(23, .x (.one (.ptr 0 0))), (24, .x (.one (.fl 1 (List.map encI ([(0 : Int), (1 : Int), (2 : Int), (5 : Int), (0 : Int)])))))], [(0, some (.var [.p (.sl 1 (List.map encI d3)), .p (pi d4)]))], [(25, .x (.one (.p (pi y2))))], [(0, some (.var [.p (.sl 1 (List.map encI y3.L)), .p (pi y3.At)]))], none⟩,
      ⟨[(22, .x (.one (.p (pi least)))), (25, .x (.one (.p (pi y2))))], [], [(26, .x (.one (.p (pi (IntKind.i64.wrap (least + y2))))))], [], none⟩,
      ⟨[(26, .x (.one (.p (pi (IntKind.i64.wrap (least + y2))))))], [], [(27, .x (.one (.fl 1 (List.map encI ([(IntKind.i64.wrap (least + y2))])))))], [], none⟩] (⟨31, mkS [(0, .x (.one (.ptr 0 0))), (6, .x (.one (.ptr 106 0))), (7, .x (.one (.ptr 107 0))), (8, .x (.one (.p (pi least)))), (9, .x (.one (.p (pi i))))], mkH [(0, .var [.p (.sl 1 (List.map encI y3.L)), .p (pi y3.At)]), (106, .var [.p .nil]), (107, .var [.vw 128]), (128, .arr 1 (List.map encI (w1 ++ [(IntKind.i64.wrap (least + y2))])))]⟩) (by kernel_rfl) (by kernel_rfl) (by kernel_rfl) rfl rfl rfl ?_
          try simp only [thenL, blockL, ↓reduceIte, reduceCtorEq]
          refine lok_rl E0 (⟨31, mkS [(0, .x (.one (.ptr 0 0))), (6, .x (.one (.ptr 106 0))), (7, .x (.one (.ptr 107 0))), (8, .x (.one (.p (pi least)))), (9, .x (.one (.p (pi (IntKind.i64.wrap (i - (1 : Int)))))))], mkH [(0, .var [.p (.sl 1 (List.map encI y3.L)), .p (pi y3.At)]), (106, .var [.p .nil]), (107, .var [.vw 128]), (128, .arr 1 (List.map encI (w1 ++ [(IntKind.i64.wrap (least + y2))])))]⟩) ?_
          try simp only [thenL, blockL, ↓reduceIte, reduceCtorEq]
          exact ⟨((IntKind.i64.wrap (i - (1 : Int))), y3.L, y3.At, (w1 ++ [(IntKind.i64.wrap (least + y2))])), (Option.some.inj H1).symm, imp_au⟩
        · intro b_4
          replace H1 := cneg H1 b_4
          refine lok_exit ?_
          try simp only [thenL, blockL, ↓reduceIte, reduceCtorEq]
          have e_1 := k_1 _ (Option.some.inj H1).symm
          subst e_1
          try dsimp only at H0
          try simp only [thenL, blockL, ↓reduceIte, reduceCtorEq]
          exact ⟨(d3, d4, w1), H0, imp_au⟩
  case hxmark_Dice_Distribution_j3 =>
    refine lok_rt E0 (⟨31, mkS [(0, .x (.one (.ptr 0 0))), (1, .x (.one (.p (pi n)))), (6, .x (.one (.ptr 106 0))), (7, .x (.one (.ptr 107 0))), (8, .x (.one (.p (pi (0 : Int))))), (10, .x (.one (.p (.val (.bool full)))))], mkH [(0, .var [.p (.sl 1 (List.map encI d.L)), .p (pi d.At)]), (106, .var [.p .nil]), (107, .var [.p .nil])]⟩) ?_
    refine lok_c full ?_ ?_
    · intro b_5
      replace H0 := cpos H0 b_5
      refine lok_rl E0 (⟨31, mkS [(0, .x (.one (.ptr 0 0))), (1, .x (.one (.p (pi n)))), (6, .x (.one (.ptr 106 0))), (7, .x (.one (.ptr 107 0))), (8, .x (.one (.p (pi (1 : Int)))))], mkH [(0, .var [.p (.sl 1 (List.map encI d.L)), .p (pi d.At)]), (106, .var [.p .nil]), (107, .var [.p .nil])]⟩) ?_
      try simp only [thenL, blockL, ↓reduceIte, reduceCtorEq]
      exact ⟨(1 : Int), H0, imp_au⟩
    · intro b_5
      replace H0 := cneg H0 b_5
      refine lok_skip ?_
      try simp only [thenL, blockL, ↓reduceIte, reduceCtorEq]
      exact ⟨(0 : Int), H0, imp_au⟩
set_option maxHeartbeats 4000000 in
theorem ok_distribution_Make (scores : List Int) (most : Int) (r_ : api_Distribution × Int) (H0 : distribution_Make scores most = some r_) : CallOK Try.prog 17 [.one (.p (.sl 1 (List.map encI scores))), .one (.p (pi most))] [] [.agg [.p (.sl 1 (List.map encI r_.1.Counts))], .one (.p (pi r_.2))] [] := by
  refine callOK (n := 55) (rs := [.cell 4 26, .tmp 5]) (nb := 0) (V := []) Try.func17 rfl (by kernel_rfl) rfl rfl rfl rfl (Nat.le_of_ble_eq_true rfl) (by decide) ?_
  unfold distribution_Make at H0
  refine lok_rt E0 (⟨55, mkS [(0, .x (.one (.p (.sl 1 (List.map encI scores))))), (1, .x (.one (.p (pi most)))), (4, .x (.one (.ptr 104 0)))], mkH [(104, .var [.p .nil])]⟩) ?_
  refine lok_seq ?_
  refine lok_rt E0 (⟨55, mkS [(0, .x (.one (.p (.sl 1 (List.map encI scores))))), (1, .x (.one (.p (pi most)))), (4, .x (.one (.ptr 104 0))), (16, .x (.one (.p (.val (.bool ((decide (most < (0 : Int))) || (decide ((200 : Int) < most))))))))], mkH [(104, .var [.p .nil])]⟩) ?_
  refine lok_c ((decide (most < (0 : Int))) || (decide ((200 : Int) < most))) ?_ ?_
  · intro b_11
    replace H0 := cpos H0 b_11
    refine lok_rt E0 (⟨55, mkS [(4, .x (.one (.ptr 104 0))), (5, .x (.one (.p (pi (2 : Int)))))], mkH [(104, .var [.p .nil])]⟩) ?_
    refine lok_ret ?_
    obtain rfl := Option.some.inj H0
    try simp only [thenL, blockL]
    exact fin_au _ (.inr rfl) [] (⟨55, mkS [(4, .x (.one (.ptr 104 0))), (5, .x (.one (.p (pi (2 : Int)))))], mkH [(104, .var [.p (.sl 1 (List.map encI ([] : List Int)))])]⟩) rfl rfl imp_au
  · intro b_11
    replace H0 := cneg H0 b_11
    refine lok_skip ?_
    try simp only [thenL, blockL, ↓reduceIte, reduceCtorEq]
    refine lok_join (fun x_ : Unit => distribution_Make_j3 scores most = some r_) (fun x_ => ⟨55, mkS [(0, .x (.one (.p (.sl 1 (List.map encI scores))))), (1, .x (.one (.p (pi most)))), (4, .x (.one (.ptr 104 0)))], mkH [(104, .var [.p .nil])]⟩) ?hydistribution_Make_j3 ?hxdistribution_Make_j3
    case hydistribution_Make_j3 =>
      rintro _ H0
      try dsimp only at H0 ⊢
      unfold distribution_Make_j3 at H0
      refine lok_seq ?_
      refine lok_rt E0 (⟨55, mkS [(0, .x (.one (.p (.sl 1 (List.map encI scores))))), (1, .x (.one (.p (pi most)))), (4, .x (.one (.ptr 104 0))), (35, .x (.one (.p (.val (.bool (decide ((1048576 : Int) < (scores.length : Int))))))))], mkH [(104, .var [.p .nil])]⟩) ?_
      refine lok_c (decide ((1048576 : Int) < (scores.length : Int))) ?_ ?_
      · intro b_6
        replace H0 := cpos H0 b_6
        refine lok_rt E0 (⟨55, mkS [(4, .x (.one (.ptr 104 0))), (5, .x (.one (.p (pi (3 : Int)))))], mkH [(104, .var [.p .nil])]⟩) ?_
        refine lok_ret ?_
        obtain rfl := Option.some.inj H0
        try simp only [thenL, blockL]
        exact fin_au _ (.inr rfl) [] (⟨55, mkS [(4, .x (.one (.ptr 104 0))), (5, .x (.one (.p (pi (3 : Int)))))], mkH [(104, .var [.p (.sl 1 (List.map encI ([] : List Int)))])]⟩) rfl rfl imp_au
      · intro b_6
        replace H0 := cneg H0 b_6
        refine lok_skip ?_
        try simp only [thenL, blockL, ↓reduceIte, reduceCtorEq]
        replace H0 := req_some H0
        obtain ⟨q_5, H0⟩ := H0
        refine lok_rt E0 (⟨55, mkS [(0, .x (.one (.p (.sl 1 (List.map encI scores))))), (4, .x (.one (.ptr 104 0))), (8, .x (.one (.vw 139)))], mkH [(104, .var [.p .nil]), (139, .arr 1 (List.map encI (rep (IntKind.i64.wrap (most + (1 : Int))) (0 : Int))))]⟩) ?_
        refine lok_join (fun x_ : (List Int) => distribution_Make_j1 x_ = some r_) (fun x_ => ⟨55, mkS [(4, .x (.one (.ptr 104 0))), (8, .x (.one (.vw 139)))], mkH [(104, .var [.p .nil]), (139, .arr 1 (List.map encI x_))]⟩) ?hydistribution_Make_j1 ?hxdistribution_Make_j1
        case hydistribution_Make_j1 =>
          rintro w H0
          try dsimp only at H0 ⊢
          unfold distribution_Make_j1 at H0
          refine lok_rt E0 (⟨55, mkS [(4, .x (.one (.ptr 104 0))), (5, .x (.one (.p (pi (0 : Int)))))], mkH [(104, .var [.vw 139]), (139, .arr 1 (List.map encI w))]⟩) ?_
          refine lok_ret ?_
          obtain rfl := Option.some.inj H0
          try simp only [thenL, blockL]
          exact fin_au _ (.inr rfl) [] (⟨55, mkS [(4, .x (.one (.ptr 104 0))), (5, .x (.one (.p (pi (0 : Int)))))], mkH [(104, .var [.p (.sl 1 (List.map encI w))])]⟩) rfl rfl (Imp.trans (imp_frz 139 1 (List.map encI w)) imp_au)
        case hxdistribution_Make_j1 =>
          refine lok_rt E0 (⟨55, mkS [(4, .x (.one (.ptr 104 0))), (8, .x (.one (.vw 139))), (40, .x (.one (.p (.sl 1 (List.map encI scores))))), (41, .x (.one (.p (pi (scores.length : Int))))), (42, .x (.one (.p (pi (0 : Int)))))], mkH [(104, .var [.p .nil]), (139, .arr 1 (List.map encI (rep (IntKind.i64.wrap (most + (1 : Int))) (0 : Int))))]⟩) ?_
          refine lok_block ?_
          replace H0 := bind_some H0
          obtain ⟨v_0, hv_0, H0⟩ := H0
          refine lok_iter (fun x_ => ⟨55, mkS [(4, .x (.one (.ptr 104 0))), (8, .x (.one (.vw 139))), (40, .x (.one (.p (.sl 1 (List.map encI scores))))), (41, .x (.one (.p (pi (scores.length : Int))))), (42, .x (.one (.p (pi x_.1))))], mkH [(104, .var [.p .nil]), (139, .arr 1 (List.map encI x_.2))]⟩) hv_0 imp_au ?_
          · rintro ⟨v, w1⟩ o_1 H1 k_1
            unfold distribution_Make_l2 at H1
            try dsimp only at H1 ⊢
            refine lok_rt E0 (⟨55, mkS [(4, .x (.one (.ptr 104 0))), (8, .x (.one (.vw 139))), (40, .x (.one (.p (.sl 1 (List.map encI scores))))), (41, .x (.one (.p (pi (scores.length : Int))))), (42, .x (.one (.p (pi v)))), (43, .x (.one (.p (.val (.bool (decide (v < (scores.length : Int))))))))], mkH [(104, .var [.p .nil]), (139, .arr 1 (List.map encI w1))]⟩) ?_
            refine lok_seq ?_
            refine lok_c (decide (v < (scores.length : Int))) ?_ ?_
            · intro b_4
              replace H1 := cpos H1 b_4
              refine lok_skip ?_
              try simp only [thenL, blockL, ↓reduceIte, reduceCtorEq]
              refine lok_seq ?_
              refine lok_block ?_
              replace H1 := req_some H1
              obtain ⟨q_3, H1⟩ := H1
              refine lok_rt E0 (⟨55, mkS [(4, .x (.one (.ptr 104 0))), (8, .x (.one (.vw 139))), (10, .x (.one (.p (pi (ix scores v))))), (40, .x (.one (.p (.sl 1 (List.map encI scores))))), (41, .x (.one (.p (pi (scores.length : Int))))), (42, .x (.one (.p (pi v))))], mkH [(104, .var [.p .nil]), (139, .arr 1 (List.map encI w1))]⟩) ?_
              replace H1 := req_some H1
              obtain ⟨q_2, H1⟩ := H1
              replace H1 := bindV_some H1
              obtain ⟨w3, a_1, H1⟩ := H1
              refine lok_rlg E0 a_1 (⟨55, mkS [(4, .x (.one (.ptr 104 0))), (8, .x (.one (.vw 139))), (40, .x (.one (.p (.sl 1 (List.map encI scores))))), (41, .x (.one (.p (pi (scores.length : Int))))), (42, .x (.one (.p (pi v))))], mkH [(104, .var [.p .nil]), (139, .arr 1 (List.map encI w3))]⟩) ?_
              try simp only [thenL, blockL, ↓reduceIte, reduceCtorEq]
              refine lok_rl E0 (⟨55, mkS [(4, .x (.one (.ptr 104 0))), (8, .x (.one (.vw 139))), (40, .x (.one (.p (.sl 1 (List.map encI scores))))), (41, .x (.one (.p (pi (scores.length : Int))))), (42, .x (.one (.p (pi (IntKind.i64.wrap (v + (1 : Int)))))))], mkH [(104, .var [.p .nil]), (139, .arr 1 (List.map encI w3))]⟩) ?_
              try simp only [thenL, blockL, ↓reduceIte, reduceCtorEq]
              exact ⟨((IntKind.i64.wrap (v + (1 : Int))), w3), (Option.some.inj H1).symm, imp_au⟩
            · intro b_4
              replace H1 := cneg H1 b_4
              refine lok_exit ?_
              try simp only [thenL, blockL, ↓reduceIte, reduceCtorEq]
              have e_1 := k_1 _ (Option.some.inj H1).symm
              subst e_1
              try dsimp only at H0
              try simp only [thenL, blockL, ↓reduceIte, reduceCtorEq]
              exact ⟨w1, H0, imp_au⟩
    case hxdistribution_Make_j3 =>
      refine lok_rt E0 (⟨55, mkS [(0, .x (.one (.p (.sl 1 (List.map encI scores))))), (1, .x (.one (.p (pi most)))), (4, .x (.one (.ptr 104 0))), (18, .x (.one (.p (.sl 1 (List.map encI scores))))), (19, .x (.one (.p (pi (scores.length : Int))))), (20, .x (.one (.p (pi (0 : Int)))))], mkH [(104, .var [.p .nil])]⟩) ?_
      refine lok_block ?_
      replace H0 := bind_some H0
      obtain ⟨v_7, hv_7, H0⟩ := H0
      refine lok_iter (fun x_ => ⟨55, mkS [(0, .x (.one (.p (.sl 1 (List.map encI scores))))), (1, .x (.one (.p (pi most)))), (4, .x (.one (.ptr 104 0))), (18, .x (.one (.p (.sl 1 (List.map encI scores))))), (19, .x (.one (.p (pi (scores.length : Int))))), (20, .x (.one (.p (pi x_))))], mkH [(104, .var [.p .nil])]⟩) hv_7 imp_au ?_
      · rintro v1 o_1 H1 k_1
        unfold distribution_Make_l4 at H1
        try dsimp only at H1 ⊢
        refine lok_rt E0 (⟨55, mkS [(0, .x (.one (.p (.sl 1 (List.map encI scores))))), (1, .x (.one (.p (pi most)))), (4, .x (.one (.ptr 104 0))), (18, .x (.one (.p (.sl 1 (List.map encI scores))))), (19, .x (.one (.p (pi (scores.length : Int))))), (20, .x (.one (.p (pi v1)))), (21, .x (.one (.p (.val (.bool (decide (v1 < (scores.length : Int))))))))], mkH [(104, .var [.p .nil])]⟩) ?_
        refine lok_seq ?_
        refine lok_c (decide (v1 < (scores.length : Int))) ?_ ?_
        · intro b_10
          replace H1 := cpos H1 b_10
          refine lok_skip ?_
          try simp only [thenL, blockL, ↓reduceIte, reduceCtorEq]
          refine lok_seq ?_
          refine lok_block ?_
          replace H1 := req_some H1
          obtain ⟨q_9, H1⟩ := H1
          refine lok_rt E0 (⟨55, mkS [(0, .x (.one (.p (.sl 1 (List.map encI scores))))), (1, .x (.one (.p (pi most)))), (4, .x (.one (.ptr 104 0))), (7, .x (.one (.p (pi (ix scores v1))))), (18, .x (.one (.p (.sl 1 (List.map encI scores))))), (19, .x (.one (.p (pi (scores.length : Int))))), (20, .x (.one (.p (pi v1))))], mkH [(104, .var [.p .nil])]⟩) ?_
          refine lok_rt E0 (⟨55, mkS [(0, .x (.one (.p (.sl 1 (List.map encI scores))))), (1, .x (.one (.p (pi most)))), (4, .x (.one (.ptr 104 0))), (18, .x (.one (.p (.sl 1 (List.map encI scores))))), (19, .x (.one (.p (pi (scores.length : Int))))), (20, .x (.one (.p (pi v1)))), (30, .x (.one (.p (.val (.bool ((decide ((ix scores v1) < (0 : Int))) || (decide (most < (ix scores v1)))))))))], mkH [(104, .var [.p .nil])]⟩) ?_
          refine lok_c ((decide ((ix scores v1) < (0 : Int))) || (decide (most < (ix scores v1)))) ?_ ?_
          · intro b_8
            replace H1 := cpos H1 b_8
            refine lok_rt E0 (⟨55, mkS [(4, .x (.one (.ptr 104 0))), (5, .x (.one (.p (pi (2 : Int)))))], mkH [(104, .var [.p .nil])]⟩) ?_
            refine lok_ret ?_
            try simp only [thenL, blockL, ↓reduceIte, reduceCtorEq]
            have e_1 := k_1 _ (Option.some.inj H1).symm
            subst e_1
            try dsimp only at H0
            obtain rfl := Option.some.inj H0
            try simp only [thenL, blockL]
            exact fin_au _ (.inr rfl) [] (⟨55, mkS [(4, .x (.one (.ptr 104 0))), (5, .x (.one (.p (pi (2 : Int)))))], mkH [(104, .var [.p (.sl 1 (List.map encI ([] : List Int)))])]⟩) rfl rfl imp_au
          · intro b_8
            replace H1 := cneg H1 b_8
            refine lok_skip ?_
            try simp only [thenL, blockL, ↓reduceIte, reduceCtorEq]
            refine lok_rl E0 (⟨55, mkS [(0, .x (.one (.p (.sl 1 (List.map encI scores))))), (1, .x (.one (.p (pi most)))), (4, .x (.one (.ptr 104 0))), (18, .x (.one (.p (.sl 1 (List.map encI scores))))), (19, .x (.one (.p (pi (scores.length : Int))))), (20, .x (.one (.p (pi (IntKind.i64.wrap (v1 + (1 : Int)))))))], mkH [(104, .var [.p .nil])]⟩) ?_
            try simp only [thenL, blockL, ↓reduceIte, reduceCtorEq]
            exact ⟨(IntKind.i64.wrap (v1 + (1 : Int))), (Option.some.inj H1).symm, imp_au⟩
        · intro b_10
          replace H1 := cneg H1 b_10
          refine lok_exit ?_
          try simp only [thenL, blockL, ↓reduceIte, reduceCtorEq]
          have e_1 := k_1 _ (Option.some.inj H1).symm
          subst e_1
          try dsimp only at H0
          try simp only [thenL, blockL, ↓reduceIte, reduceCtorEq]
          exact ⟨(), H0, imp_au⟩
theorem ok_ref32_Same (a : api_Distribution) (b : api_Distribution) (r_ : Bool) (H0 : ref32_Same a b = some r_) : CallOK Try.prog 18 [.agg [.p (.sl 1 (List.map encI a.Counts))], .agg [.p (.sl 1 (List.map encI b.Counts))]] [] [.one (.p (.val (.bool r_)))] [] := by
  refine callOK (n := 31) (rs := [.tmp 4]) (nb := 0) (V := []) Try.func18 rfl (by kernel_rfl) rfl rfl rfl rfl (Nat.le_of_ble_eq_true rfl) (by decide) ?_
  unfold ref32_Same at H0
  refine lok_rt E0 (⟨31, mkS [(2, .x (.one (.ptr 102 0))), (3, .x (.one (.ptr 103 0)))], mkH [(102, .var [.p (.sl 1 (List.map encI a.Counts))]), (103, .var [.p (.sl 1 (List.map encI b.Counts))])]⟩) ?_
  refine lok_seq ?_
  refine lok_rt E0 (⟨31, mkS [(2, .x (.one (.ptr 102 0))), (3, .x (.one (.ptr 103 0))), (12, .x (.one (.p (.val (.bool ((a.Counts.length : Int) != (b.Counts.length : Int)))))))], mkH [(102, .var [.p (.sl 1 (List.map encI a.Counts))]), (103, .var [.p (.sl 1 (List.map encI b.Counts))])]⟩) ?_
  refine lok_c ((a.Counts.length : Int) != (b.Counts.length : Int)) ?_ ?_
  · intro b_5
    replace H0 := cpos H0 b_5
    refine lok_rt E0 (⟨31, mkS [(4, .x (.one (.p (.val (.bool false)))))], mkH []⟩) ?_
    refine lok_ret ?_
    obtain rfl := Option.some.inj H0
    try simp only [thenL, blockL]
    exact fin_au _ (.inr rfl) [] (⟨31, mkS [(4, .x (.one (.p (.val (.bool false)))))], mkH []⟩) rfl rfl imp_au
  · intro b_5
    replace H0 := cneg H0 b_5
    refine lok_skip ?_
    try simp only [thenL, blockL, ↓reduceIte, reduceCtorEq]
    refine lok_join (fun x_ : Unit => ref32_Same_j1 = some r_) (fun x_ => ⟨31, mkS [], mkH []⟩) ?hyref32_Same_j1 ?hxref32_Same_j1
    case hyref32_Same_j1 =>
      rintro _ H0
      try dsimp only at H0 ⊢
      unfold ref32_Same_j1 at H0
      refine lok_rt E0 (⟨31, mkS [(4, .x (.one (.p (.val (.bool true)))))], mkH []⟩) ?_
      refine lok_ret ?_
      obtain rfl := Option.some.inj H0
      try simp only [thenL, blockL]
      exact fin_au _ (.inr rfl) [] (⟨31, mkS [(4, .x (.one (.p (.val (.bool true)))))], mkH []⟩) rfl rfl imp_au
    case hxref32_Same_j1 =>
      refine lok_rt E0 (⟨31, mkS [(2, .x (.one (.ptr 102 0))), (3, .x (.one (.ptr 103 0))), (5, .x (.one (.p (pi (0 : Int)))))], mkH [(102, .var [.p (.sl 1 (List.map encI a.Counts))]), (103, .var [.p (.sl 1 (List.map encI b.Counts))])]⟩) ?_
      refine lok_block ?_
      replace H0 := bind_some H0
      obtain ⟨v_0, hv_0, H0⟩ := H0
      refine lok_iter (fun x_ => ⟨31, mkS [(2, .x (.one (.ptr 102 0))), (3, .x (.one (.ptr 103 0))), (5, .x (.one (.p (pi x_))))], mkH [(102, .var [.p (.sl 1 (List.map encI a.Counts))]), (103, .var [.p (.sl 1 (List.map encI b.Counts))])]⟩) hv_0 imp_au ?_
      · rintro i o_1 H1 k_1
        unfold ref32_Same_l2 at H1
        try dsimp only at H1 ⊢
        refine lok_seq ?_
        refine lok_rt E0 (⟨31, mkS [(2, .x (.one (.ptr 102 0))), (3, .x (.one (.ptr 103 0))), (5, .x (.one (.p (pi i)))), (17, .x (.one (.p (.val (.bool (decide (i < (a.Counts.length : Int))))))))], mkH [(102, .var [.p (.sl 1 (List.map encI a.Counts))]), (103, .var [.p (.sl 1 (List.map encI b.Counts))])]⟩) ?_
        refine lok_c (decide (i < (a.Counts.length : Int))) ?_ ?_
        · intro b_4
          replace H1 := cpos H1 b_4
          refine lok_skip ?_
          try simp only [thenL, blockL, ↓reduceIte, reduceCtorEq]
          refine lok_seq ?_
          refine lok_block ?_
          replace H1 := req_some H1
          obtain ⟨⟨q_2, q_3⟩, H1⟩ := H1
          refine lok_dt E0 10 (⟨31, mkS [(2, .x (.one (.ptr 102 0))), (3, .x (.one (.ptr 103 0))), (5, .x (.one (.p (pi i)))), (30, .x (.one (.p (.val (.bool ((ix a.Counts i) != (ix b.Counts i)))))))], mkH [(102, .var [.p (.sl 1 (List.map encI a.Counts))]), (103, .var [.p (.sl 1 (List.map encI b.Counts))])]⟩) (by kernel_rfl) (by kernel_rfl) ?_
          refine lok_c ((ix a.Counts i) != (ix b.Counts i)) ?_ ?_
          · intro b_1
            replace H1 := cpos H1 b_1
            refine lok_rt E0 (⟨31, mkS [(4, .x (.one (.p (.val (.bool false)))))], mkH []⟩) ?_
            refine lok_ret ?_
            try simp only [thenL, blockL, ↓reduceIte, reduceCtorEq]
            have e_1 := k_1 _ (Option.some.inj H1).symm
            subst e_1
            try dsimp only at H0
            obtain rfl := Option.some.inj H0
            try simp only [thenL, blockL]
            exact fin_au _ (.inr rfl) [] (⟨31, mkS [(4, .x (.one (.p (.val (.bool false)))))], mkH []⟩) rfl rfl imp_au
          · intro b_1
            replace H1 := cneg H1 b_1
            refine lok_skip ?_
            try simp only [thenL, blockL, ↓reduceIte, reduceCtorEq]
            refine lok_rl E0 (⟨31, mkS [(2, .x (.one (.ptr 102 0))), (3, .x (.one (.ptr 103 0))), (5, .x (.one (.p (pi (IntKind.i64.wrap (i + (1 : Int)))))))], mkH [(102, .var [.p (.sl 1 (List.map encI a.Counts))]), (103, .var [.p (.sl 1 (List.map encI b.Counts))])]⟩) ?_
            try simp only [thenL, blockL, ↓reduceIte, reduceCtorEq]
            exact ⟨(IntKind.i64.wrap (i + (1 : Int))), (Option.some.inj H1).symm, imp_au⟩
        · intro b_4
          replace H1 := cneg H1 b_4
          refine lok_exit ?_
          try simp only [thenL, blockL, ↓reduceIte, reduceCtorEq]
          have e_1 := k_1 _ (Option.some.inj H1).symm
          subst e_1
          try dsimp only at H0
          try simp only [thenL, blockL, ↓reduceIte, reduceCtorEq]
          exact ⟨(), H0, imp_au⟩
set_option maxHeartbeats 4000000 in
theorem ok_distribution_Add (a : api_Distribution) (b : api_Distribution) (r_ : api_Distribution × Int) (H0 : distribution_Add a b = some r_) : CallOK Try.prog 20 [.agg [.p (.sl 1 (List.map encI a.Counts))], .agg [.p (.sl 1 (List.map encI b.Counts))]] [] [.agg [.p (.sl 1 (List.map encI r_.1.Counts))], .one (.p (pi r_.2))] [] := by
  refine callOK (n := 69) (rs := [.cell 4 26, .tmp 5]) (nb := 0) (V := []) Try.func20 rfl (by kernel_rfl) rfl rfl rfl rfl (Nat.le_of_ble_eq_true rfl) (by decide) ?_
  unfold distribution_Add at H0
  refine lok_rt E0 (⟨69, mkS [(2, .x (.one (.ptr 102 0))), (3, .x (.one (.ptr 103 0))), (4, .x (.one (.ptr 104 0)))], mkH [(102, .var [.p (.sl 1 (List.map encI a.Counts))]), (103, .var [.p (.sl 1 (List.map encI b.Counts))]), (104, .var [.p .nil])]⟩) ?_
  refine lok_seq ?_
  replace H0 := bind_some H0
  obtain ⟨y, h_0, H0⟩ := H0
  replace H0 := req_some H0
  obtain ⟨q_14, H0⟩ := H0
  refine lok_rt (Env.of E0 [⟨some 12, 28, [.agg [.p (.sl 1 (List.map encI a.Counts))]], [], [.one (.p (.val (.bool y)))], [], True, fun _ => ok_distribution_Valid a y h_0, []⟩,
      ⟨some 16, 28, [.agg [.p (.sl 1 (List.map encI b.Counts))]], [], [.one (.p (.val (.bool ((distribution_Valid b).getD default))))], [], (distribution_Valid b).isSome = true, fun h => ok_distribution_Valid b _ (isSome_get h), []⟩]) (⟨69, mkS [(2, .x (.one (.ptr 102 0))), (3, .x (.one (.ptr 103 0))), (4, .x (.one (.ptr 104 0))), (18, .x (.one (.p (.val (.bool ((!y) || (!((distribution_Valid b).getD default))))))))], mkH [(102, .var [.p (.sl 1 (List.map encI a.Counts))]), (103, .var [.p (.sl 1 (List.map encI b.Counts))]), (104, .var [.p .nil])]⟩) ?_
  refine lok_c ((!y) || (!((distribution_Valid b).getD default))) ?_ ?_
  · intro b_13
    replace H0 := cpos H0 b_13
    refine lok_rt E0 (⟨69, mkS [(4, .x (.one (.ptr 104 0))), (5, .x (.one (.p (pi (1 : Int)))))], mkH [(104, .var [.p .nil])]⟩) ?_
    refine lok_ret ?_
    obtain rfl := Option.some.inj H0
    try simp only [thenL, blockL]
    exact fin_au _ (.inr rfl) [] (⟨69, mkS [(4, .x (.one (.ptr 104 0))), (5, .x (.one (.p (pi (1 : Int)))))], mkH [(104, .var [.p (.sl 1 (List.map encI ([] : List Int)))])]⟩) rfl rfl imp_au
  · intro b_13
    replace H0 := cneg H0 b_13
    refine lok_skip ?_
    try simp only [thenL, blockL, ↓reduceIte, reduceCtorEq]
    refine lok_seq ?_
    replace H0 := bind_some H0
    obtain ⟨y1, h_1, H0⟩ := H0
    replace H0 := bind_some H0
    obtain ⟨y2, h_2, H0⟩ := H0
    refine lok_dt (Env.of E0 [⟨some 21, 15, [.agg [.p (.sl 1 (List.map encI a.Counts))]], [], [.one (.p (pi y1))], [], True, fun _ => ok_distribution_Count a y1 h_1, []⟩,
      ⟨some 23, 15, [.agg [.p (.sl 1 (List.map encI b.Counts))]], [], [.one (.p (pi y2))], [], True, fun _ => ok_distribution_Count b y2 h_2, []⟩]) 3 (⟨69, mkS [(2, .x (.one (.ptr 102 0))), (3, .x (.one (.ptr 103 0))), (4, .x (.one (.ptr 104 0))), (25, .x (.one (.p (.val (.bool (decide ((1048576 : Int) < (IntKind.i64.wrap (y1 + y2)))))))))], mkH [(102, .var [.p (.sl 1 (List.map encI a.Counts))]), (103, .var [.p (.sl 1 (List.map encI b.Counts))]), (104, .var [.p .nil])]⟩) (by kernel_rfl) (by kernel_rfl) ?_
    refine lok_c (decide ((1048576 : Int) < (IntKind.i64.wrap (y1 + y2)))) ?_ ?_
    · intro b_12
      replace H0 := cpos H0 b_12
      refine lok_rt E0 (⟨69, mkS [(4, .x (.one (.ptr 104 0))), (5, .x (.one (.p (pi (3 : Int)))))], mkH [(104, .var [.p .nil])]⟩) ?_
      refine lok_ret ?_
      obtain rfl := Option.some.inj H0
      try simp only [thenL, blockL]
      exact fin_au _ (.inr rfl) [] (⟨69, mkS [(4, .x (.one (.ptr 104 0))), (5, .x (.one (.p (pi (3 : Int)))))], mkH [(104, .var [.p (.sl 1 (List.map encI ([] : List Int)))])]⟩) rfl rfl imp_au
    · intro b_12
      replace H0 := cneg H0 b_12
      refine lok_skip ?_
      try simp only [thenL, blockL, ↓reduceIte, reduceCtorEq]
      replace H0 := req_some H0
      obtain ⟨q_11, H0⟩ := H0
      refine lok_rt E0 (⟨69, mkS [(2, .x (.one (.ptr 102 0))), (3, .x (.one (.ptr 103 0))), (4, .x (.one (.ptr 104 0))), (6, .x (.one (.vw 134)))], mkH [(102, .var [.p (.sl 1 (List.map encI a.Counts))]), (103, .var [.p (.sl 1 (List.map encI b.Counts))]), (104, .var [.p .nil]), (134, .arr 1 (List.map encI (rep (imax (a.Counts.length : Int) (b.Counts.length : Int)) (0 : Int))))]⟩) ?_
      refine lok_join (fun x_ : (List Int) => distribution_Add_j3 b x_ = some r_) (fun x_ => ⟨69, mkS [(3, .x (.one (.ptr 103 0))), (4, .x (.one (.ptr 104 0))), (6, .x (.one (.vw 134)))], mkH [(103, .var [.p (.sl 1 (List.map encI b.Counts))]), (104, .var [.p .nil]), (134, .arr 1 (List.map encI x_))]⟩) ?hydistribution_Add_j3 ?hxdistribution_Add_j3
      case hydistribution_Add_j3 =>
        rintro w H0
        try dsimp only at H0 ⊢
        unfold distribution_Add_j3 at H0
        refine lok_join (fun x_ : (List Int) => distribution_Add_j1 x_ = some r_) (fun x_ => ⟨69, mkS [(4, .x (.one (.ptr 104 0))), (6, .x (.one (.vw 134)))], mkH [(104, .var [.p .nil]), (134, .arr 1 (List.map encI x_))]⟩) ?hydistribution_Add_j1 ?hxdistribution_Add_j1
        case hydistribution_Add_j1 =>
          rintro w1 H0
          try dsimp only at H0 ⊢
          unfold distribution_Add_j1 at H0
          refine lok_rt E0 (⟨69, mkS [(4, .x (.one (.ptr 104 0))), (5, .x (.one (.p (pi (0 : Int)))))], mkH [(104, .var [.vw 134]), (134, .arr 1 (List.map encI w1))]⟩) ?_
          refine lok_ret ?_
          obtain rfl := Option.some.inj H0
          try simp only [thenL, blockL]
          exact fin_au _ (.inr rfl) [] (⟨69, mkS [(4, .x (.one (.ptr 104 0))), (5, .x (.one (.p (pi (0 : Int)))))], mkH [(104, .var [.p (.sl 1 (List.map encI w1))])]⟩) rfl rfl (Imp.trans (imp_frz 134 1 (List.map encI w1)) imp_au)
        case hxdistribution_Add_j1 =>
          refine lok_rt E0 (⟨69, mkS [(4, .x (.one (.ptr 104 0))), (6, .x (.one (.vw 134))), (52, .x (.one (.p (.sl 1 (List.map encI b.Counts))))), (53, .x (.one (.p (pi (b.Counts.length : Int))))), (54, .x (.one (.p (pi (0 : Int)))))], mkH [(104, .var [.p .nil]), (134, .arr 1 (List.map encI w))]⟩) ?_
          refine lok_block ?_
          replace H0 := bind_some H0
          obtain ⟨v_3, hv_3, H0⟩ := H0
          refine lok_iter (fun x_ => ⟨69, mkS [(4, .x (.one (.ptr 104 0))), (6, .x (.one (.vw 134))), (52, .x (.one (.p (.sl 1 (List.map encI b.Counts))))), (53, .x (.one (.p (pi (b.Counts.length : Int))))), (54, .x (.one (.p (pi x_.1))))], mkH [(104, .var [.p .nil]), (134, .arr 1 (List.map encI x_.2))]⟩) hv_3 imp_au ?_
          · rintro ⟨v, w2⟩ o_1 H1 k_1
            unfold distribution_Add_l2 at H1
            try dsimp only at H1 ⊢
            refine lok_rt E0 (⟨69, mkS [(4, .x (.one (.ptr 104 0))), (6, .x (.one (.vw 134))), (52, .x (.one (.p (.sl 1 (List.map encI b.Counts))))), (53, .x (.one (.p (pi (b.Counts.length : Int))))), (54, .x (.one (.p (pi v)))), (55, .x (.one (.p (.val (.bool (decide (v < (b.Counts.length : Int))))))))], mkH [(104, .var [.p .nil]), (134, .arr 1 (List.map encI w2))]⟩) ?_
            refine lok_seq ?_
            refine lok_c (decide (v < (b.Counts.length : Int))) ?_ ?_
            · intro b_6
              replace H1 := cpos H1 b_6
              refine lok_skip ?_
              try simp only [thenL, blockL, ↓reduceIte, reduceCtorEq]
              refine lok_seq ?_
              refine lok_block ?_
              replace H1 := req_some H1
              obtain ⟨q_5, H1⟩ := H1
              refine lok_rt E0 (⟨69, mkS [(4, .x (.one (.ptr 104 0))), (6, .x (.one (.vw 134))), (9, .x (.one (.p (pi v)))), (10, .x (.one (.p (pi (ix b.Counts v))))), (52, .x (.one (.p (.sl 1 (List.map encI b.Counts))))), (53, .x (.one (.p (pi (b.Counts.length : Int))))), (54, .x (.one (.p (pi v))))], mkH [(104, .var [.p .nil]), (134, .arr 1 (List.map encI w2))]⟩) ?_
              replace H1 := req_some H1
              obtain ⟨q_4, H1⟩ := H1
              refine lok_rl E0 (⟨69, mkS [(4, .x (.one (.ptr 104 0))), (6, .x (.one (.vw 134))), (52, .x (.one (.p (.sl 1 (List.map encI b.Counts))))), (53, .x (.one (.p (pi (b.Counts.length : Int))))), (54, .x (.one (.p (pi v))))], mkH [(104, .var [.p .nil]), (134, .arr 1 (List.map encI (setI w2 v (IntKind.i64.wrap ((ix w2 v) + (ix b.Counts v))))))]⟩) ?_
              try simp only [thenL, blockL, ↓reduceIte, reduceCtorEq]
              refine lok_rl E0 (⟨69, mkS [(4, .x (.one (.ptr 104 0))), (6, .x (.one (.vw 134))), (52, .x (.one (.p (.sl 1 (List.map encI b.Counts))))), (53, .x (.one (.p (pi (b.Counts.length : Int))))), (54, .x (.one (.p (pi (IntKind.i64.wrap (v + (1 : Int)))))))], mkH [(104, .var [.p .nil]), (134, .arr 1 (List.map encI (setI w2 v (IntKind.i64.wrap ((ix w2 v) + (ix b.Counts v))))))]⟩) ?_
              try simp only [thenL, blockL, ↓reduceIte, reduceCtorEq]
              exact ⟨((IntKind.i64.wrap (v + (1 : Int))), (setI w2 v (IntKind.i64.wrap ((ix w2 v) + (ix b.Counts v))))), (Option.some.inj H1).symm, imp_au⟩
            · intro b_6
              replace H1 := cneg H1 b_6
              refine lok_exit ?_
              try simp only [thenL, blockL, ↓reduceIte, reduceCtorEq]
              have e_1 := k_1 _ (Option.some.inj H1).symm
              subst e_1
              try dsimp only at H0
              try simp only [thenL, blockL, ↓reduceIte, reduceCtorEq]
              exact ⟨w2, H0, imp_au⟩
      case hxdistribution_Add_j3 =>
        refine lok_rt E0 (⟨69, mkS [(3, .x (.one (.ptr 103 0))), (4, .x (.one (.ptr 104 0))), (6, .x (.one (.vw 134))), (36, .x (.one (.p (.sl 1 (List.map encI a.Counts))))), (37, .x (.one (.p (pi (a.Counts.length : Int))))), (38, .x (.one (.p (pi (0 : Int)))))], mkH [(103, .var [.p (.sl 1 (List.map encI b.Counts))]), (104, .var [.p .nil]), (134, .arr 1 (List.map encI (rep (imax (a.Counts.length : Int) (b.Counts.length : Int)) (0 : Int))))]⟩) ?_
        refine lok_block ?_
        replace H0 := bind_some H0
        obtain ⟨v_7, hv_7, H0⟩ := H0
        refine lok_iter (fun x_ => ⟨69, mkS [(3, .x (.one (.ptr 103 0))), (4, .x (.one (.ptr 104 0))), (6, .x (.one (.vw 134))), (36, .x (.one (.p (.sl 1 (List.map encI a.Counts))))), (37, .x (.one (.p (pi (a.Counts.length : Int))))), (38, .x (.one (.p (pi x_.1))))], mkH [(103, .var [.p (.sl 1 (List.map encI b.Counts))]), (104, .var [.p .nil]), (134, .arr 1 (List.map encI x_.2))]⟩) hv_7 imp_au ?_
        · rintro ⟨v1, w4⟩ o_1 H1 k_1
          unfold distribution_Add_l4 at H1
          try dsimp only at H1 ⊢
          refine lok_rt E0 (⟨69, mkS [(3, .x (.one (.ptr 103 0))), (4, .x (.one (.ptr 104 0))), (6, .x (.one (.vw 134))), (36, .x (.one (.p (.sl 1 (List.map encI a.Counts))))), (37, .x (.one (.p (pi (a.Counts.length : Int))))), (38, .x (.one (.p (pi v1)))), (39, .x (.one (.p (.val (.bool (decide (v1 < (a.Counts.length : Int))))))))], mkH [(103, .var [.p (.sl 1 (List.map encI b.Counts))]), (104, .var [.p .nil]), (134, .arr 1 (List.map encI w4))]⟩) ?_
          refine lok_seq ?_
          refine lok_c (decide (v1 < (a.Counts.length : Int))) ?_ ?_
          · intro b_10
            replace H1 := cpos H1 b_10
            refine lok_skip ?_
            try simp only [thenL, blockL, ↓reduceIte, reduceCtorEq]
            refine lok_seq ?_
            refine lok_block ?_
            replace H1 := req_some H1
            obtain ⟨q_9, H1⟩ := H1
            refine lok_rt E0 (⟨69, mkS [(3, .x (.one (.ptr 103 0))), (4, .x (.one (.ptr 104 0))), (6, .x (.one (.vw 134))), (7, .x (.one (.p (pi v1)))), (8, .x (.one (.p (pi (ix a.Counts v1))))), (36, .x (.one (.p (.sl 1 (List.map encI a.Counts))))), (37, .x (.one (.p (pi (a.Counts.length : Int))))), (38, .x (.one (.p (pi v1))))], mkH [(103, .var [.p (.sl 1 (List.map encI b.Counts))]), (104, .var [.p .nil]), (134, .arr 1 (List.map encI w4))]⟩) ?_
            replace H1 := req_some H1
            obtain ⟨q_8, H1⟩ := H1
            refine lok_rl E0 (⟨69, mkS [(3, .x (.one (.ptr 103 0))), (4, .x (.one (.ptr 104 0))), (6, .x (.one (.vw 134))), (36, .x (.one (.p (.sl 1 (List.map encI a.Counts))))), (37, .x (.one (.p (pi (a.Counts.length : Int))))), (38, .x (.one (.p (pi v1))))], mkH [(103, .var [.p (.sl 1 (List.map encI b.Counts))]), (104, .var [.p .nil]), (134, .arr 1 (List.map encI (setI w4 v1 (IntKind.i64.wrap ((ix w4 v1) + (ix a.Counts v1))))))]⟩) ?_
            try simp only [thenL, blockL, ↓reduceIte, reduceCtorEq]
            refine lok_rl E0 (⟨69, mkS [(3, .x (.one (.ptr 103 0))), (4, .x (.one (.ptr 104 0))), (6, .x (.one (.vw 134))), (36, .x (.one (.p (.sl 1 (List.map encI a.Counts))))), (37, .x (.one (.p (pi (a.Counts.length : Int))))), (38, .x (.one (.p (pi (IntKind.i64.wrap (v1 + (1 : Int)))))))], mkH [(103, .var [.p (.sl 1 (List.map encI b.Counts))]), (104, .var [.p .nil]), (134, .arr 1 (List.map encI (setI w4 v1 (IntKind.i64.wrap ((ix w4 v1) + (ix a.Counts v1))))))]⟩) ?_
            try simp only [thenL, blockL, ↓reduceIte, reduceCtorEq]
            exact ⟨((IntKind.i64.wrap (v1 + (1 : Int))), (setI w4 v1 (IntKind.i64.wrap ((ix w4 v1) + (ix a.Counts v1))))), (Option.some.inj H1).symm, imp_au⟩
          · intro b_10
            replace H1 := cneg H1 b_10
            refine lok_exit ?_
            try simp only [thenL, blockL, ↓reduceIte, reduceCtorEq]
            have e_1 := k_1 _ (Option.some.inj H1).symm
            subst e_1
            try dsimp only at H0
            try simp only [thenL, blockL, ↓reduceIte, reduceCtorEq]
            exact ⟨w4, H0, imp_au⟩
set_option maxHeartbeats 4000000 in
theorem ok_distribution_Dominates (a : api_Distribution) (b : api_Distribution) (r_ : Bool) (H0 : distribution_Dominates a b = some r_) : CallOK Try.prog 23 [.agg [.p (.sl 1 (List.map encI a.Counts))], .agg [.p (.sl 1 (List.map encI b.Counts))]] [] [.one (.p (.val (.bool r_)))] [] := by
  refine callOK (n := 45) (rs := [.tmp 4]) (nb := 0) (V := []) Try.func23 rfl (by kernel_rfl) rfl rfl rfl rfl (Nat.le_of_ble_eq_true rfl) (by decide) ?_
  unfold distribution_Dominates at H0
  refine lok_rt E0 (⟨45, mkS [(2, .x (.one (.ptr 102 0))), (3, .x (.one (.ptr 103 0)))], mkH [(102, .var [.p (.sl 1 (List.map encI a.Counts))]), (103, .var [.p (.sl 1 (List.map encI b.Counts))])]⟩) ?_
  replace H0 := bind_some H0
  obtain ⟨⟨y, y1⟩, h_0, H0⟩ := H0
  try dsimp only at H0
  refine lok_rt (Env.of E0 [⟨some 11, 44, [.agg [.p (.sl 1 (List.map encI a.Counts))]], [], [.one (.p (pi y)), .one (.p (pi y1))], [], True, fun _ => ok_distribution_check a (y, y1) h_0, []⟩]) (⟨45, mkS [(2, .x (.one (.ptr 102 0))), (3, .x (.one (.ptr 103 0))), (5, .x (.one (.p (pi y)))), (6, .x (.one (.p (pi y1))))], mkH [(102, .var [.p (.sl 1 (List.map encI a.Counts))]), (103, .var [.p (.sl 1 (List.map encI b.Counts))])]⟩) ?_
  refine lok_seq ?_
  refine lok_rt E0 (⟨45, mkS [(2, .x (.one (.ptr 102 0))), (3, .x (.one (.ptr 103 0))), (5, .x (.one (.p (pi y)))), (15, .x (.one (.p (.val (.bool (y1 != (0 : Int)))))))], mkH [(102, .var [.p (.sl 1 (List.map encI a.Counts))]), (103, .var [.p (.sl 1 (List.map encI b.Counts))])]⟩) ?_
  refine lok_c (y1 != (0 : Int)) ?_ ?_
  · intro b_8
    replace H0 := cpos H0 b_8
    refine lok_rt E0 (⟨45, mkS [(4, .x (.one (.p (.val (.bool false)))))], mkH []⟩) ?_
    refine lok_ret ?_
    obtain rfl := Option.some.inj H0
    try simp only [thenL, blockL]
    exact fin_au _ (.inr rfl) [] (⟨45, mkS [(4, .x (.one (.p (.val (.bool false)))))], mkH []⟩) rfl rfl imp_au
  · intro b_8
    replace H0 := cneg H0 b_8
    refine lok_skip ?_
    try simp only [thenL, blockL, ↓reduceIte, reduceCtorEq]
    replace H0 := bind_some H0
    obtain ⟨⟨y2, y3⟩, h_1, H0⟩ := H0
    try dsimp only at H0
    refine lok_rt (Env.of E0 [⟨some 18, 44, [.agg [.p (.sl 1 (List.map encI b.Counts))]], [], [.one (.p (pi y2)), .one (.p (pi y3))], [], True, fun _ => ok_distribution_check b (y2, y3) h_1, []⟩]) (⟨45, mkS [(2, .x (.one (.ptr 102 0))), (3, .x (.one (.ptr 103 0))), (5, .x (.one (.p (pi y)))), (6, .x (.one (.p (pi y3)))), (7, .x (.one (.p (pi y2))))], mkH [(102, .var [.p (.sl 1 (List.map encI a.Counts))]), (103, .var [.p (.sl 1 (List.map encI b.Counts))])]⟩) ?_
    refine lok_seq ?_
    refine lok_rt E0 (⟨45, mkS [(2, .x (.one (.ptr 102 0))), (3, .x (.one (.ptr 103 0))), (5, .x (.one (.p (pi y)))), (7, .x (.one (.p (pi y2)))), (22, .x (.one (.p (.val (.bool (y3 != (0 : Int)))))))], mkH [(102, .var [.p (.sl 1 (List.map encI a.Counts))]), (103, .var [.p (.sl 1 (List.map encI b.Counts))])]⟩) ?_
    refine lok_c (y3 != (0 : Int)) ?_ ?_
    · intro b_7
      replace H0 := cpos H0 b_7
      refine lok_rt E0 (⟨45, mkS [(4, .x (.one (.p (.val (.bool false)))))], mkH []⟩) ?_
      refine lok_ret ?_
      obtain rfl := Option.some.inj H0
      try simp only [thenL, blockL]
      exact fin_au _ (.inr rfl) [] (⟨45, mkS [(4, .x (.one (.p (.val (.bool false)))))], mkH []⟩) rfl rfl imp_au
    · intro b_7
      replace H0 := cneg H0 b_7
      refine lok_skip ?_
      try simp only [thenL, blockL, ↓reduceIte, reduceCtorEq]
      refine lok_join (fun x_ : Unit => distribution_Dominates_j1 = some r_) (fun x_ => ⟨45, mkS [], mkH []⟩) ?hydistribution_Dominates_j1 ?hxdistribution_Dominates_j1
      case hydistribution_Dominates_j1 =>
        rintro _ H0
        try dsimp only at H0 ⊢
        unfold distribution_Dominates_j1 at H0
        refine lok_rt E0 (⟨45, mkS [(4, .x (.one (.p (.val (.bool true)))))], mkH []⟩) ?_
        refine lok_ret ?_
        obtain rfl := Option.some.inj H0
        try simp only [thenL, blockL]
        exact fin_au _ (.inr rfl) [] (⟨45, mkS [(4, .x (.one (.p (.val (.bool true)))))], mkH []⟩) rfl rfl imp_au
      case hxdistribution_Dominates_j1 =>
        refine lok_rt E0 (⟨45, mkS [(2, .x (.one (.ptr 102 0))), (3, .x (.one (.ptr 103 0))), (5, .x (.one (.p (pi y)))), (7, .x (.one (.p (pi y2)))), (29, .x (.one (.p (pi (imax (a.Counts.length : Int) (b.Counts.length : Int)))))), (30, .x (.one (.p (pi (0 : Int)))))], mkH [(102, .var [.p (.sl 1 (List.map encI a.Counts))]), (103, .var [.p (.sl 1 (List.map encI b.Counts))])]⟩) ?_
        refine lok_block ?_
        replace H0 := bind_some H0
        obtain ⟨v_2, hv_2, H0⟩ := H0
        refine lok_iter (fun x_ => ⟨45, mkS [(2, .x (.one (.ptr 102 0))), (3, .x (.one (.ptr 103 0))), (5, .x (.one (.p (pi y)))), (7, .x (.one (.p (pi y2)))), (29, .x (.one (.p (pi (imax (a.Counts.length : Int) (b.Counts.length : Int)))))), (30, .x (.one (.p (pi x_))))], mkH [(102, .var [.p (.sl 1 (List.map encI a.Counts))]), (103, .var [.p (.sl 1 (List.map encI b.Counts))])]⟩) hv_2 imp_au ?_
        · rintro v o_1 H1 k_1
          unfold distribution_Dominates_l2 at H1
          try dsimp only at H1 ⊢
          refine lok_rt E0 (⟨45, mkS [(2, .x (.one (.ptr 102 0))), (3, .x (.one (.ptr 103 0))), (5, .x (.one (.p (pi y)))), (7, .x (.one (.p (pi y2)))), (29, .x (.one (.p (pi (imax (a.Counts.length : Int) (b.Counts.length : Int)))))), (30, .x (.one (.p (pi v)))), (31, .x (.one (.p (.val (.bool (decide (v < (imax (a.Counts.length : Int) (b.Counts.length : Int)))))))))], mkH [(102, .var [.p (.sl 1 (List.map encI a.Counts))]), (103, .var [.p (.sl 1 (List.map encI b.Counts))])]⟩) ?_
          refine lok_seq ?_
          refine lok_c (decide (v < (imax (a.Counts.length : Int) (b.Counts.length : Int)))) ?_ ?_
          · intro b_6
            replace H1 := cpos H1 b_6
            refine lok_skip ?_
            try simp only [thenL, blockL, ↓reduceIte, reduceCtorEq]
            refine lok_seq ?_
            refine lok_block ?_
            refine lok_rt E0 (⟨45, mkS [(2, .x (.one (.ptr 102 0))), (3, .x (.one (.ptr 103 0))), (5, .x (.one (.p (pi y)))), (7, .x (.one (.p (pi y2)))), (8, .x (.one (.p (pi v)))), (29, .x (.one (.p (pi (imax (a.Counts.length : Int) (b.Counts.length : Int)))))), (30, .x (.one (.p (pi v))))], mkH [(102, .var [.p (.sl 1 (List.map encI a.Counts))]), (103, .var [.p (.sl 1 (List.map encI b.Counts))])]⟩) ?_
            replace H1 := bind_some H1
            obtain ⟨y4, h_3, H1⟩ := H1
            replace H1 := bind_some H1
            obtain ⟨y5, h_4, H1⟩ := H1
            refine lok_dt (Env.of E0 [⟨some 35, 16, [.agg [.p (.sl 1 (List.map encI a.Counts))], .one (.p (pi v))], [], [.one (.p (pi y4))], [], True, fun _ => ok_distribution_Below a v y4 h_3, []⟩,
      ⟨some 40, 16, [.agg [.p (.sl 1 (List.map encI b.Counts))], .one (.p (pi v))], [], [.one (.p (pi y5))], [], True, fun _ => ok_distribution_Below b v y5 h_4, []⟩]) 10 (⟨45, mkS [(2, .x (.one (.ptr 102 0))), (3, .x (.one (.ptr 103 0))), (5, .x (.one (.p (pi y)))), (7, .x (.one (.p (pi y2)))), (29, .x (.one (.p (pi (imax (a.Counts.length : Int) (b.Counts.length : Int)))))), (30, .x (.one (.p (pi v)))), (43, .x (.one (.p (.val (.bool (decide ((IntKind.i64.wrap (y5 * y)) < (IntKind.i64.wrap (y4 * y2)))))))))], mkH [(102, .var [.p (.sl 1 (List.map encI a.Counts))]), (103, .var [.p (.sl 1 (List.map encI b.Counts))])]⟩) (by kernel_rfl) (by kernel_rfl) ?_
            refine lok_c (decide ((IntKind.i64.wrap (y5 * y)) < (IntKind.i64.wrap (y4 * y2)))) ?_ ?_
            · intro b_5
              replace H1 := cpos H1 b_5
              refine lok_rt E0 (⟨45, mkS [(4, .x (.one (.p (.val (.bool false)))))], mkH []⟩) ?_
              refine lok_ret ?_
              try simp only [thenL, blockL, ↓reduceIte, reduceCtorEq]
              have e_1 := k_1 _ (Option.some.inj H1).symm
              subst e_1
              try dsimp only at H0
              obtain rfl := Option.some.inj H0
              try simp only [thenL, blockL]
              exact fin_au _ (.inr rfl) [] (⟨45, mkS [(4, .x (.one (.p (.val (.bool false)))))], mkH []⟩) rfl rfl imp_au
            · intro b_5
              replace H1 := cneg H1 b_5
              refine lok_skip ?_
              try simp only [thenL, blockL, ↓reduceIte, reduceCtorEq]
              refine lok_rl E0 (⟨45, mkS [(2, .x (.one (.ptr 102 0))), (3, .x (.one (.ptr 103 0))), (5, .x (.one (.p (pi y)))), (7, .x (.one (.p (pi y2)))), (29, .x (.one (.p (pi (imax (a.Counts.length : Int) (b.Counts.length : Int)))))), (30, .x (.one (.p (pi (IntKind.i64.wrap (v + (1 : Int)))))))], mkH [(102, .var [.p (.sl 1 (List.map encI a.Counts))]), (103, .var [.p (.sl 1 (List.map encI b.Counts))])]⟩) ?_
              try simp only [thenL, blockL, ↓reduceIte, reduceCtorEq]
              exact ⟨(IntKind.i64.wrap (v + (1 : Int))), (Option.some.inj H1).symm, imp_au⟩
          · intro b_6
            replace H1 := cneg H1 b_6
            refine lok_exit ?_
            try simp only [thenL, blockL, ↓reduceIte, reduceCtorEq]
            have e_1 := k_1 _ (Option.some.inj H1).symm
            subst e_1
            try dsimp only at H0
            try simp only [thenL, blockL, ↓reduceIte, reduceCtorEq]
            exact ⟨(), H0, imp_au⟩
theorem ok_distribution_Smooth (d : api_Distribution) (r_ : api_Distribution × Int) (H0 : distribution_Smooth d = some r_) : CallOK Try.prog 24 [.agg [.p (.sl 1 (List.map encI d.Counts))]] [] [.agg [.p (.sl 1 (List.map encI r_.1.Counts))], .one (.p (pi r_.2))] [] := by
  refine callOK (n := 29) (rs := [.cell 2 26, .tmp 3]) (nb := 0) (V := []) Try.func24 rfl (by kernel_rfl) rfl rfl rfl rfl (Nat.le_of_ble_eq_true rfl) (by decide) ?_
  unfold distribution_Smooth at H0
  refine lok_rt E0 (⟨29, mkS [(1, .x (.one (.ptr 101 0))), (2, .x (.one (.ptr 102 0)))], mkH [(101, .var [.p (.sl 1 (List.map encI d.Counts))]), (102, .var [.p .nil])]⟩) ?_
  refine lok_seq ?_
  replace H0 := bind_some H0
  obtain ⟨y, h_0, H0⟩ := H0
  refine lok_rt (Env.of E0 [⟨some 7, 28, [.agg [.p (.sl 1 (List.map encI d.Counts))]], [], [.one (.p (.val (.bool y)))], [], True, fun _ => ok_distribution_Valid d y h_0, []⟩]) (⟨29, mkS [(1, .x (.one (.ptr 101 0))), (2, .x (.one (.ptr 102 0))), (8, .x (.one (.p (.val (.bool (!y))))))], mkH [(101, .var [.p (.sl 1 (List.map encI d.Counts))]), (102, .var [.p .nil])]⟩) ?_
  refine lok_c (!y) ?_ ?_
  · intro b_6
    replace H0 := cpos H0 b_6
    refine lok_rt E0 (⟨29, mkS [(2, .x (.one (.ptr 102 0))), (3, .x (.one (.p (pi (1 : Int)))))], mkH [(102, .var [.p .nil])]⟩) ?_
    refine lok_ret ?_
    obtain rfl := Option.some.inj H0
    try simp only [thenL, blockL]
    exact fin_au _ (.inr rfl) [] (⟨29, mkS [(2, .x (.one (.ptr 102 0))), (3, .x (.one (.p (pi (1 : Int)))))], mkH [(102, .var [.p (.sl 1 (List.map encI ([] : List Int)))])]⟩) rfl rfl imp_au
  · intro b_6
    replace H0 := cneg H0 b_6
    refine lok_skip ?_
    try simp only [thenL, blockL, ↓reduceIte, reduceCtorEq]
    replace H0 := req_some H0
    obtain ⟨q_5, H0⟩ := H0
    refine lok_rt E0 (⟨29, mkS [(1, .x (.one (.ptr 101 0))), (2, .x (.one (.ptr 102 0))), (4, .x (.one (.vw 113)))], mkH [(101, .var [.p (.sl 1 (List.map encI d.Counts))]), (102, .var [.p .nil]), (113, .arr 1 (List.map encI (rep (d.Counts.length : Int) (0 : Int))))]⟩) ?_
    refine lok_join (fun x_ : (List Int) => distribution_Smooth_j1 d x_ = some r_) (fun x_ => ⟨29, mkS [(1, .x (.one (.ptr 101 0))), (2, .x (.one (.ptr 102 0))), (4, .x (.one (.vw 113)))], mkH [(101, .var [.p (.sl 1 (List.map encI d.Counts))]), (102, .var [.p .nil]), (113, .arr 1 (List.map encI x_))]⟩) ?hydistribution_Smooth_j1 ?hxdistribution_Smooth_j1
    case hydistribution_Smooth_j1 =>
      rintro w H0
      try dsimp only at H0 ⊢
      unfold distribution_Smooth_j1 at H0
      refine lok_imp (st' := ⟨29, mkS [(1, .x (.one (.ptr 101 0))), (2, .x (.one (.ptr 102 0))), (4, .x (.one (.p (.sl 1 (List.map encI w)))))], mkH [(101, .var [.p (.sl 1 (List.map encI d.Counts))]), (102, .var [.p .nil])]⟩) (Imp.trans (imp_frz 113 1 (List.map encI w)) imp_au) ?_
      replace H0 := bind_some H0
      obtain ⟨⟨y1, y2⟩, h_1, H0⟩ := H0
      try dsimp only at H0
      refine lok_rt (Env.of E0 [⟨some 26, 20, [.agg [.p (.sl 1 (List.map encI d.Counts))], .agg [.p (.sl 1 (List.map encI w))]], [], [.agg [.p (.sl 1 (List.map encI y1.Counts))], .one (.p (pi y2))], [], True, fun _ => ok_distribution_Add d (api_Distribution.mk w) (y1, y2) h_1, []⟩]) (⟨29, mkS [(2, .x (.one (.ptr 102 0))), (3, .x (.one (.p (pi y2))))], mkH [(102, .var [.p (.sl 1 (List.map encI y1.Counts))])]⟩) ?_
      refine lok_ret ?_
      obtain rfl := Option.some.inj H0
      try simp only [thenL, blockL]
      exact fin_au _ (.inr rfl) [] (⟨29, mkS [(2, .x (.one (.ptr 102 0))), (3, .x (.one (.p (pi y2))))], mkH [(102, .var [.p (.sl 1 (List.map encI y1.Counts))])]⟩) rfl rfl imp_au
    case hxdistribution_Smooth_j1 =>
      refine lok_rt E0 (⟨29, mkS [(1, .x (.one (.ptr 101 0))), (2, .x (.one (.ptr 102 0))), (4, .x (.one (.vw 113))), (15, .x (.one (.p (pi ((rep (d.Counts.length : Int) (0 : Int)).length : Int))))), (16, .x (.one (.p (pi (0 : Int)))))], mkH [(101, .var [.p (.sl 1 (List.map encI d.Counts))]), (102, .var [.p .nil]), (113, .arr 1 (List.map encI (rep (d.Counts.length : Int) (0 : Int))))]⟩) ?_
      refine lok_block ?_
      replace H0 := bind_some H0
      obtain ⟨v_2, hv_2, H0⟩ := H0
      refine lok_iter (fun x_ => ⟨29, mkS [(1, .x (.one (.ptr 101 0))), (2, .x (.one (.ptr 102 0))), (4, .x (.one (.vw 113))), (15, .x (.one (.p (pi ((rep (d.Counts.length : Int) (0 : Int)).length : Int))))), (16, .x (.one (.p (pi x_.1))))], mkH [(101, .var [.p (.sl 1 (List.map encI d.Counts))]), (102, .var [.p .nil]), (113, .arr 1 (List.map encI x_.2))]⟩) hv_2 imp_au ?_
      · rintro ⟨v, w1⟩ o_1 H1 k_1
        unfold distribution_Smooth_l2 at H1
        try dsimp only at H1 ⊢
        refine lok_rt E0 (⟨29, mkS [(1, .x (.one (.ptr 101 0))), (2, .x (.one (.ptr 102 0))), (4, .x (.one (.vw 113))), (15, .x (.one (.p (pi ((rep (d.Counts.length : Int) (0 : Int)).length : Int))))), (16, .x (.one (.p (pi v)))), (17, .x (.one (.p (.val (.bool (decide (v < ((rep (d.Counts.length : Int) (0 : Int)).length : Int))))))))], mkH [(101, .var [.p (.sl 1 (List.map encI d.Counts))]), (102, .var [.p .nil]), (113, .arr 1 (List.map encI w1))]⟩) ?_
        refine lok_seq ?_
        refine lok_c (decide (v < ((rep (d.Counts.length : Int) (0 : Int)).length : Int))) ?_ ?_
        · intro b_4
          replace H1 := cpos H1 b_4
          refine lok_skip ?_
          try simp only [thenL, blockL, ↓reduceIte, reduceCtorEq]
          refine lok_seq ?_
          refine lok_block ?_
          refine lok_rt E0 (⟨29, mkS [(1, .x (.one (.ptr 101 0))), (2, .x (.one (.ptr 102 0))), (4, .x (.one (.vw 113))), (5, .x (.one (.p (pi v)))), (15, .x (.one (.p (pi ((rep (d.Counts.length : Int) (0 : Int)).length : Int))))), (16, .x (.one (.p (pi v))))], mkH [(101, .var [.p (.sl 1 (List.map encI d.Counts))]), (102, .var [.p .nil]), (113, .arr 1 (List.map encI w1))]⟩) ?_
          replace H1 := req_some H1
          obtain ⟨q_3, H1⟩ := H1
          refine lok_rl E0 (⟨29, mkS [(1, .x (.one (.ptr 101 0))), (2, .x (.one (.ptr 102 0))), (4, .x (.one (.vw 113))), (15, .x (.one (.p (pi ((rep (d.Counts.length : Int) (0 : Int)).length : Int))))), (16, .x (.one (.p (pi v))))], mkH [(101, .var [.p (.sl 1 (List.map encI d.Counts))]), (102, .var [.p .nil]), (113, .arr 1 (List.map encI (setI w1 v (1 : Int))))]⟩) ?_
          try simp only [thenL, blockL, ↓reduceIte, reduceCtorEq]
          refine lok_rl E0 (⟨29, mkS [(1, .x (.one (.ptr 101 0))), (2, .x (.one (.ptr 102 0))), (4, .x (.one (.vw 113))), (15, .x (.one (.p (pi ((rep (d.Counts.length : Int) (0 : Int)).length : Int))))), (16, .x (.one (.p (pi (IntKind.i64.wrap (v + (1 : Int)))))))], mkH [(101, .var [.p (.sl 1 (List.map encI d.Counts))]), (102, .var [.p .nil]), (113, .arr 1 (List.map encI (setI w1 v (1 : Int))))]⟩) ?_
          try simp only [thenL, blockL, ↓reduceIte, reduceCtorEq]
          exact ⟨((IntKind.i64.wrap (v + (1 : Int))), (setI w1 v (1 : Int))), (Option.some.inj H1).symm, imp_au⟩
        · intro b_4
          replace H1 := cneg H1 b_4
          refine lok_exit ?_
          try simp only [thenL, blockL, ↓reduceIte, reduceCtorEq]
          have e_1 := k_1 _ (Option.some.inj H1).symm
          subst e_1
          try dsimp only at H0
          try simp only [thenL, blockL, ↓reduceIte, reduceCtorEq]
          exact ⟨w1, H0, imp_au⟩
theorem ok_ref32_Make (scores : List Int) (most : Int) (r_ : api_Distribution × Int) (H0 : ref32_Make scores most = some r_) : CallOK Try.prog 25 [.one (.p (.sl 1 (List.map encI scores))), .one (.p (pi most))] [] [.agg [.p (.sl 1 (List.map encI r_.1.Counts))], .one (.p (pi r_.2))] [] := by
  refine callOK (n := 53) (rs := [.cell 4 26, .tmp 5]) (nb := 0) (V := []) Try.func25 rfl (by kernel_rfl) rfl rfl rfl rfl (Nat.le_of_ble_eq_true rfl) (by decide) ?_
  unfold ref32_Make at H0
  refine lok_rt E0 (⟨53, mkS [(0, .x (.one (.p (.sl 1 (List.map encI scores))))), (1, .x (.one (.p (pi most)))), (4, .x (.one (.ptr 104 0)))], mkH [(104, .var [.p .nil])]⟩) ?_
  refine lok_seq ?_
  refine lok_rt E0 (⟨53, mkS [(0, .x (.one (.p (.sl 1 (List.map encI scores))))), (1, .x (.one (.p (pi most)))), (4, .x (.one (.ptr 104 0))), (13, .x (.one (.p (.val (.bool ((decide (most < (0 : Int))) || (decide ((200 : Int) < most))))))))], mkH [(104, .var [.p .nil])]⟩) ?_
  refine lok_c ((decide (most < (0 : Int))) || (decide ((200 : Int) < most))) ?_ ?_
  · intro b_10
    replace H0 := cpos H0 b_10
    refine lok_rt E0 (⟨53, mkS [(4, .x (.one (.ptr 104 0))), (5, .x (.one (.p (pi (2 : Int)))))], mkH [(104, .var [.p .nil])]⟩) ?_
    refine lok_ret ?_
    obtain rfl := Option.some.inj H0
    try simp only [thenL, blockL]
    exact fin_au _ (.inr rfl) [] (⟨53, mkS [(4, .x (.one (.ptr 104 0))), (5, .x (.one (.p (pi (2 : Int)))))], mkH [(104, .var [.p (.sl 1 (List.map encI ([] : List Int)))])]⟩) rfl rfl imp_au
  · intro b_10
    replace H0 := cneg H0 b_10
    refine lok_skip ?_
    try simp only [thenL, blockL, ↓reduceIte, reduceCtorEq]
    replace H0 := req_some H0
    obtain ⟨q_9, H0⟩ := H0
    refine lok_rt E0 (⟨53, mkS [(0, .x (.one (.p (.sl 1 (List.map encI scores))))), (1, .x (.one (.p (pi most)))), (4, .x (.one (.ptr 104 0))), (6, .x (.one (.vw 117)))], mkH [(104, .var [.p .nil]), (117, .arr 1 (List.map encI (rep (IntKind.i64.wrap (most + (1 : Int))) (0 : Int))))]⟩) ?_
    refine lok_join (fun x_ : (List Int) => ref32_Make_j1 scores x_ = some r_) (fun x_ => ⟨53, mkS [(0, .x (.one (.p (.sl 1 (List.map encI scores))))), (4, .x (.one (.ptr 104 0))), (6, .x (.one (.vw 117)))], mkH [(104, .var [.p .nil]), (117, .arr 1 (List.map encI x_))]⟩) ?hyref32_Make_j1 ?hxref32_Make_j1
    case hyref32_Make_j1 =>
      rintro w H0
      try dsimp only at H0 ⊢
      unfold ref32_Make_j1 at H0
      refine lok_seq ?_
      refine lok_rt E0 (⟨53, mkS [(4, .x (.one (.ptr 104 0))), (6, .x (.one (.vw 117))), (49, .x (.one (.p (.val (.bool (decide ((1048576 : Int) < (scores.length : Int))))))))], mkH [(104, .var [.p .nil]), (117, .arr 1 (List.map encI w))]⟩) ?_
      refine lok_c (decide ((1048576 : Int) < (scores.length : Int))) ?_ ?_
      · intro b_0
        replace H0 := cpos H0 b_0
        refine lok_rt E0 (⟨53, mkS [(4, .x (.one (.ptr 104 0))), (5, .x (.one (.p (pi (3 : Int)))))], mkH [(104, .var [.p .nil])]⟩) ?_
        refine lok_ret ?_
        obtain rfl := Option.some.inj H0
        try simp only [thenL, blockL]
        exact fin_au _ (.inr rfl) [] (⟨53, mkS [(4, .x (.one (.ptr 104 0))), (5, .x (.one (.p (pi (3 : Int)))))], mkH [(104, .var [.p (.sl 1 (List.map encI ([] : List Int)))])]⟩) rfl rfl imp_au
      · intro b_0
        replace H0 := cneg H0 b_0
        refine lok_skip ?_
        try simp only [thenL, blockL, ↓reduceIte, reduceCtorEq]
        refine lok_rt E0 (⟨53, mkS [(4, .x (.one (.ptr 104 0))), (5, .x (.one (.p (pi (0 : Int)))))], mkH [(104, .var [.vw 117]), (117, .arr 1 (List.map encI w))]⟩) ?_
        refine lok_ret ?_
        obtain rfl := Option.some.inj H0
        try simp only [thenL, blockL]
        exact fin_au _ (.inr rfl) [] (⟨53, mkS [(4, .x (.one (.ptr 104 0))), (5, .x (.one (.p (pi (0 : Int)))))], mkH [(104, .var [.p (.sl 1 (List.map encI w))])]⟩) rfl rfl (Imp.trans (imp_frz 117 1 (List.map encI w)) imp_au)
    case hxref32_Make_j1 =>
      refine lok_rt E0 (⟨53, mkS [(0, .x (.one (.p (.sl 1 (List.map encI scores))))), (1, .x (.one (.p (pi most)))), (4, .x (.one (.ptr 104 0))), (6, .x (.one (.vw 117))), (7, .x (.one (.p (pi (0 : Int)))))], mkH [(104, .var [.p .nil]), (117, .arr 1 (List.map encI (rep (IntKind.i64.wrap (most + (1 : Int))) (0 : Int))))]⟩) ?_
      refine lok_block ?_
      replace H0 := bind_some H0
      obtain ⟨v_1, hv_1, H0⟩ := H0
      refine lok_iter (fun x_ => ⟨53, mkS [(0, .x (.one (.p (.sl 1 (List.map encI scores))))), (1, .x (.one (.p (pi most)))), (4, .x (.one (.ptr 104 0))), (6, .x (.one (.vw 117))), (7, .x (.one (.p (pi x_.1))))], mkH [(104, .var [.p .nil]), (117, .arr 1 (List.map encI x_.2))]⟩) hv_1 imp_au ?_
      · rintro ⟨i, w1⟩ o_1 H1 k_1
        unfold ref32_Make_l2 at H1
        try dsimp only at H1 ⊢
        refine lok_seq ?_
        refine lok_rt E0 (⟨53, mkS [(0, .x (.one (.p (.sl 1 (List.map encI scores))))), (1, .x (.one (.p (pi most)))), (4, .x (.one (.ptr 104 0))), (6, .x (.one (.vw 117))), (7, .x (.one (.p (pi i)))), (21, .x (.one (.p (.val (.bool (decide (i < (scores.length : Int))))))))], mkH [(104, .var [.p .nil]), (117, .arr 1 (List.map encI w1))]⟩) ?_
        refine lok_c (decide (i < (scores.length : Int))) ?_ ?_
        · intro b_8
          replace H1 := cpos H1 b_8
          refine lok_skip ?_
          try simp only [thenL, blockL, ↓reduceIte, reduceCtorEq]
          refine lok_seq ?_
          refine lok_block ?_
          refine lok_seq ?_
          replace H1 := req_some H1
          obtain ⟨⟨q_6, q_7⟩, H1⟩ := H1
          refine lok_rt E0 (⟨53, mkS [(0, .x (.one (.p (.sl 1 (List.map encI scores))))), (1, .x (.one (.p (pi most)))), (4, .x (.one (.ptr 104 0))), (6, .x (.one (.vw 117))), (7, .x (.one (.p (pi i)))), (36, .x (.one (.p (.val (.bool ((decide ((ix scores i) < (0 : Int))) || (decide (most < (ix scores i)))))))))], mkH [(104, .var [.p .nil]), (117, .arr 1 (List.map encI w1))]⟩) ?_
          refine lok_c ((decide ((ix scores i) < (0 : Int))) || (decide (most < (ix scores i)))) ?_ ?_
          · intro b_5
            replace H1 := cpos H1 b_5
            refine lok_rt E0 (⟨53, mkS [(4, .x (.one (.ptr 104 0))), (5, .x (.one (.p (pi (2 : Int)))))], mkH [(104, .var [.p .nil])]⟩) ?_
            refine lok_ret ?_
            try simp only [thenL, blockL, ↓reduceIte, reduceCtorEq]
            have e_1 := k_1 _ (Option.some.inj H1).symm
            subst e_1
            try dsimp only at H0
            obtain rfl := Option.some.inj H0
            try simp only [thenL, blockL]
            exact fin_au _ (.inr rfl) [] (⟨53, mkS [(4, .x (.one (.ptr 104 0))), (5, .x (.one (.p (pi (2 : Int)))))], mkH [(104, .var [.p (.sl 1 (List.map encI ([] : List Int)))])]⟩) rfl rfl imp_au
          · intro b_5
            replace H1 := cneg H1 b_5
            refine lok_skip ?_
            try simp only [thenL, blockL, ↓reduceIte, reduceCtorEq]
            replace H1 := req_some H1
            obtain ⟨⟨q_3, q_4⟩, H1⟩ := H1
            replace H1 := bindV_some H1
            obtain ⟨w3, a_2, H1⟩ := H1
            refine lok_rlg E0 a_2 (⟨53, mkS [(0, .x (.one (.p (.sl 1 (List.map encI scores))))), (1, .x (.one (.p (pi most)))), (4, .x (.one (.ptr 104 0))), (6, .x (.one (.vw 117))), (7, .x (.one (.p (pi i))))], mkH [(104, .var [.p .nil]), (117, .arr 1 (List.map encI w3))]⟩) ?_
            try simp only [thenL, blockL, ↓reduceIte, reduceCtorEq]
            refine lok_rl E0 (⟨53, mkS [(0, .x (.one (.p (.sl 1 (List.map encI scores))))), (1, .x (.one (.p (pi most)))), (4, .x (.one (.ptr 104 0))), (6, .x (.one (.vw 117))), (7, .x (.one (.p (pi (IntKind.i64.wrap (i + (1 : Int)))))))], mkH [(104, .var [.p .nil]), (117, .arr 1 (List.map encI w3))]⟩) ?_
            try simp only [thenL, blockL, ↓reduceIte, reduceCtorEq]
            exact ⟨((IntKind.i64.wrap (i + (1 : Int))), w3), (Option.some.inj H1).symm, imp_au⟩
        · intro b_8
          replace H1 := cneg H1 b_8
          refine lok_exit ?_
          try simp only [thenL, blockL, ↓reduceIte, reduceCtorEq]
          have e_1 := k_1 _ (Option.some.inj H1).symm
          subst e_1
          try dsimp only at H0
          try simp only [thenL, blockL, ↓reduceIte, reduceCtorEq]
          exact ⟨w1, H0, imp_au⟩
set_option maxHeartbeats 4000000 in
theorem ok_law32_odd (d : mark_Dice) (x : api_Distribution) (r_ : api_Distribution × mark_Dice) (H0 : law32_odd d x = some r_) : CallOK Try.prog 27 [.one (.ptr 0 0), .agg [.p (.sl 1 (List.map encI x.Counts))]] [.var [.p (.sl 1 (List.map encI d.L)), .p (pi d.At)]] [.agg [.p (.sl 1 (List.map encI r_.1.Counts))]] [some (.var [.p (.sl 1 (List.map encI r_.2.L)), .p (pi r_.2.At)])] := by
  refine callOK (n := 44) (rs := [.cell 4 26]) (nb := 1) (V := [0]) Try.func27 rfl (by kernel_rfl) rfl rfl rfl rfl (Nat.le_of_ble_eq_true rfl) (by decide) ?_
  unfold law32_odd at H0
  refine lok_rt E0 (⟨44, mkS [(0, .x (.one (.ptr 0 0))), (3, .x (.one (.ptr 103 0))), (4, .x (.one (.ptr 104 0)))], mkH [(0, .var [.p (.sl 1 (List.map encI d.L)), .p (pi d.At)]), (103, .var [.p (.sl 1 (List.map encI x.Counts))]), (104, .var [.p .nil])]⟩) ?_
  replace H0 := req_some H0
  obtain ⟨q_13, H0⟩ := H0
  refine lok_rt E0 (⟨44, mkS [(0, .x (.one (.ptr 0 0))), (4, .x (.one (.ptr 104 0))), (5, .x (.one (.vw 109)))], mkH [(0, .var [.p (.sl 1 (List.map encI d.L)), .p (pi d.At)]), (104, .var [.p .nil]), (109, .arr 1 (List.map encI x.Counts))]⟩) ?_
  refine lok_join (fun x_ : (List Int) × (List Int) × Int => law32_odd_j1 x_.1 x_.2.1 x_.2.2 = some r_) (fun x_ => ⟨44, mkS [(4, .x (.one (.ptr 104 0))), (5, .x (.one (.p (.sl 1 (List.map encI x_.1)))))], mkH [(0, .var [.p (.sl 1 (List.map encI x_.2.1)), .p (pi x_.2.2)]), (104, .var [.p .nil])]⟩) ?hylaw32_odd_j1 ?hxlaw32_odd_j1
  case hylaw32_odd_j1 =>
    rintro ⟨c, d1, d2⟩ H0
    try dsimp only at H0 ⊢
    unfold law32_odd_j1 at H0
    refine lok_rt E0 (⟨44, mkS [(4, .x (.one (.ptr 104 0)))], mkH [(0, .var [.p (.sl 1 (List.map encI d1)), .p (pi d2)]), (104, .var [.p (.sl 1 (List.map encI c))])]⟩) ?_
    refine lok_ret ?_
    obtain rfl := Option.some.inj H0
    try simp only [thenL, blockL]
    exact fin_au _ (.inr rfl) [0] (⟨44, mkS [(4, .x (.one (.ptr 104 0)))], mkH [(0, .var [.p (.sl 1 (List.map encI d1)), .p (pi d2)]), (104, .var [.p (.sl 1 (List.map encI c))])]⟩) rfl rfl imp_au
  case hxlaw32_odd_j1 =>
    replace H0 := bind_some H0
    obtain ⟨⟨y, y1⟩, h_0, H0⟩ := H0
    try dsimp only at H0
    refine lok_rt (Env.of E0 [⟨some 11, 26, [.one (.ptr 0 0), .one (.p (pi (4 : Int)))], [.var [.p (.sl 1 (List.map encI d.L)), .p (pi d.At)]], [.one (.p (pi y))], [some (.var [.p (.sl 1 (List.map encI y1.L)), .p (pi y1.At)])], True, fun _ => ok_mark_Dice_Next d (4 : Int) (y, y1) h_0, []⟩]) (⟨44, mkS [(0, .x (.one (.ptr 0 0))), (4, .x (.one (.ptr 104 0))), (5, .x (.one (.vw 109))), (11, .x (.one (.p (pi y))))], mkH [(0, .var [.p (.sl 1 (List.map encI y1.L)), .p (pi y1.At)]), (104, .var [.p .nil]), (109, .arr 1 (List.map encI x.Counts))]⟩) ?_
    refine lok_block ?_
    refine lok_rt E0 (⟨44, mkS [(0, .x (.one (.ptr 0 0))), (4, .x (.one (.ptr 104 0))), (5, .x (.one (.vw 109))), (11, .x (.one (.p (pi y)))), (18, .x (.one (.p (.val (.bool (y == (0 : Int)))))))], mkH [(0, .var [.p (.sl 1 (List.map encI y1.L)), .p (pi y1.At)]), (104, .var [.p .nil]), (109, .arr 1 (List.map encI x.Counts))]⟩) ?_
    refine lok_c (y == (0 : Int)) ?_ ?_
    · intro b_12
      replace H0 := cpos H0 b_12
      replace H0 := bind_some H0
      obtain ⟨⟨y2, y3⟩, h_1, H0⟩ := H0
      try dsimp only at H0
      replace H0 := bind_some H0
      obtain ⟨⟨y4, y5⟩, h_2, H0⟩ := H0
      try dsimp only at H0
      replace H0 := req_some H0
      obtain ⟨q_3, H0⟩ := H0
      refine lok_rl (Env.of E0 [⟨some 24, 26, [.one (.ptr 0 0), .one (.p (pi (x.Counts.length : Int)))], [.var [.p (.sl 1 (List.map encI y1.L)), .p (pi y1.At)]], [.one (.p (pi y2))], [some (.var [.p (.sl 1 (List.map encI y3.L)), .p (pi y3.At)])], True, fun _ => ok_mark_Dice_Next y1 (x.Counts.length : Int) (y2, y3) h_1, []⟩,
      ⟨some 27, 40, [.one (.ptr 0 0), .one (.p (.sl 1 (List.map encI ([(-1 : Int), (1048576 : Int), (1048577 : Int)]))))], [.var [.p (.sl 1 (List.map encI y3.L)), .p (pi y3.At)]], [.one (.p (pi y4))], [some (.var [.p (.sl 1 (List.map encI y5.L)), .p (pi y5.At)])], True, fun _ => ok_mark_Dice_Pick y3 ([(-1 : Int), (1048576 : Int), (1048577 : Int)]) (y4, y5) h_2, []⟩]) (⟨44, mkS [(4, .x (.one (.ptr 104 0))), (5, .x (.one (.vw 109)))], mkH [(0, .var [.p (.sl 1 (List.map encI y5.L)), .p (pi y5.At)]), (104, .var [.p .nil]), (109, .arr 1 (List.map encI (setI x.Counts y2 y4)))]⟩) ?_
      try simp only [thenL, blockL, ↓reduceIte, reduceCtorEq]
      exact ⟨((setI x.Counts y2 y4), y5.L, y5.At), H0, (Imp.trans (imp_frz 109 1 (List.map encI (setI x.Counts y2 y4))) imp_au)⟩
    · intro b_12
      replace H0 := cneg H0 b_12
      refine lok_rt E0 (⟨44, mkS [(0, .x (.one (.ptr 0 0))), (4, .x (.one (.ptr 104 0))), (5, .x (.one (.vw 109))), (11, .x (.one (.p (pi y)))), (29, .x (.one (.p (.val (.bool (y == (1 : Int)))))))], mkH [(0, .var [.p (.sl 1 (List.map encI y1.L)), .p (pi y1.At)]), (104, .var [.p .nil]), (109, .arr 1 (List.map encI x.Counts))]⟩) ?_
      refine lok_c (y == (1 : Int)) ?_ ?_
      · intro b_11
        replace H0 := cpos H0 b_11
        refine lok_rl E0 (⟨44, mkS [(4, .x (.one (.ptr 104 0))), (5, .x (.one (.vw 105)))], mkH [(0, .var [.p (.sl 1 (List.map encI y1.L)), .p (pi y1.At)]), (104, .var [.p .nil]), (105, .arr 1 (List.map encI ([] : List Int)))]⟩) ?_
        try simp only [thenL, blockL, ↓reduceIte, reduceCtorEq]
        exact ⟨(([] : List Int), y1.L, y1.At), H0, (Imp.trans (imp_frz 105 1 (List.map encI ([] : List Int))) imp_au)⟩
      · intro b_11
        replace H0 := cneg H0 b_11
        refine lok_rt E0 (⟨44, mkS [(0, .x (.one (.ptr 0 0))), (4, .x (.one (.ptr 104 0))), (5, .x (.one (.vw 109))), (31, .x (.one (.p (.val (.bool (y == (2 : Int)))))))], mkH [(0, .var [.p (.sl 1 (List.map encI y1.L)), .p (pi y1.At)]), (104, .var [.p .nil]), (109, .arr 1 (List.map encI x.Counts))]⟩) ?_
        refine lok_c (y == (2 : Int)) ?_ ?_
        · intro b_10
          replace H0 := cpos H0 b_10
          refine lok_rt E0 (⟨44, mkS [(4, .x (.one (.ptr 104 0))), (5, .x (.one (.vw 109))), (34, .x (.one (.p (pi (x.Counts.length : Int))))), (35, .x (.one (.p (pi (0 : Int)))))], mkH [(0, .var [.p (.sl 1 (List.map encI y1.L)), .p (pi y1.At)]), (104, .var [.p .nil]), (109, .arr 1 (List.map encI x.Counts))]⟩) ?_
          refine lok_block ?_
          replace H0 := bind_some H0
          obtain ⟨v_4, hv_4, H0⟩ := H0
          refine lok_iter (fun x_ => ⟨44, mkS [(4, .x (.one (.ptr 104 0))), (5, .x (.one (.vw 109))), (34, .x (.one (.p (pi (x.Counts.length : Int))))), (35, .x (.one (.p (pi x_.1))))], mkH [(0, .var [.p (.sl 1 (List.map encI y1.L)), .p (pi y1.At)]), (104, .var [.p .nil]), (109, .arr 1 (List.map encI x_.2))]⟩) hv_4 imp_au ?_
          · rintro ⟨v, w⟩ o_1 H1 k_1
            unfold law32_odd_l2 at H1
            try dsimp only at H1 ⊢
            refine lok_rt E0 (⟨44, mkS [(4, .x (.one (.ptr 104 0))), (5, .x (.one (.vw 109))), (34, .x (.one (.p (pi (x.Counts.length : Int))))), (35, .x (.one (.p (pi v)))), (36, .x (.one (.p (.val (.bool (decide (v < (x.Counts.length : Int))))))))], mkH [(0, .var [.p (.sl 1 (List.map encI y1.L)), .p (pi y1.At)]), (104, .var [.p .nil]), (109, .arr 1 (List.map encI w))]⟩) ?_
            refine lok_seq ?_
            refine lok_c (decide (v < (x.Counts.length : Int))) ?_ ?_
            · intro b_6
              replace H1 := cpos H1 b_6
              refine lok_skip ?_
              try simp only [thenL, blockL, ↓reduceIte, reduceCtorEq]
              refine lok_seq ?_
              refine lok_block ?_
              refine lok_rt E0 (⟨44, mkS [(4, .x (.one (.ptr 104 0))), (5, .x (.one (.vw 109))), (6, .x (.one (.p (pi v)))), (34, .x (.one (.p (pi (x.Counts.length : Int))))), (35, .x (.one (.p (pi v))))], mkH [(0, .var [.p (.sl 1 (List.map encI y1.L)), .p (pi y1.At)]), (104, .var [.p .nil]), (109, .arr 1 (List.map encI w))]⟩) ?_
              replace H1 := req_some H1
              obtain ⟨q_5, H1⟩ := H1
              refine lok_rl E0 (⟨44, mkS [(4, .x (.one (.ptr 104 0))), (5, .x (.one (.vw 109))), (34, .x (.one (.p (pi (x.Counts.length : Int))))), (35, .x (.one (.p (pi v))))], mkH [(0, .var [.p (.sl 1 (List.map encI y1.L)), .p (pi y1.At)]), (104, .var [.p .nil]), (109, .arr 1 (List.map encI (setI w v (0 : Int))))]⟩) ?_
              try simp only [thenL, blockL, ↓reduceIte, reduceCtorEq]
              refine lok_rl E0 (⟨44, mkS [(4, .x (.one (.ptr 104 0))), (5, .x (.one (.vw 109))), (34, .x (.one (.p (pi (x.Counts.length : Int))))), (35, .x (.one (.p (pi (IntKind.i64.wrap (v + (1 : Int)))))))], mkH [(0, .var [.p (.sl 1 (List.map encI y1.L)), .p (pi y1.At)]), (104, .var [.p .nil]), (109, .arr 1 (List.map encI (setI w v (0 : Int))))]⟩) ?_
              try simp only [thenL, blockL, ↓reduceIte, reduceCtorEq]
              exact ⟨((IntKind.i64.wrap (v + (1 : Int))), (setI w v (0 : Int))), (Option.some.inj H1).symm, imp_au⟩
            · intro b_6
              replace H1 := cneg H1 b_6
              refine lok_exit ?_
              try simp only [thenL, blockL, ↓reduceIte, reduceCtorEq]
              have e_1 := k_1 _ (Option.some.inj H1).symm
              subst e_1
              try dsimp only at H0
              try simp only [thenL, blockL, ↓reduceIte, reduceCtorEq]
              exact ⟨(w, y1.L, y1.At), H0, (Imp.trans (imp_frz 109 1 (List.map encI w)) imp_au)⟩
        · intro b_10
          replace H0 := cneg H0 b_10
          replace H0 := bind_some H0
          obtain ⟨⟨y6, y7⟩, h_7, H0⟩ := H0
          try dsimp only at H0
          replace H0 := req_some H0
          obtain ⟨q_9, H0⟩ := H0
          refine lok_rt (Env.of E0 [⟨some 14, 40, [.one (.ptr 0 0), .one (.p (.sl 1 (List.map encI ([(200 : Int), (201 : Int), (202 : Int)]))))], [.var [.p (.sl 1 (List.map encI y1.L)), .p (pi y1.At)]], [.one (.p (pi y6))], [some (.var [.p (.sl 1 (List.map encI y7.L)), .p (pi y7.At)])], True, fun _ => ok_mark_Dice_Pick y1 ([(200 : Int), (201 : Int), (202 : Int)]) (y6, y7) h_7, []⟩]) (⟨44, mkS [(4, .x (.one (.ptr 104 0))), (5, .x (.one (.vw 115)))], mkH [(0, .var [.p (.sl 1 (List.map encI y7.L)), .p (pi y7.At)]), (104, .var [.p .nil]), (115, .arr 1 (List.map encI (rep y6 (0 : Int))))]⟩) ?_
          replace H0 := req_some H0
          obtain ⟨q_8, H0⟩ := H0
          refine lok_rl E0 (⟨44, mkS [(4, .x (.one (.ptr 104 0))), (5, .x (.one (.vw 115)))], mkH [(0, .var [.p (.sl 1 (List.map encI y7.L)), .p (pi y7.At)]), (104, .var [.p .nil]), (115, .arr 1 (List.map encI (setI (rep y6 (0 : Int)) (3 : Int) (5 : Int))))]⟩) ?_
          try simp only [thenL, blockL, ↓reduceIte, reduceCtorEq]
          exact ⟨((setI (rep y6 (0 : Int)) (3 : Int) (5 : Int)), y7.L, y7.At), H0, (Imp.trans (imp_frz 115 1 (List.map encI (setI (rep y6 (0 : Int)) (3 : Int) (5 : Int)))) imp_au)⟩
theorem ok_ref32_Valid (d : api_Distribution) (r_ : Bool) (H0 : ref32_Valid d = some r_) : CallOK Try.prog 29 [.agg [.p (.sl 1 (List.map encI d.Counts))]] [] [.one (.p (.val (.bool r_)))] [] := by
  refine callOK (n := 45) (rs := [.tmp 2]) (nb := 0) (V := []) Try.func29 rfl (by kernel_rfl) rfl rfl rfl rfl (Nat.le_of_ble_eq_true rfl) (by decide) ?_
  unfold ref32_Valid at H0
  refine lok_rt E0 (⟨45, mkS [(1, .x (.one (.ptr 101 0)))], mkH [(101, .var [.p (.sl 1 (List.map encI d.Counts))])]⟩) ?_
  refine lok_seq ?_
  refine lok_rt E0 (⟨45, mkS [(1, .x (.one (.ptr 101 0))), (14, .x (.one (.p (.val (.bool ((decide ((d.Counts.length : Int) < (1 : Int))) || (decide ((201 : Int) < (d.Counts.length : Int)))))))))], mkH [(101, .var [.p (.sl 1 (List.map encI d.Counts))])]⟩) ?_
  refine lok_c ((decide ((d.Counts.length : Int) < (1 : Int))) || (decide ((201 : Int) < (d.Counts.length : Int)))) ?_ ?_
  · intro b_6
    replace H0 := cpos H0 b_6
    refine lok_rt E0 (⟨45, mkS [(2, .x (.one (.p (.val (.bool false)))))], mkH []⟩) ?_
    refine lok_ret ?_
    obtain rfl := Option.some.inj H0
    try simp only [thenL, blockL]
    exact fin_au _ (.inr rfl) [] (⟨45, mkS [(2, .x (.one (.p (.val (.bool false)))))], mkH []⟩) rfl rfl imp_au
  · intro b_6
    replace H0 := cneg H0 b_6
    refine lok_skip ?_
    try simp only [thenL, blockL, ↓reduceIte, reduceCtorEq]
    refine lok_rt E0 (⟨45, mkS [(1, .x (.one (.ptr 101 0))), (3, .x (.one (.p (pi (0 : Int)))))], mkH [(101, .var [.p (.sl 1 (List.map encI d.Counts))])]⟩) ?_
    refine lok_join (fun x_ : Unit => ref32_Valid_j1 = some r_) (fun x_ => ⟨45, mkS [], mkH []⟩) ?hyref32_Valid_j1 ?hxref32_Valid_j1
    case hyref32_Valid_j1 =>
      rintro _ H0
      try dsimp only at H0 ⊢
      unfold ref32_Valid_j1 at H0
      refine lok_rt E0 (⟨45, mkS [(2, .x (.one (.p (.val (.bool true)))))], mkH []⟩) ?_
      refine lok_ret ?_
      obtain rfl := Option.some.inj H0
      try simp only [thenL, blockL]
      exact fin_au _ (.inr rfl) [] (⟨45, mkS [(2, .x (.one (.p (.val (.bool true)))))], mkH []⟩) rfl rfl imp_au
    case hxref32_Valid_j1 =>
      refine lok_rt E0 (⟨45, mkS [(1, .x (.one (.ptr 101 0))), (3, .x (.one (.p (pi (0 : Int))))), (4, .x (.one (.p (pi (0 : Int)))))], mkH [(101, .var [.p (.sl 1 (List.map encI d.Counts))])]⟩) ?_
      refine lok_block ?_
      replace H0 := bind_some H0
      obtain ⟨v_0, hv_0, H0⟩ := H0
      refine lok_iter (fun x_ => ⟨45, mkS [(1, .x (.one (.ptr 101 0))), (3, .x (.one (.p (pi x_.1)))), (4, .x (.one (.p (pi x_.2))))], mkH [(101, .var [.p (.sl 1 (List.map encI d.Counts))])]⟩) hv_0 imp_au ?_
      · rintro ⟨n, i⟩ o_1 H1 k_1
        unfold ref32_Valid_l2 at H1
        try dsimp only at H1 ⊢
        refine lok_seq ?_
        refine lok_rt E0 (⟨45, mkS [(1, .x (.one (.ptr 101 0))), (3, .x (.one (.p (pi n)))), (4, .x (.one (.p (pi i)))), (19, .x (.one (.p (.val (.bool (decide (i < (d.Counts.length : Int))))))))], mkH [(101, .var [.p (.sl 1 (List.map encI d.Counts))])]⟩) ?_
        refine lok_c (decide (i < (d.Counts.length : Int))) ?_ ?_
        · intro b_5
          replace H1 := cpos H1 b_5
          refine lok_skip ?_
          try simp only [thenL, blockL, ↓reduceIte, reduceCtorEq]
          refine lok_seq ?_
          refine lok_block ?_
          refine lok_seq ?_
          replace H1 := req_some H1
          obtain ⟨⟨q_3, q_4⟩, H1⟩ := H1
          refine lok_rt E0 (⟨45, mkS [(1, .x (.one (.ptr 101 0))), (3, .x (.one (.p (pi n)))), (4, .x (.one (.p (pi i)))), (37, .x (.one (.p (.val (.bool ((decide ((ix d.Counts i) < (0 : Int))) || (decide ((IntKind.i64.wrap ((1048576 : Int) - n)) < (ix d.Counts i)))))))))], mkH [(101, .var [.p (.sl 1 (List.map encI d.Counts))])]⟩) ?_
          refine lok_c ((decide ((ix d.Counts i) < (0 : Int))) || (decide ((IntKind.i64.wrap ((1048576 : Int) - n)) < (ix d.Counts i)))) ?_ ?_
          · intro b_2
            replace H1 := cpos H1 b_2
            refine lok_rt E0 (⟨45, mkS [(2, .x (.one (.p (.val (.bool false)))))], mkH []⟩) ?_
            refine lok_ret ?_
            try simp only [thenL, blockL, ↓reduceIte, reduceCtorEq]
            have e_1 := k_1 _ (Option.some.inj H1).symm
            subst e_1
            try dsimp only at H0
            obtain rfl := Option.some.inj H0
            try simp only [thenL, blockL]
            exact fin_au _ (.inr rfl) [] (⟨45, mkS [(2, .x (.one (.p (.val (.bool false)))))], mkH []⟩) rfl rfl imp_au
          · intro b_2
            replace H1 := cneg H1 b_2
            refine lok_skip ?_
            try simp only [thenL, blockL, ↓reduceIte, reduceCtorEq]
            replace H1 := req_some H1
            obtain ⟨q_1, H1⟩ := H1
            refine lok_rl E0 (⟨45, mkS [(1, .x (.one (.ptr 101 0))), (3, .x (.one (.p (pi (IntKind.i64.wrap (n + (ix d.Counts i))))))), (4, .x (.one (.p (pi i))))], mkH [(101, .var [.p (.sl 1 (List.map encI d.Counts))])]⟩) ?_
            try simp only [thenL, blockL, ↓reduceIte, reduceCtorEq]
            refine lok_rl E0 (⟨45, mkS [(1, .x (.one (.ptr 101 0))), (3, .x (.one (.p (pi (IntKind.i64.wrap (n + (ix d.Counts i))))))), (4, .x (.one (.p (pi (IntKind.i64.wrap (i + (1 : Int)))))))], mkH [(101, .var [.p (.sl 1 (List.map encI d.Counts))])]⟩) ?_
            try simp only [thenL, blockL, ↓reduceIte, reduceCtorEq]
            exact ⟨((IntKind.i64.wrap (n + (ix d.Counts i))), (IntKind.i64.wrap (i + (1 : Int)))), (Option.some.inj H1).symm, imp_au⟩
        · intro b_5
          replace H1 := cneg H1 b_5
          refine lok_exit ?_
          try simp only [thenL, blockL, ↓reduceIte, reduceCtorEq]
          have e_1 := k_1 _ (Option.some.inj H1).symm
          subst e_1
          try dsimp only at H0
          try simp only [thenL, blockL, ↓reduceIte, reduceCtorEq]
          exact ⟨(), H0, imp_au⟩
theorem ok_ref32_Below (d : api_Distribution) (score : Int) (r_ : Int) (H0 : ref32_Below d score = some r_) : CallOK Try.prog 32 [.agg [.p (.sl 1 (List.map encI d.Counts))], .one (.p (pi score))] [] [.one (.p (pi r_))] [] := by
  refine callOK (n := 31) (rs := [.tmp 4]) (nb := 0) (V := []) Try.func32 rfl (by kernel_rfl) rfl rfl rfl rfl (Nat.le_of_ble_eq_true rfl) (by decide) ?_
  unfold ref32_Below at H0
  refine lok_rt E0 (⟨31, mkS [(1, .x (.one (.p (pi score)))), (2, .x (.one (.ptr 102 0)))], mkH [(102, .var [.p (.sl 1 (List.map encI d.Counts))])]⟩) ?_
  refine lok_rt E0 (⟨31, mkS [(1, .x (.one (.p (pi score)))), (2, .x (.one (.ptr 102 0))), (5, .x (.one (.p (pi (0 : Int)))))], mkH [(102, .var [.p (.sl 1 (List.map encI d.Counts))])]⟩) ?_
  refine lok_join (fun x_ : Int => ref32_Below_j1 x_ = some r_) (fun x_ => ⟨31, mkS [(5, .x (.one (.p (pi x_))))], mkH []⟩) ?hyref32_Below_j1 ?hxref32_Below_j1
  case hyref32_Below_j1 =>
    rintro n H0
    try dsimp only at H0 ⊢
    unfold ref32_Below_j1 at H0
    refine lok_rt E0 (⟨31, mkS [(4, .x (.one (.p (pi n))))], mkH []⟩) ?_
    refine lok_ret ?_
    obtain rfl := Option.some.inj H0
    try simp only [thenL, blockL]
    exact fin_au _ (.inr rfl) [] (⟨31, mkS [(4, .x (.one (.p (pi n))))], mkH []⟩) rfl rfl imp_au
  case hxref32_Below_j1 =>
    refine lok_rt E0 (⟨31, mkS [(1, .x (.one (.p (pi score)))), (2, .x (.one (.ptr 102 0))), (5, .x (.one (.p (pi (0 : Int))))), (6, .x (.one (.p (pi (0 : Int)))))], mkH [(102, .var [.p (.sl 1 (List.map encI d.Counts))])]⟩) ?_
    refine lok_block ?_
    replace H0 := bind_some H0
    obtain ⟨v_0, hv_0, H0⟩ := H0
    refine lok_iter (fun x_ => ⟨31, mkS [(1, .x (.one (.p (pi score)))), (2, .x (.one (.ptr 102 0))), (5, .x (.one (.p (pi x_.1)))), (6, .x (.one (.p (pi x_.2))))], mkH [(102, .var [.p (.sl 1 (List.map encI d.Counts))])]⟩) hv_0 imp_au ?_
    · rintro ⟨n1, i⟩ o_1 H1 k_1
      unfold ref32_Below_l2 at H1
      try dsimp only at H1 ⊢
      refine lok_seq ?_
      replace H1 := req_some H1
      obtain ⟨q_3, H1⟩ := H1
      refine lok_rt (Env.of E0 [⟨some 19, 29, [.agg [.p (.sl 1 (List.map encI d.Counts))]], [], [.one (.p (.val (.bool ((ref32_Valid d).getD default))))], [], (ref32_Valid d).isSome = true, fun h => ok_ref32_Valid d _ (isSome_get h), []⟩]) (⟨31, mkS [(1, .x (.one (.p (pi score)))), (2, .x (.one (.ptr 102 0))), (5, .x (.one (.p (pi n1)))), (6, .x (.one (.p (pi i)))), (20, .x (.one (.p (.val (.bool (((decide (i < (d.Counts.length : Int))) && (decide (i < score))) && ((ref32_Valid d).getD default)))))))], mkH [(102, .var [.p (.sl 1 (List.map encI d.Counts))])]⟩) ?_
      refine lok_c (((decide (i < (d.Counts.length : Int))) && (decide (i < score))) && ((ref32_Valid d).getD default)) ?_ ?_
      · intro b_2
        replace H1 := cpos H1 b_2
        refine lok_skip ?_
        try simp only [thenL, blockL, ↓reduceIte, reduceCtorEq]
        refine lok_seq ?_
        refine lok_block ?_
        replace H1 := req_some H1
        obtain ⟨q_1, H1⟩ := H1
        refine lok_rl E0 (⟨31, mkS [(1, .x (.one (.p (pi score)))), (2, .x (.one (.ptr 102 0))), (5, .x (.one (.p (pi (IntKind.i64.wrap (n1 + (ix d.Counts i))))))), (6, .x (.one (.p (pi i))))], mkH [(102, .var [.p (.sl 1 (List.map encI d.Counts))])]⟩) ?_
        try simp only [thenL, blockL, ↓reduceIte, reduceCtorEq]
        refine lok_rl E0 (⟨31, mkS [(1, .x (.one (.p (pi score)))), (2, .x (.one (.ptr 102 0))), (5, .x (.one (.p (pi (IntKind.i64.wrap (n1 + (ix d.Counts i))))))), (6, .x (.one (.p (pi (IntKind.i64.wrap (i + (1 : Int)))))))], mkH [(102, .var [.p (.sl 1 (List.map encI d.Counts))])]⟩) ?_
        try simp only [thenL, blockL, ↓reduceIte, reduceCtorEq]
        exact ⟨((IntKind.i64.wrap (n1 + (ix d.Counts i))), (IntKind.i64.wrap (i + (1 : Int)))), (Option.some.inj H1).symm, imp_au⟩
      · intro b_2
        replace H1 := cneg H1 b_2
        refine lok_exit ?_
        try simp only [thenL, blockL, ↓reduceIte, reduceCtorEq]
        have e_1 := k_1 _ (Option.some.inj H1).symm
        subst e_1
        try dsimp only at H0
        try simp only [thenL, blockL, ↓reduceIte, reduceCtorEq]
        exact ⟨n1, H0, imp_au⟩
theorem ok_ref32_Count (d : api_Distribution) (r_ : Int) (H0 : ref32_Count d = some r_) : CallOK Try.prog 30 [.agg [.p (.sl 1 (List.map encI d.Counts))]] [] [.one (.p (pi r_))] [] := by
  refine callOK (n := 8) (rs := [.tmp 2]) (nb := 0) (V := []) Try.func30 rfl (by kernel_rfl) rfl rfl rfl rfl (Nat.le_of_ble_eq_true rfl) (by decide) ?_
  unfold ref32_Count at H0
  refine lok_rt E0 (⟨8, mkS [(1, .x (.one (.ptr 101 0)))], mkH [(101, .var [.p (.sl 1 (List.map encI d.Counts))])]⟩) ?_
  replace H0 := bind_some H0
  obtain ⟨y, h_0, H0⟩ := H0
  refine lok_rt (Env.of E0 [⟨some 7, 32, [.agg [.p (.sl 1 (List.map encI d.Counts))], .one (.p (pi (d.Counts.length : Int)))], [], [.one (.p (pi y))], [], True, fun _ => ok_ref32_Below d (d.Counts.length : Int) y h_0, []⟩]) (⟨8, mkS [(2, .x (.one (.p (pi y))))], mkH []⟩) ?_
  refine lok_ret ?_
  obtain rfl := Option.some.inj H0
  try simp only [thenL, blockL]
  exact fin_au _ (.inr rfl) [] (⟨8, mkS [(2, .x (.one (.p (pi y))))], mkH []⟩) rfl rfl imp_au
theorem ok_ref01_Twice (a : ref01_Wide) (r_ : ref01_Wide) (H0 : ref01_Twice a = some r_) : CallOK Try.prog 63 [.agg [.p (.val (.int .u64 a.Hi)), .p (.val (.int .u64 a.Lo))]] [] [.agg [.p (.val (.int .u64 r_.Hi)), .p (.val (.int .u64 r_.Lo))]] [] := by
  refine callOK (n := 14) (rs := [.cell 2 64]) (nb := 0) (V := []) Try.func63 rfl (by kernel_rfl) rfl rfl rfl rfl (Nat.le_of_ble_eq_true rfl) (by decide) ?_
  unfold ref01_Twice at H0
  refine lok_rt E0 (⟨14, mkS [(1, .x (.one (.ptr 101 0))), (2, .x (.one (.ptr 102 0)))], mkH [(101, .var [.p (.val (.int .u64 a.Hi)), .p (.val (.int .u64 a.Lo))]), (102, .var [.p (.val (.int .u64 (0 : Int))), .p (.val (.int .u64 (0 : Int)))])]⟩) ?_
  refine lok_rt E0 (⟨14, mkS [(2, .x (.one (.ptr 102 0)))], mkH [(102, .var [.p (.val (.int .u64 (bOr .u64 (bShl .u64 a.Hi (1 : Int)) (bShr .u64 a.Lo (63 : Int))))), .p (.val (.int .u64 (bShl .u64 a.Lo (1 : Int))))])]⟩) ?_
  refine lok_ret ?_
  obtain rfl := Option.some.inj H0
  try simp only [thenL, blockL]
  exact fin_au _ (.inr rfl) [] (⟨14, mkS [(2, .x (.one (.ptr 102 0)))], mkH [(102, .var [.p (.val (.int .u64 (bOr .u64 (bShl .u64 a.Hi (1 : Int)) (bShr .u64 a.Lo (63 : Int))))), .p (.val (.int .u64 (bShl .u64 a.Lo (1 : Int))))])]⟩) rfl rfl imp_au
theorem ok_ref01_Order (a : ref01_Wide) (b : ref01_Wide) (r_ : Int) (H0 : ref01_Order a b = some r_) : CallOK Try.prog 64 [.agg [.p (.val (.int .u64 a.Hi)), .p (.val (.int .u64 a.Lo))], .agg [.p (.val (.int .u64 b.Hi)), .p (.val (.int .u64 b.Lo))]] [] [.one (.p (pi r_))] [] := by
  refine callOK (n := 27) (rs := [.tmp 4]) (nb := 0) (V := []) Try.func64 rfl (by kernel_rfl) rfl rfl rfl rfl (Nat.le_of_ble_eq_true rfl) (by decide) ?_
  unfold ref01_Order at H0
  refine lok_rt E0 (⟨27, mkS [(2, .x (.one (.ptr 102 0))), (3, .x (.one (.ptr 103 0)))], mkH [(102, .var [.p (.val (.int .u64 a.Hi)), .p (.val (.int .u64 a.Lo))]), (103, .var [.p (.val (.int .u64 b.Hi)), .p (.val (.int .u64 b.Lo))])]⟩) ?_
  refine lok_seq ?_
  refine lok_rt E0 (⟨27, mkS [(2, .x (.one (.ptr 102 0))), (3, .x (.one (.ptr 103 0))), (23, .x (.one (.p (.val (.bool ((decide (a.Hi < b.Hi)) || ((a.Hi == b.Hi) && (decide (a.Lo < b.Lo)))))))))], mkH [(102, .var [.p (.val (.int .u64 a.Hi)), .p (.val (.int .u64 a.Lo))]), (103, .var [.p (.val (.int .u64 b.Hi)), .p (.val (.int .u64 b.Lo))])]⟩) ?_
  refine lok_c ((decide (a.Hi < b.Hi)) || ((a.Hi == b.Hi) && (decide (a.Lo < b.Lo)))) ?_ ?_
  · intro b_1
    replace H0 := cpos H0 b_1
    refine lok_rt E0 (⟨27, mkS [(4, .x (.one (.p (pi (-1 : Int)))))], mkH []⟩) ?_
    refine lok_ret ?_
    obtain rfl := Option.some.inj H0
    try simp only [thenL, blockL]
    exact fin_au _ (.inr rfl) [] (⟨27, mkS [(4, .x (.one (.p (pi (-1 : Int)))))], mkH []⟩) rfl rfl imp_au
  · intro b_1
    replace H0 := cneg H0 b_1
    refine lok_skip ?_
    try simp only [thenL, blockL, ↓reduceIte, reduceCtorEq]
    refine lok_seq ?_
    refine lok_rt E0 (⟨27, mkS [(26, .x (.one (.p (.val (.bool ((a.Hi == b.Hi) && (a.Lo == b.Lo)))))))], mkH []⟩) ?_
    refine lok_c ((a.Hi == b.Hi) && (a.Lo == b.Lo)) ?_ ?_
    · intro b_0
      replace H0 := cpos H0 b_0
      refine lok_rt E0 (⟨27, mkS [(4, .x (.one (.p (pi (0 : Int)))))], mkH []⟩) ?_
      refine lok_ret ?_
      obtain rfl := Option.some.inj H0
      try simp only [thenL, blockL]
      exact fin_au _ (.inr rfl) [] (⟨27, mkS [(4, .x (.one (.p (pi (0 : Int)))))], mkH []⟩) rfl rfl imp_au
    · intro b_0
      replace H0 := cneg H0 b_0
      refine lok_skip ?_
      try simp only [thenL, blockL, ↓reduceIte, reduceCtorEq]
      refine lok_rt E0 (⟨27, mkS [(4, .x (.one (.p (pi (1 : Int)))))], mkH []⟩) ?_
      refine lok_ret ?_
      obtain rfl := Option.some.inj H0
      try simp only [thenL, blockL]
      exact fin_au _ (.inr rfl) [] (⟨27, mkS [(4, .x (.one (.p (pi (1 : Int)))))], mkH []⟩) rfl rfl imp_au
theorem ok_bits_Sub64 (x y borrow : Int) (r_ : Int × Int) (H0 : bits_Sub64 x y borrow = some r_) : CallOK Try.prog 73 [.int .u64 x, .int .u64 y, .int .u64 borrow] [] [.int .u64 r_.1, .int .u64 r_.2] [] :=
  okSub64 Try.func73 (by kernel_rfl) (by kernel_rfl) (by kernel_rfl) (by kernel_rfl) _ _ _ r_ H0
theorem ok_ref01_Minus (a : ref01_Wide) (b : ref01_Wide) (r_ : ref01_Wide) (H0 : ref01_Minus a b = some r_) : CallOK Try.prog 65 [.agg [.p (.val (.int .u64 a.Hi)), .p (.val (.int .u64 a.Lo))], .agg [.p (.val (.int .u64 b.Hi)), .p (.val (.int .u64 b.Lo))]] [] [.agg [.p (.val (.int .u64 r_.Hi)), .p (.val (.int .u64 r_.Lo))]] [] := by
  refine callOK (n := 29) (rs := [.cell 4 64]) (nb := 0) (V := []) Try.func65 rfl (by kernel_rfl) rfl rfl rfl rfl (Nat.le_of_ble_eq_true rfl) (by decide) ?_
  unfold ref01_Minus at H0
  refine lok_rt E0 (⟨29, mkS [(2, .x (.one (.ptr 102 0))), (3, .x (.one (.ptr 103 0))), (4, .x (.one (.ptr 104 0)))], mkH [(102, .var [.p (.val (.int .u64 a.Hi)), .p (.val (.int .u64 a.Lo))]), (103, .var [.p (.val (.int .u64 b.Hi)), .p (.val (.int .u64 b.Lo))]), (104, .var [.p (.val (.int .u64 (0 : Int))), .p (.val (.int .u64 (0 : Int)))])]⟩) ?_
  replace H0 := bind_some H0
  obtain ⟨⟨y, y1⟩, h_0, H0⟩ := H0
  try dsimp only at H0
  refine lok_rt (Env.of E0 [⟨some 14, 73, [.one (.p (.val (.int .u64 a.Lo))), .one (.p (.val (.int .u64 b.Lo))), .one (.p (.val (.int .u64 (0 : Int))))], [], [.one (.p (.val (.int .u64 y))), .one (.p (.val (.int .u64 y1)))], [], True, fun _ => ok_bits_Sub64 a.Lo b.Lo (0 : Int) (y, y1) h_0, []⟩]) (⟨29, mkS [(2, .x (.one (.ptr 102 0))), (3, .x (.one (.ptr 103 0))), (4, .x (.one (.ptr 104 0))), (5, .x (.one (.p (.val (.int .u64 y))))), (6, .x (.one (.p (.val (.int .u64 y1)))))], mkH [(102, .var [.p (.val (.int .u64 a.Hi)), .p (.val (.int .u64 a.Lo))]), (103, .var [.p (.val (.int .u64 b.Hi)), .p (.val (.int .u64 b.Lo))]), (104, .var [.p (.val (.int .u64 (0 : Int))), .p (.val (.int .u64 (0 : Int)))])]⟩) ?_
  replace H0 := bind_some H0
  obtain ⟨⟨y2, y3⟩, h_1, H0⟩ := H0
  try dsimp only at H0
  refine lok_rt (Env.of E0 [⟨some 23, 73, [.one (.p (.val (.int .u64 a.Hi))), .one (.p (.val (.int .u64 b.Hi))), .one (.p (.val (.int .u64 y1)))], [], [.one (.p (.val (.int .u64 y2))), .one (.p (.val (.int .u64 y3)))], [], True, fun _ => ok_bits_Sub64 a.Hi b.Hi y1 (y2, y3) h_1, []⟩]) (⟨29, mkS [(4, .x (.one (.ptr 104 0))), (5, .x (.one (.p (.val (.int .u64 y))))), (7, .x (.one (.p (.val (.int .u64 y2)))))], mkH [(104, .var [.p (.val (.int .u64 (0 : Int))), .p (.val (.int .u64 (0 : Int)))])]⟩) ?_
  refine lok_rt E0 (⟨29, mkS [(4, .x (.one (.ptr 104 0)))], mkH [(104, .var [.p (.val (.int .u64 y2)), .p (.val (.int .u64 y))])]⟩) ?_
  refine lok_ret ?_
  obtain rfl := Option.some.inj H0
  try simp only [thenL, blockL]
  exact fin_au _ (.inr rfl) [] (⟨29, mkS [(4, .x (.one (.ptr 104 0)))], mkH [(104, .var [.p (.val (.int .u64 y2)), .p (.val (.int .u64 y))])]⟩) rfl rfl imp_au
set_option maxHeartbeats 4000000 in
theorem ok_ref01_Divide (a : ref01_Wide) (b : ref01_Wide) (r_ : ref01_Wide × ref01_Wide) (H0 : ref01_Divide a b = some r_) : CallOK Try.prog 55 [.agg [.p (.val (.int .u64 a.Hi)), .p (.val (.int .u64 a.Lo))], .agg [.p (.val (.int .u64 b.Hi)), .p (.val (.int .u64 b.Lo))]] [] [.agg [.p (.val (.int .u64 r_.1.Hi)), .p (.val (.int .u64 r_.1.Lo))], .agg [.p (.val (.int .u64 r_.2.Hi)), .p (.val (.int .u64 r_.2.Lo))]] [] := by
  refine callOK (n := 82) (rs := [.cell 4 64, .cell 5 64]) (nb := 0) (V := []) Try.func55 rfl (by kernel_rfl) rfl rfl rfl rfl (Nat.le_of_ble_eq_true rfl) (by decide) ?_
  unfold ref01_Divide at H0
  refine lok_rt E0 (⟨82, mkS [(2, .x (.one (.ptr 102 0))), (3, .x (.one (.ptr 103 0))), (4, .x (.one (.ptr 104 0))), (5, .x (.one (.ptr 105 0)))], mkH [(102, .var [.p (.val (.int .u64 a.Hi)), .p (.val (.int .u64 a.Lo))]), (103, .var [.p (.val (.int .u64 b.Hi)), .p (.val (.int .u64 b.Lo))]), (104, .var [.p (.val (.int .u64 (0 : Int))), .p (.val (.int .u64 (0 : Int)))]), (105, .var [.p (.val (.int .u64 (0 : Int))), .p (.val (.int .u64 (0 : Int)))])]⟩) ?_
  refine lok_seq ?_
  refine lok_rt E0 (⟨82, mkS [(2, .x (.one (.ptr 102 0))), (3, .x (.one (.ptr 103 0))), (4, .x (.one (.ptr 104 0))), (5, .x (.one (.ptr 105 0))), (18, .x (.one (.p (.val (.bool ((a.Hi == (0 : Int)) && (b.Hi == (0 : Int))))))))], mkH [(102, .var [.p (.val (.int .u64 a.Hi)), .p (.val (.int .u64 a.Lo))]), (103, .var [.p (.val (.int .u64 b.Hi)), .p (.val (.int .u64 b.Lo))]), (104, .var [.p (.val (.int .u64 (0 : Int))), .p (.val (.int .u64 (0 : Int)))]), (105, .var [.p (.val (.int .u64 (0 : Int))), .p (.val (.int .u64 (0 : Int)))])]⟩) ?_
  refine lok_c ((a.Hi == (0 : Int)) && (b.Hi == (0 : Int))) ?_ ?_
  · intro b_13
    replace H0 := cpos H0 b_13
    replace H0 := req_some H0
    obtain ⟨q_0, H0⟩ := H0
    refine lok_et E0 82 [⟨[(2, .x (.one (.ptr 102 0)))], [], [(19, .x (.one (.ptr 102 1)))], [], none⟩,
      ⟨[(19, .x (.one (.ptr 102 1)))], [(102, some (.var [.p (.val (.int .u64 a.Hi)), .p (.val (.int .u64 a.Lo))]))], [(20, .x (.one (.p (.val (.int .u64 a.Lo)))))], [], none⟩,
      ⟨[(3, .x (.one (.ptr 103 0)))], [], [(21, .x (.one (.ptr 103 1)))], [], none⟩,
      ⟨[(21, .x (.one (.ptr 103 1)))], [(103, some (.var [.p (.val (.int .u64 b.Hi)), .p (.val (.int .u64 b.Lo))]))], [(22, .x (.one (.p (.val (.int .u64 b.Lo)))))], [], none⟩,
      ⟨[(20, .x (.one (.p (.val (.int .u64 a.Lo))))), (22, .x (.one (.p (.val (.int .u64 b.Lo)))))], [], [(23, .x (.one (.p (.val (.int .u64 (IntKind.u64.wrap (Int.tdiv a.Lo b.Lo)))))))], [], none⟩,
      ⟨[(23, .x (.one (.p (.val (.int .u64 (IntKind.u64.wrap (Int.tdiv a.Lo b.Lo)))))))], [], [(24, .x (.agg [.p (.val (.int .u64 (0 : Int))), .p (.val (.int .u64 (IntKind.u64.wrap (Int.tdiv a.Lo b.Lo))))]))], [], none⟩,
      ⟨[(2, .x (.one (.ptr 102 0)))], [], [(25, .x (.one (.ptr 102 1)))], [], none⟩,
      ⟨[(25, .x (.one (.ptr 102 1)))], [(102, some (.var [.p (.val (.int .u64 a.Hi)), .p (.val (.int .u64 a.Lo))]))], [(26, .x (.one (.p (.val (.int .u64 a.Lo)))))], [], none⟩,
      ⟨[(3, .x (.one (.ptr 103 0)))], [], [(27, .x (.one (.ptr 103 1)))], [], none⟩,
      ⟨[(27, .x (.one (.ptr 103 1)))], [(103, some (.var [.p (.val (.int .u64 b.Hi)), .p (.val (.int .u64 b.Lo))]))], [(28, .x (.one (.p (.val (.int .u64 b.Lo)))))], [], none⟩,
      ⟨[(26, .x (.one (.p (.val (.int .u64 a.Lo))))), (28, .x (.one (.p (.val (.int .u64 b.Lo)))))], [], [(29, .x (.one (.p (.val (.int .u64 (Int.tmod a.Lo b.Lo))))))], [], none⟩,
      ⟨[(29, .x (.one (.p (.val (.int .u64 (Int.tmod a.Lo b.Lo))))))], [], [(30, .x (.agg [.p (.val (.int .u64 (0 : Int))), .p (.val (.int .u64 (Int.tmod a.Lo b.Lo)))]))], [], none⟩,
      ⟨[(4, .x (.one (.ptr 104 0))), (24, .x (.agg [.p (.val (.int .u64 (0 : Int))), .p (.val (.int .u64 (IntKind.u64.wrap (Int.tdiv a.Lo b.Lo))))]))], [(104, some (.var [.p (.val (.int .u64 (0 : Int))), .p (.val (.int .u64 (0 : Int)))]))], [], [(104, some (.var [.p (.val (.int .u64 (0 : Int))), .p (.val (.int .u64 (IntKind.u64.wrap (Int.tdiv a.Lo b.Lo))))]))], none⟩] (⟨82, mkS [(4, .x (.one (.ptr 104 0))), (5, .x (.one (.ptr 105 0)))], mkH [(104, .var [.p (.val (.int .u64 (0 : Int))), .p (.val (.int .u64 (IntKind.u64.wrap (Int.tdiv a.Lo b.Lo))))]), (105, .var [.p (.val (.int .u64 (0 : Int))), .p (.val (.int .u64 (Int.tmod a.Lo b.Lo)))])]⟩) (by kernel_rfl) (by kernel_rfl) (by kernel_rfl) rfl rfl rfl ?_
    refine lok_ret ?_
    obtain rfl := Option.some.inj H0
    try simp only [thenL, blockL]
    exact fin_au _ (.inr rfl) [] (⟨82, mkS [(4, .x (.one (.ptr 104 0))), (5, .x (.one (.ptr 105 0)))], mkH [(104, .var [.p (.val (.int .u64 (0 : Int))), .p (.val (.int .u64 (IntKind.u64.wrap (Int.tdiv a.Lo b.Lo))))]), (105, .var [.p (.val (.int .u64 (0 : Int))), .p (.val (.int .u64 (Int.tmod a.Lo b.Lo)))])]⟩) rfl rfl imp_au
  · intro b_13
    replace H0 := cneg H0 b_13
    refine lok_skip ?_
    try simp only [thenL, blockL, ↓reduceIte, reduceCtorEq]
    refine lok_rt E0 (⟨82, mkS [(2, .x (.one (.ptr 102 0))), (3, .x (.one (.ptr 103 0))), (4, .x (.one (.ptr 104 0))), (5, .x (.one (.ptr 105 0))), (6, .x (.one (.ptr 106 0))), (7, .x (.one (.ptr 107 0)))], mkH [(102, .var [.p (.val (.int .u64 a.Hi)), .p (.val (.int .u64 a.Lo))]), (103, .var [.p (.val (.int .u64 b.Hi)), .p (.val (.int .u64 b.Lo))]), (104, .var [.p (.val (.int .u64 (0 : Int))), .p (.val (.int .u64 (0 : Int)))]), (105, .var [.p (.val (.int .u64 (0 : Int))), .p (.val (.int .u64 (0 : Int)))]), (106, .var [.p (.val (.int .u64 (0 : Int))), .p (.val (.int .u64 (0 : Int)))]), (107, .var [.p (.val (.int .u64 (0 : Int))), .p (.val (.int .u64 (0 : Int)))])]⟩) ?_
    refine lok_join (fun x_ : Int × Int × Int × Int => ref01_Divide_j1 x_.1 x_.2.1 x_.2.2.1 x_.2.2.2 = some r_) (fun x_ => ⟨82, mkS [(4, .x (.one (.ptr 104 0))), (5, .x (.one (.ptr 105 0))), (6, .x (.one (.ptr 106 0))), (7, .x (.one (.ptr 107 0)))], mkH [(104, .var [.p (.val (.int .u64 (0 : Int))), .p (.val (.int .u64 (0 : Int)))]), (105, .var [.p (.val (.int .u64 (0 : Int))), .p (.val (.int .u64 (0 : Int)))]), (106, .var [.p (.val (.int .u64 x_.1)), .p (.val (.int .u64 x_.2.1))]), (107, .var [.p (.val (.int .u64 x_.2.2.1)), .p (.val (.int .u64 x_.2.2.2))])]⟩) ?hyref01_Divide_j1 ?hxref01_Divide_j1
    case hyref01_Divide_j1 =>
      rintro ⟨q, q1, r, r1⟩ H0
      try dsimp only at H0 ⊢
      unfold ref01_Divide_j1 at H0
      refine lok_et E0 82 [⟨[(6, .x (.one (.ptr 106 0)))], [(106, some (.var [.p (.val (.int .u64 q)), .p (.val (.int .u64 q1))]))], [(80, .x (.agg [.p (.val (.int .u64 q)), .p (.val (.int .u64 q1))]))], [], none⟩,
      ⟨[(7, .x (.one (.ptr 107 0)))], [(107, some (.var [.p (.val (.int .u64 r)), .p (.val (.int .u64 r1))]))], [(81, .x (.agg [.p (.val (.int .u64 r)), .p (.val (.int .u64 r1))]))], [], none⟩,
      ⟨[(4, .x (.one (.ptr 104 0))), (80, .x (.agg [.p (.val (.int .u64 q)), .p (.val (.int .u64 q1))]))], [(104, some (.var [.p (.val (.int .u64 (0 : Int))), .p (.val (.int .u64 (0 : Int)))]))], [], [(104, some (.var [.p (.val (.int .u64 q)), .p (.val (.int .u64 q1))]))], none⟩] (⟨82, mkS [(4, .x (.one (.ptr 104 0))), (5, .x (.one (.ptr 105 0)))], mkH [(104, .var [.p (.val (.int .u64 q)), .p (.val (.int .u64 q1))]), (105, .var [.p (.val (.int .u64 r)), .p (.val (.int .u64 r1))])]⟩) (by kernel_rfl) (by kernel_rfl) (by kernel_rfl) rfl rfl rfl ?_
      refine lok_ret ?_
      obtain rfl := Option.some.inj H0
      try simp only [thenL, blockL]
      exact fin_au _ (.inr rfl) [] (⟨82, mkS [(4, .x (.one (.ptr 104 0))), (5, .x (.one (.ptr 105 0)))], mkH [(104, .var [.p (.val (.int .u64 q)), .p (.val (.int .u64 q1))]), (105, .var [.p (.val (.int .u64 r)), .p (.val (.int .u64 r1))])]⟩) rfl rfl imp_au
    case hxref01_Divide_j1 =>
      refine lok_rt E0 (⟨82, mkS [(2, .x (.one (.ptr 102 0))), (3, .x (.one (.ptr 103 0))), (4, .x (.one (.ptr 104 0))), (5, .x (.one (.ptr 105 0))), (6, .x (.one (.ptr 106 0))), (7, .x (.one (.ptr 107 0))), (8, .x (.one (.p (pi (127 : Int)))))], mkH [(102, .var [.p (.val (.int .u64 a.Hi)), .p (.val (.int .u64 a.Lo))]), (103, .var [.p (.val (.int .u64 b.Hi)), .p (.val (.int .u64 b.Lo))]), (104, .var [.p (.val (.int .u64 (0 : Int))), .p (.val (.int .u64 (0 : Int)))]), (105, .var [.p (.val (.int .u64 (0 : Int))), .p (.val (.int .u64 (0 : Int)))]), (106, .var [.p (.val (.int .u64 (0 : Int))), .p (.val (.int .u64 (0 : Int)))]), (107, .var [.p (.val (.int .u64 (0 : Int))), .p (.val (.int .u64 (0 : Int)))])]⟩) ?_
      refine lok_block ?_
      replace H0 := bind_some H0
      obtain ⟨v_1, hv_1, H0⟩ := H0
      refine lok_iter (fun x_ => ⟨82, mkS [(2, .x (.one (.ptr 102 0))), (3, .x (.one (.ptr 103 0))), (4, .x (.one (.ptr 104 0))), (5, .x (.one (.ptr 105 0))), (6, .x (.one (.ptr 106 0))), (7, .x (.one (.ptr 107 0))), (8, .x (.one (.p (pi x_.1))))], mkH [(102, .var [.p (.val (.int .u64 a.Hi)), .p (.val (.int .u64 a.Lo))]), (103, .var [.p (.val (.int .u64 b.Hi)), .p (.val (.int .u64 b.Lo))]), (104, .var [.p (.val (.int .u64 (0 : Int))), .p (.val (.int .u64 (0 : Int)))]), (105, .var [.p (.val (.int .u64 (0 : Int))), .p (.val (.int .u64 (0 : Int)))]), (106, .var [.p (.val (.int .u64 x_.2.1)), .p (.val (.int .u64 x_.2.2.1))]), (107, .var [.p (.val (.int .u64 x_.2.2.2.1)), .p (.val (.int .u64 x_.2.2.2.2))])]⟩) hv_1 imp_au ?_
      · rintro ⟨i, q2, q3, r2, r3⟩ o_1 H1 k_1
        unfold ref01_Divide_l4 at H1
        try dsimp only at H1 ⊢
        refine lok_seq ?_
        refine lok_rt E0 (⟨82, mkS [(2, .x (.one (.ptr 102 0))), (3, .x (.one (.ptr 103 0))), (4, .x (.one (.ptr 104 0))), (5, .x (.one (.ptr 105 0))), (6, .x (.one (.ptr 106 0))), (7, .x (.one (.ptr 107 0))), (8, .x (.one (.p (pi i)))), (34, .x (.one (.p (.val (.bool (decide ((0 : Int) ≤ i)))))))], mkH [(102, .var [.p (.val (.int .u64 a.Hi)), .p (.val (.int .u64 a.Lo))]), (103, .var [.p (.val (.int .u64 b.Hi)), .p (.val (.int .u64 b.Lo))]), (104, .var [.p (.val (.int .u64 (0 : Int))), .p (.val (.int .u64 (0 : Int)))]), (105, .var [.p (.val (.int .u64 (0 : Int))), .p (.val (.int .u64 (0 : Int)))]), (106, .var [.p (.val (.int .u64 q2)), .p (.val (.int .u64 q3))]), (107, .var [.p (.val (.int .u64 r2)), .p (.val (.int .u64 r3))])]⟩) ?_
        refine lok_c (decide ((0 : Int) ≤ i)) ?_ ?_
        · intro b_12
          replace H1 := cpos H1 b_12
          refine lok_skip ?_
          try simp only [thenL, blockL, ↓reduceIte, reduceCtorEq]
          refine lok_join (fun x_ : Int × Int × Int × Int => ref01_Divide_j2 i x_.1 x_.2.1 x_.2.2.1 x_.2.2.2 = some o_1) (fun x_ => ⟨82, mkS [(2, .x (.one (.ptr 102 0))), (3, .x (.one (.ptr 103 0))), (4, .x (.one (.ptr 104 0))), (5, .x (.one (.ptr 105 0))), (6, .x (.one (.ptr 106 0))), (7, .x (.one (.ptr 107 0))), (8, .x (.one (.p (pi i))))], mkH [(102, .var [.p (.val (.int .u64 a.Hi)), .p (.val (.int .u64 a.Lo))]), (103, .var [.p (.val (.int .u64 b.Hi)), .p (.val (.int .u64 b.Lo))]), (104, .var [.p (.val (.int .u64 (0 : Int))), .p (.val (.int .u64 (0 : Int)))]), (105, .var [.p (.val (.int .u64 (0 : Int))), .p (.val (.int .u64 (0 : Int)))]), (106, .var [.p (.val (.int .u64 x_.1)), .p (.val (.int .u64 x_.2.1))]), (107, .var [.p (.val (.int .u64 x_.2.2.1)), .p (.val (.int .u64 x_.2.2.2))])]⟩) ?hyref01_Divide_j2 ?hxref01_Divide_j2
          case hyref01_Divide_j2 =>
            rintro ⟨q6, q7, r6, r7⟩ H1
            try dsimp only at H1 ⊢
            unfold ref01_Divide_j2 at H1
            refine lok_rl E0 (⟨82, mkS [(2, .x (.one (.ptr 102 0))), (3, .x (.one (.ptr 103 0))), (4, .x (.one (.ptr 104 0))), (5, .x (.one (.ptr 105 0))), (6, .x (.one (.ptr 106 0))), (7, .x (.one (.ptr 107 0))), (8, .x (.one (.p (pi (IntKind.i64.wrap (i - (1 : Int)))))))], mkH [(102, .var [.p (.val (.int .u64 a.Hi)), .p (.val (.int .u64 a.Lo))]), (103, .var [.p (.val (.int .u64 b.Hi)), .p (.val (.int .u64 b.Lo))]), (104, .var [.p (.val (.int .u64 (0 : Int))), .p (.val (.int .u64 (0 : Int)))]), (105, .var [.p (.val (.int .u64 (0 : Int))), .p (.val (.int .u64 (0 : Int)))]), (106, .var [.p (.val (.int .u64 q6)), .p (.val (.int .u64 q7))]), (107, .var [.p (.val (.int .u64 r6)), .p (.val (.int .u64 r7))])]⟩) ?_
            try simp only [thenL, blockL, ↓reduceIte, reduceCtorEq]
            exact ⟨((IntKind.i64.wrap (i - (1 : Int))), q6, q7, r6, r7), (Option.some.inj H1).symm, imp_au⟩
          case hxref01_Divide_j2 =>
            refine lok_block ?_
            replace H1 := req_some H1
            obtain ⟨q_11, H1⟩ := H1
            replace H1 := bindV_some H1
            obtain ⟨bit, a_2, H1⟩ := H1
            refine lok_rtg E0 a_2 (⟨82, mkS [(2, .x (.one (.ptr 102 0))), (3, .x (.one (.ptr 103 0))), (4, .x (.one (.ptr 104 0))), (5, .x (.one (.ptr 105 0))), (6, .x (.one (.ptr 106 0))), (7, .x (.one (.ptr 107 0))), (8, .x (.one (.p (pi i)))), (9, .x (.one (.p (.val (.int .u64 bit)))))], mkH [(102, .var [.p (.val (.int .u64 a.Hi)), .p (.val (.int .u64 a.Lo))]), (103, .var [.p (.val (.int .u64 b.Hi)), .p (.val (.int .u64 b.Lo))]), (104, .var [.p (.val (.int .u64 (0 : Int))), .p (.val (.int .u64 (0 : Int)))]), (105, .var [.p (.val (.int .u64 (0 : Int))), .p (.val (.int .u64 (0 : Int)))]), (106, .var [.p (.val (.int .u64 q2)), .p (.val (.int .u64 q3))]), (107, .var [.p (.val (.int .u64 r2)), .p (.val (.int .u64 r3))])]⟩) ?_
            refine lok_join (fun x_ : Int => ref01_Divide_j3 b i q2 q3 r2 r3 x_ = some o_1) (fun x_ => ⟨82, mkS [(2, .x (.one (.ptr 102 0))), (3, .x (.one (.ptr 103 0))), (4, .x (.one (.ptr 104 0))), (5, .x (.one (.ptr 105 0))), (6, .x (.one (.ptr 106 0))), (7, .x (.one (.ptr 107 0))), (8, .x (.one (.p (pi i)))), (9, .x (.one (.p (.val (.int .u64 x_)))))], mkH [(102, .var [.p (.val (.int .u64 a.Hi)), .p (.val (.int .u64 a.Lo))]), (103, .var [.p (.val (.int .u64 b.Hi)), .p (.val (.int .u64 b.Lo))]), (104, .var [.p (.val (.int .u64 (0 : Int))), .p (.val (.int .u64 (0 : Int)))]), (105, .var [.p (.val (.int .u64 (0 : Int))), .p (.val (.int .u64 (0 : Int)))]), (106, .var [.p (.val (.int .u64 q2)), .p (.val (.int .u64 q3))]), (107, .var [.p (.val (.int .u64 r2)), .p (.val (.int .u64 r3))])]⟩) ?hyref01_Divide_j3 ?hxref01_Divide_j3
            case hyref01_Divide_j3 =>
              rintro bit1 H1
              try dsimp only at H1 ⊢
              unfold ref01_Divide_j3 at H1
              refine lok_rt E0 (⟨82, mkS [(2, .x (.one (.ptr 102 0))), (3, .x (.one (.ptr 103 0))), (4, .x (.one (.ptr 104 0))), (5, .x (.one (.ptr 105 0))), (6, .x (.one (.ptr 106 0))), (7, .x (.one (.ptr 107 0))), (8, .x (.one (.p (pi i)))), (9, .x (.one (.p (.val (.int .u64 bit1))))), (10, .x (.one (.p (.val (.bool ((bShr .u64 r2 (63 : Int)) == (1 : Int)))))))], mkH [(102, .var [.p (.val (.int .u64 a.Hi)), .p (.val (.int .u64 a.Lo))]), (103, .var [.p (.val (.int .u64 b.Hi)), .p (.val (.int .u64 b.Lo))]), (104, .var [.p (.val (.int .u64 (0 : Int))), .p (.val (.int .u64 (0 : Int)))]), (105, .var [.p (.val (.int .u64 (0 : Int))), .p (.val (.int .u64 (0 : Int)))]), (106, .var [.p (.val (.int .u64 q2)), .p (.val (.int .u64 q3))]), (107, .var [.p (.val (.int .u64 r2)), .p (.val (.int .u64 r3))])]⟩) ?_
              replace H1 := bind_some H1
              obtain ⟨y, h_3, H1⟩ := H1
              refine lok_rt (Env.of E0 [⟨some 58, 63, [.agg [.p (.val (.int .u64 r2)), .p (.val (.int .u64 r3))]], [], [.agg [.p (.val (.int .u64 y.Hi)), .p (.val (.int .u64 y.Lo))]], [], True, fun _ => ok_ref01_Twice (ref01_Wide.mk r2 r3) y h_3, []⟩]) (⟨82, mkS [(2, .x (.one (.ptr 102 0))), (3, .x (.one (.ptr 103 0))), (4, .x (.one (.ptr 104 0))), (5, .x (.one (.ptr 105 0))), (6, .x (.one (.ptr 106 0))), (7, .x (.one (.ptr 107 0))), (8, .x (.one (.p (pi i)))), (9, .x (.one (.p (.val (.int .u64 bit1))))), (10, .x (.one (.p (.val (.bool ((bShr .u64 r2 (63 : Int)) == (1 : Int)))))))], mkH [(102, .var [.p (.val (.int .u64 a.Hi)), .p (.val (.int .u64 a.Lo))]), (103, .var [.p (.val (.int .u64 b.Hi)), .p (.val (.int .u64 b.Lo))]), (104, .var [.p (.val (.int .u64 (0 : Int))), .p (.val (.int .u64 (0 : Int)))]), (105, .var [.p (.val (.int .u64 (0 : Int))), .p (.val (.int .u64 (0 : Int)))]), (106, .var [.p (.val (.int .u64 q2)), .p (.val (.int .u64 q3))]), (107, .var [.p (.val (.int .u64 y.Hi)), .p (.val (.int .u64 y.Lo))])]⟩) ?_
              refine lok_rt E0 (⟨82, mkS [(2, .x (.one (.ptr 102 0))), (3, .x (.one (.ptr 103 0))), (4, .x (.one (.ptr 104 0))), (5, .x (.one (.ptr 105 0))), (6, .x (.one (.ptr 106 0))), (7, .x (.one (.ptr 107 0))), (8, .x (.one (.p (pi i)))), (10, .x (.one (.p (.val (.bool ((bShr .u64 r2 (63 : Int)) == (1 : Int)))))))], mkH [(102, .var [.p (.val (.int .u64 a.Hi)), .p (.val (.int .u64 a.Lo))]), (103, .var [.p (.val (.int .u64 b.Hi)), .p (.val (.int .u64 b.Lo))]), (104, .var [.p (.val (.int .u64 (0 : Int))), .p (.val (.int .u64 (0 : Int)))]), (105, .var [.p (.val (.int .u64 (0 : Int))), .p (.val (.int .u64 (0 : Int)))]), (106, .var [.p (.val (.int .u64 q2)), .p (.val (.int .u64 q3))]), (107, .var [.p (.val (.int .u64 y.Hi)), .p (.val (.int .u64 (bOr .u64 y.Lo bit1)))])]⟩) ?_
              replace H1 := bind_some H1
              obtain ⟨y1, h_4, H1⟩ := H1
              refine lok_rt (Env.of E0 [⟨some 65, 63, [.agg [.p (.val (.int .u64 q2)), .p (.val (.int .u64 q3))]], [], [.agg [.p (.val (.int .u64 y1.Hi)), .p (.val (.int .u64 y1.Lo))]], [], True, fun _ => ok_ref01_Twice (ref01_Wide.mk q2 q3) y1 h_4, []⟩]) (⟨82, mkS [(2, .x (.one (.ptr 102 0))), (3, .x (.one (.ptr 103 0))), (4, .x (.one (.ptr 104 0))), (5, .x (.one (.ptr 105 0))), (6, .x (.one (.ptr 106 0))), (7, .x (.one (.ptr 107 0))), (8, .x (.one (.p (pi i)))), (10, .x (.one (.p (.val (.bool ((bShr .u64 r2 (63 : Int)) == (1 : Int)))))))], mkH [(102, .var [.p (.val (.int .u64 a.Hi)), .p (.val (.int .u64 a.Lo))]), (103, .var [.p (.val (.int .u64 b.Hi)), .p (.val (.int .u64 b.Lo))]), (104, .var [.p (.val (.int .u64 (0 : Int))), .p (.val (.int .u64 (0 : Int)))]), (105, .var [.p (.val (.int .u64 (0 : Int))), .p (.val (.int .u64 (0 : Int)))]), (106, .var [.p (.val (.int .u64 y1.Hi)), .p (.val (.int .u64 y1.Lo))]), (107, .var [.p (.val (.int .u64 y.Hi)), .p (.val (.int .u64 (bOr .u64 y.Lo bit1)))])]⟩) ?_
              replace H1 := req_some H1
              obtain ⟨q_7, H1⟩ := H1
              refine lok_rt (Env.of E0 [⟨some 70, 64, [.agg [.p (.val (.int .u64 y.Hi)), .p (.val (.int .u64 (bOr .u64 y.Lo bit1)))], .agg [.p (.val (.int .u64 b.Hi)), .p (.val (.int .u64 b.Lo))]], [], [.one (.p (pi ((ref01_Order (ref01_Wide.mk y.Hi (bOr .u64 y.Lo bit1)) b).getD default)))], [], (ref01_Order (ref01_Wide.mk y.Hi (bOr .u64 y.Lo bit1)) b).isSome = true, fun h => ok_ref01_Order (ref01_Wide.mk y.Hi (bOr .u64 y.Lo bit1)) b _ (isSome_get h), []⟩]) (⟨82, mkS [(2, .x (.one (.ptr 102 0))), (3, .x (.one (.ptr 103 0))), (4, .x (.one (.ptr 104 0))), (5, .x (.one (.ptr 105 0))), (6, .x (.one (.ptr 106 0))), (7, .x (.one (.ptr 107 0))), (8, .x (.one (.p (pi i)))), (72, .x (.one (.p (.val (.bool (((bShr .u64 r2 (63 : Int)) == (1 : Int)) || (decide ((0 : Int) ≤ ((ref01_Order (ref01_Wide.mk y.Hi (bOr .u64 y.Lo bit1)) b).getD default)))))))))], mkH [(102, .var [.p (.val (.int .u64 a.Hi)), .p (.val (.int .u64 a.Lo))]), (103, .var [.p (.val (.int .u64 b.Hi)), .p (.val (.int .u64 b.Lo))]), (104, .var [.p (.val (.int .u64 (0 : Int))), .p (.val (.int .u64 (0 : Int)))]), (105, .var [.p (.val (.int .u64 (0 : Int))), .p (.val (.int .u64 (0 : Int)))]), (106, .var [.p (.val (.int .u64 y1.Hi)), .p (.val (.int .u64 y1.Lo))]), (107, .var [.p (.val (.int .u64 y.Hi)), .p (.val (.int .u64 (bOr .u64 y.Lo bit1)))])]⟩) ?_
              refine lok_c (((bShr .u64 r2 (63 : Int)) == (1 : Int)) || (decide ((0 : Int) ≤ ((ref01_Order (ref01_Wide.mk y.Hi (bOr .u64 y.Lo bit1)) b).getD default)))) ?_ ?_
              · intro b_6
                replace H1 := cpos H1 b_6
                replace H1 := bind_some H1
                obtain ⟨y2, h_5, H1⟩ := H1
                refine lok_rt (Env.of E0 [⟨some 75, 65, [.agg [.p (.val (.int .u64 y.Hi)), .p (.val (.int .u64 (bOr .u64 y.Lo bit1)))], .agg [.p (.val (.int .u64 b.Hi)), .p (.val (.int .u64 b.Lo))]], [], [.agg [.p (.val (.int .u64 y2.Hi)), .p (.val (.int .u64 y2.Lo))]], [], True, fun _ => ok_ref01_Minus (ref01_Wide.mk y.Hi (bOr .u64 y.Lo bit1)) b y2 h_5, []⟩]) (⟨82, mkS [(2, .x (.one (.ptr 102 0))), (3, .x (.one (.ptr 103 0))), (4, .x (.one (.ptr 104 0))), (5, .x (.one (.ptr 105 0))), (6, .x (.one (.ptr 106 0))), (7, .x (.one (.ptr 107 0))), (8, .x (.one (.p (pi i))))], mkH [(102, .var [.p (.val (.int .u64 a.Hi)), .p (.val (.int .u64 a.Lo))]), (103, .var [.p (.val (.int .u64 b.Hi)), .p (.val (.int .u64 b.Lo))]), (104, .var [.p (.val (.int .u64 (0 : Int))), .p (.val (.int .u64 (0 : Int)))]), (105, .var [.p (.val (.int .u64 (0 : Int))), .p (.val (.int .u64 (0 : Int)))]), (106, .var [.p (.val (.int .u64 y1.Hi)), .p (.val (.int .u64 y1.Lo))]), (107, .var [.p (.val (.int .u64 y2.Hi)), .p (.val (.int .u64 y2.Lo))])]⟩) ?_
                refine lok_rl E0 (⟨82, mkS [(2, .x (.one (.ptr 102 0))), (3, .x (.one (.ptr 103 0))), (4, .x (.one (.ptr 104 0))), (5, .x (.one (.ptr 105 0))), (6, .x (.one (.ptr 106 0))), (7, .x (.one (.ptr 107 0))), (8, .x (.one (.p (pi i))))], mkH [(102, .var [.p (.val (.int .u64 a.Hi)), .p (.val (.int .u64 a.Lo))]), (103, .var [.p (.val (.int .u64 b.Hi)), .p (.val (.int .u64 b.Lo))]), (104, .var [.p (.val (.int .u64 (0 : Int))), .p (.val (.int .u64 (0 : Int)))]), (105, .var [.p (.val (.int .u64 (0 : Int))), .p (.val (.int .u64 (0 : Int)))]), (106, .var [.p (.val (.int .u64 y1.Hi)), .p (.val (.int .u64 (bOr .u64 y1.Lo (1 : Int))))]), (107, .var [.p (.val (.int .u64 y2.Hi)), .p (.val (.int .u64 y2.Lo))])]⟩) ?_
                try simp only [thenL, blockL, ↓reduceIte, reduceCtorEq]
                exact ⟨(y1.Hi, (bOr .u64 y1.Lo (1 : Int)), y2.Hi, y2.Lo), H1, imp_au⟩
              · intro b_6
                replace H1 := cneg H1 b_6
                refine lok_skip ?_
                try simp only [thenL, blockL, ↓reduceIte, reduceCtorEq]
                exact ⟨(y1.Hi, y1.Lo, y.Hi, (bOr .u64 y.Lo bit1)), H1, imp_au⟩
            case hxref01_Divide_j3 =>
              refine lok_rt E0 (⟨82, mkS [(2, .x (.one (.ptr 102 0))), (3, .x (.one (.ptr 103 0))), (4, .x (.one (.ptr 104 0))), (5, .x (.one (.ptr 105 0))), (6, .x (.one (.ptr 106 0))), (7, .x (.one (.ptr 107 0))), (8, .x (.one (.p (pi i)))), (9, .x (.one (.p (.val (.int .u64 bit))))), (45, .x (.one (.p (.val (.bool (decide ((64 : Int) ≤ i)))))))], mkH [(102, .var [.p (.val (.int .u64 a.Hi)), .p (.val (.int .u64 a.Lo))]), (103, .var [.p (.val (.int .u64 b.Hi)), .p (.val (.int .u64 b.Lo))]), (104, .var [.p (.val (.int .u64 (0 : Int))), .p (.val (.int .u64 (0 : Int)))]), (105, .var [.p (.val (.int .u64 (0 : Int))), .p (.val (.int .u64 (0 : Int)))]), (106, .var [.p (.val (.int .u64 q2)), .p (.val (.int .u64 q3))]), (107, .var [.p (.val (.int .u64 r2)), .p (.val (.int .u64 r3))])]⟩) ?_
              refine lok_c (decide ((64 : Int) ≤ i)) ?_ ?_
              · intro b_10
                replace H1 := cpos H1 b_10
                replace H1 := req_some H1
                obtain ⟨q_9, H1⟩ := H1
                replace H1 := bindV_some H1
                obtain ⟨bit2, a_8, H1⟩ := H1
                refine lok_rlg E0 a_8 (⟨82, mkS [(2, .x (.one (.ptr 102 0))), (3, .x (.one (.ptr 103 0))), (4, .x (.one (.ptr 104 0))), (5, .x (.one (.ptr 105 0))), (6, .x (.one (.ptr 106 0))), (7, .x (.one (.ptr 107 0))), (8, .x (.one (.p (pi i)))), (9, .x (.one (.p (.val (.int .u64 bit2)))))], mkH [(102, .var [.p (.val (.int .u64 a.Hi)), .p (.val (.int .u64 a.Lo))]), (103, .var [.p (.val (.int .u64 b.Hi)), .p (.val (.int .u64 b.Lo))]), (104, .var [.p (.val (.int .u64 (0 : Int))), .p (.val (.int .u64 (0 : Int)))]), (105, .var [.p (.val (.int .u64 (0 : Int))), .p (.val (.int .u64 (0 : Int)))]), (106, .var [.p (.val (.int .u64 q2)), .p (.val (.int .u64 q3))]), (107, .var [.p (.val (.int .u64 r2)), .p (.val (.int .u64 r3))])]⟩) ?_
                try simp only [thenL, blockL, ↓reduceIte, reduceCtorEq]
                exact ⟨bit2, H1, imp_au⟩
              · intro b_10
                replace H1 := cneg H1 b_10
                refine lok_skip ?_
                try simp only [thenL, blockL, ↓reduceIte, reduceCtorEq]
                exact ⟨bit, H1, imp_au⟩
        · intro b_12
          replace H1 := cneg H1 b_12
          refine lok_exit ?_
          try simp only [thenL, blockL, ↓reduceIte, reduceCtorEq]
          have e_1 := k_1 _ (Option.some.inj H1).symm
          subst e_1
          try dsimp only at H0
          try simp only [thenL, blockL, ↓reduceIte, reduceCtorEq]
          exact ⟨(q2, q3, r2, r3), H0, imp_au⟩
theorem ok_ref01_Divisor (a : ref01_Wide) (b : ref01_Wide) (r_ : ref01_Wide) (H0 : ref01_Divisor a b = some r_) : CallOK Try.prog 54 [.agg [.p (.val (.int .u64 a.Hi)), .p (.val (.int .u64 a.Lo))], .agg [.p (.val (.int .u64 b.Hi)), .p (.val (.int .u64 b.Lo))]] [] [.agg [.p (.val (.int .u64 r_.Hi)), .p (.val (.int .u64 r_.Lo))]] [] := by
  refine callOK (n := 19) (rs := [.cell 4 64]) (nb := 0) (V := []) Try.func54 rfl (by kernel_rfl) rfl rfl rfl rfl (Nat.le_of_ble_eq_true rfl) (by decide) ?_
  unfold ref01_Divisor at H0
  refine lok_rt E0 (⟨19, mkS [(2, .x (.one (.ptr 102 0))), (3, .x (.one (.ptr 103 0))), (4, .x (.one (.ptr 104 0)))], mkH [(102, .var [.p (.val (.int .u64 a.Hi)), .p (.val (.int .u64 a.Lo))]), (103, .var [.p (.val (.int .u64 b.Hi)), .p (.val (.int .u64 b.Lo))]), (104, .var [.p (.val (.int .u64 (0 : Int))), .p (.val (.int .u64 (0 : Int)))])]⟩) ?_
  refine lok_join (fun x_ : Int × Int => ref01_Divisor_j1 x_.1 x_.2 = some r_) (fun x_ => ⟨19, mkS [(2, .x (.one (.ptr 102 0))), (4, .x (.one (.ptr 104 0)))], mkH [(102, .var [.p (.val (.int .u64 x_.1)), .p (.val (.int .u64 x_.2))]), (104, .var [.p (.val (.int .u64 (0 : Int))), .p (.val (.int .u64 (0 : Int)))])]⟩) ?hyref01_Divisor_j1 ?hxref01_Divisor_j1
  case hyref01_Divisor_j1 =>
    rintro ⟨a1, a2⟩ H0
    try dsimp only at H0 ⊢
    unfold ref01_Divisor_j1 at H0
    refine lok_rt E0 (⟨19, mkS [(4, .x (.one (.ptr 104 0)))], mkH [(104, .var [.p (.val (.int .u64 a1)), .p (.val (.int .u64 a2))])]⟩) ?_
    refine lok_ret ?_
    obtain rfl := Option.some.inj H0
    try simp only [thenL, blockL]
    exact fin_au _ (.inr rfl) [] (⟨19, mkS [(4, .x (.one (.ptr 104 0)))], mkH [(104, .var [.p (.val (.int .u64 a1)), .p (.val (.int .u64 a2))])]⟩) rfl rfl imp_au
  case hxref01_Divisor_j1 =>
    refine lok_block ?_
    replace H0 := bind_some H0
    obtain ⟨v_0, hv_0, H0⟩ := H0
    refine lok_iter (fun x_ => ⟨19, mkS [(2, .x (.one (.ptr 102 0))), (3, .x (.one (.ptr 103 0))), (4, .x (.one (.ptr 104 0)))], mkH [(102, .var [.p (.val (.int .u64 x_.1)), .p (.val (.int .u64 x_.2.1))]), (103, .var [.p (.val (.int .u64 x_.2.2.1)), .p (.val (.int .u64 x_.2.2.2))]), (104, .var [.p (.val (.int .u64 (0 : Int))), .p (.val (.int .u64 (0 : Int)))])]⟩) hv_0 imp_au ?_
    · rintro ⟨a3, a4, b1, b2⟩ o_1 H1 k_1
      unfold ref01_Divisor_l2 at H1
      try dsimp only at H1 ⊢
      refine lok_seq ?_
      refine lok_rt E0 (⟨19, mkS [(2, .x (.one (.ptr 102 0))), (3, .x (.one (.ptr 103 0))), (4, .x (.one (.ptr 104 0))), (9, .x (.one (.p (.val (.bool (!((b1 == (0 : Int)) && (b2 == (0 : Int)))))))))], mkH [(102, .var [.p (.val (.int .u64 a3)), .p (.val (.int .u64 a4))]), (103, .var [.p (.val (.int .u64 b1)), .p (.val (.int .u64 b2))]), (104, .var [.p (.val (.int .u64 (0 : Int))), .p (.val (.int .u64 (0 : Int)))])]⟩) ?_
      refine lok_c (!((b1 == (0 : Int)) && (b2 == (0 : Int)))) ?_ ?_
      · intro b_2
        replace H1 := cpos H1 b_2
        refine lok_skip ?_
        try simp only [thenL, blockL, ↓reduceIte, reduceCtorEq]
        refine lok_block ?_
        replace H1 := bind_some H1
        obtain ⟨⟨y, y1⟩, h_1, H1⟩ := H1
        try dsimp only at H1
        refine lok_rt (Env.of E0 [⟨some 13, 55, [.agg [.p (.val (.int .u64 a3)), .p (.val (.int .u64 a4))], .agg [.p (.val (.int .u64 b1)), .p (.val (.int .u64 b2))]], [], [.agg [.p (.val (.int .u64 y.Hi)), .p (.val (.int .u64 y.Lo))], .agg [.p (.val (.int .u64 y1.Hi)), .p (.val (.int .u64 y1.Lo))]], [], True, fun _ => ok_ref01_Divide (ref01_Wide.mk a3 a4) (ref01_Wide.mk b1 b2) (y, y1) h_1, []⟩]) (⟨19, mkS [(2, .x (.one (.ptr 102 0))), (3, .x (.one (.ptr 103 0))), (4, .x (.one (.ptr 104 0))), (6, .x (.one (.ptr 106 0)))], mkH [(102, .var [.p (.val (.int .u64 a3)), .p (.val (.int .u64 a4))]), (103, .var [.p (.val (.int .u64 b1)), .p (.val (.int .u64 b2))]), (104, .var [.p (.val (.int .u64 (0 : Int))), .p (.val (.int .u64 (0 : Int)))]), (106, .var [.p (.val (.int .u64 y1.Hi)), .p (.val (.int .u64 y1.Lo))])]⟩) ?_
        refine lok_el E0 19 [⟨[(3, .x (.one (.ptr 103 0)))], [(103, some (.var [.p (.val (.int .u64 b1)), .p (.val (.int .u64 b2))]))], [(16, .x (.agg [.p (.val (.int .u64 b1)), .p (.val (.int .u64 b2))]))], [], none⟩,
      ⟨[(6, .x (.one (.ptr 106 0)))], [(106, some (.var [.p (.val (.int .u64 y1.Hi)), .p (.val (.int .u64 y1.Lo))]))], [(17, .x (.agg [.p (.val (.int .u64 y1.Hi)), .p (.val (.int .u64 y1.Lo))]))], [], none⟩,
      ⟨[(2, .x (.one (.ptr 102 0))), (16, .x (.agg [.p (.val (.int .u64 b1)), .p (.val (.int .u64 b2))]))], [(102, some (.var [.p (.val (.int .u64 a3)), .p (.val (.int .u64 a4))]))], [], [(102, some (.var [.p (.val (.int .u64 b1)), .p (.val (.int .u64 b2))]))], none⟩] (⟨19, mkS [(2, .x (.one (.ptr 102 0))), (3, .x (.one (.ptr 103 0))), (4, .x (.one (.ptr 104 0)))], mkH [(102, .var [.p (.val (.int .u64 b1)), .p (.val (.int .u64 b2))]), (103, .var [.p (.val (.int .u64 y1.Hi)), .p (.val (.int .u64 y1.Lo))]), (104, .var [.p (.val (.int .u64 (0 : Int))), .p (.val (.int .u64 (0 : Int)))])]⟩) (by kernel_rfl) (by kernel_rfl) (by kernel_rfl) rfl rfl rfl ?_
        try simp only [thenL, blockL, ↓reduceIte, reduceCtorEq]
        exact ⟨(b1, b2, y1.Hi, y1.Lo), (Option.some.inj H1).symm, imp_au⟩
      · intro b_2
        replace H1 := cneg H1 b_2
        refine lok_exit ?_
        try simp only [thenL, blockL, ↓reduceIte, reduceCtorEq]
        have e_1 := k_1 _ (Option.some.inj H1).symm
        subst e_1
        try dsimp only at H0
        try simp only [thenL, blockL, ↓reduceIte, reduceCtorEq]
        exact ⟨(a3, a4), H0, imp_au⟩
theorem ok_ref01_Reduce (negative : Bool) (num : ref01_Wide) (den : ref01_Wide) (r_ : api_Ratio × Int) (H0 : ref01_Reduce negative num den = some r_) : CallOK Try.prog 41 [.one (.p (.val (.bool negative))), .agg [.p (.val (.int .u64 num.Hi)), .p (.val (.int .u64 num.Lo))], .agg [.p (.val (.int .u64 den.Hi)), .p (.val (.int .u64 den.Lo))]] [] [.agg [.p (pi r_.1.Num), .p (pi r_.1.Den)], .one (.p (pi r_.2))] [] := by
  refine callOK (n := 61) (rs := [.cell 6 31, .tmp 7]) (nb := 0) (V := []) Try.func41 rfl (by kernel_rfl) rfl rfl rfl rfl (Nat.le_of_ble_eq_true rfl) (by decide) ?_
  unfold ref01_Reduce at H0
  refine lok_rt E0 (⟨61, mkS [(0, .x (.one (.p (.val (.bool negative))))), (4, .x (.one (.ptr 104 0))), (5, .x (.one (.ptr 105 0))), (6, .x (.one (.ptr 106 0)))], mkH [(104, .var [.p (.val (.int .u64 num.Hi)), .p (.val (.int .u64 num.Lo))]), (105, .var [.p (.val (.int .u64 den.Hi)), .p (.val (.int .u64 den.Lo))]), (106, .var [.p (pi (0 : Int)), .p (pi (0 : Int))])]⟩) ?_
  replace H0 := bind_some H0
  obtain ⟨y, h_0, H0⟩ := H0
  refine lok_rt (Env.of E0 [⟨some 16, 54, [.agg [.p (.val (.int .u64 num.Hi)), .p (.val (.int .u64 num.Lo))], .agg [.p (.val (.int .u64 den.Hi)), .p (.val (.int .u64 den.Lo))]], [], [.agg [.p (.val (.int .u64 y.Hi)), .p (.val (.int .u64 y.Lo))]], [], True, fun _ => ok_ref01_Divisor num den y h_0, []⟩]) (⟨61, mkS [(0, .x (.one (.p (.val (.bool negative))))), (4, .x (.one (.ptr 104 0))), (5, .x (.one (.ptr 105 0))), (6, .x (.one (.ptr 106 0))), (8, .x (.one (.ptr 108 0)))], mkH [(104, .var [.p (.val (.int .u64 num.Hi)), .p (.val (.int .u64 num.Lo))]), (105, .var [.p (.val (.int .u64 den.Hi)), .p (.val (.int .u64 den.Lo))]), (106, .var [.p (pi (0 : Int)), .p (pi (0 : Int))]), (108, .var [.p (.val (.int .u64 y.Hi)), .p (.val (.int .u64 y.Lo))])]⟩) ?_
  replace H0 := bind_some H0
  obtain ⟨⟨y1, y2⟩, h_1, H0⟩ := H0
  try dsimp only at H0
  refine lok_rt (Env.of E0 [⟨some 20, 55, [.agg [.p (.val (.int .u64 num.Hi)), .p (.val (.int .u64 num.Lo))], .agg [.p (.val (.int .u64 y.Hi)), .p (.val (.int .u64 y.Lo))]], [], [.agg [.p (.val (.int .u64 y1.Hi)), .p (.val (.int .u64 y1.Lo))], .agg [.p (.val (.int .u64 y2.Hi)), .p (.val (.int .u64 y2.Lo))]], [], True, fun _ => ok_ref01_Divide num y (y1, y2) h_1, []⟩]) (⟨61, mkS [(0, .x (.one (.p (.val (.bool negative))))), (5, .x (.one (.ptr 105 0))), (6, .x (.one (.ptr 106 0))), (8, .x (.one (.ptr 108 0))), (9, .x (.one (.ptr 109 0)))], mkH [(105, .var [.p (.val (.int .u64 den.Hi)), .p (.val (.int .u64 den.Lo))]), (106, .var [.p (pi (0 : Int)), .p (pi (0 : Int))]), (108, .var [.p (.val (.int .u64 y.Hi)), .p (.val (.int .u64 y.Lo))]), (109, .var [.p (.val (.int .u64 y1.Hi)), .p (.val (.int .u64 y1.Lo))])]⟩) ?_
  replace H0 := bind_some H0
  obtain ⟨⟨y3, y4⟩, h_2, H0⟩ := H0
  try dsimp only at H0
  refine lok_rt (Env.of E0 [⟨some 26, 55, [.agg [.p (.val (.int .u64 den.Hi)), .p (.val (.int .u64 den.Lo))], .agg [.p (.val (.int .u64 y.Hi)), .p (.val (.int .u64 y.Lo))]], [], [.agg [.p (.val (.int .u64 y3.Hi)), .p (.val (.int .u64 y3.Lo))], .agg [.p (.val (.int .u64 y4.Hi)), .p (.val (.int .u64 y4.Lo))]], [], True, fun _ => ok_ref01_Divide den y (y3, y4) h_2, []⟩]) (⟨61, mkS [(0, .x (.one (.p (.val (.bool negative))))), (6, .x (.one (.ptr 106 0))), (9, .x (.one (.ptr 109 0))), (11, .x (.one (.ptr 111 0)))], mkH [(106, .var [.p (pi (0 : Int)), .p (pi (0 : Int))]), (109, .var [.p (.val (.int .u64 y1.Hi)), .p (.val (.int .u64 y1.Lo))]), (111, .var [.p (.val (.int .u64 y3.Hi)), .p (.val (.int .u64 y3.Lo))])]⟩) ?_
  refine lok_seq ?_
  refine lok_rt E0 (⟨61, mkS [(0, .x (.one (.p (.val (.bool negative))))), (6, .x (.one (.ptr 106 0))), (9, .x (.one (.ptr 109 0))), (11, .x (.one (.ptr 111 0))), (46, .x (.one (.p (.val (.bool ((((decide ((0 : Int) < y1.Hi)) || (decide ((0 : Int) < y3.Hi))) || (decide ((1152921504606846976 : Int) < y1.Lo))) || (decide ((1152921504606846976 : Int) < y3.Lo))))))))], mkH [(106, .var [.p (pi (0 : Int)), .p (pi (0 : Int))]), (109, .var [.p (.val (.int .u64 y1.Hi)), .p (.val (.int .u64 y1.Lo))]), (111, .var [.p (.val (.int .u64 y3.Hi)), .p (.val (.int .u64 y3.Lo))])]⟩) ?_
  refine lok_c ((((decide ((0 : Int) < y1.Hi)) || (decide ((0 : Int) < y3.Hi))) || (decide ((1152921504606846976 : Int) < y1.Lo))) || (decide ((1152921504606846976 : Int) < y3.Lo))) ?_ ?_
  · intro b_4
    replace H0 := cpos H0 b_4
    refine lok_rt E0 (⟨61, mkS [(6, .x (.one (.ptr 106 0))), (7, .x (.one (.p (pi (6 : Int)))))], mkH [(106, .var [.p (pi (0 : Int)), .p (pi (0 : Int))])]⟩) ?_
    refine lok_ret ?_
    obtain rfl := Option.some.inj H0
    try simp only [thenL, blockL]
    exact fin_au _ (.inr rfl) [] (⟨61, mkS [(6, .x (.one (.ptr 106 0))), (7, .x (.one (.p (pi (6 : Int)))))], mkH [(106, .var [.p (pi (0 : Int)), .p (pi (0 : Int))])]⟩) rfl rfl imp_au
  · intro b_4
    replace H0 := cneg H0 b_4
    refine lok_skip ?_
    try simp only [thenL, blockL, ↓reduceIte, reduceCtorEq]
    refine lok_rt E0 (⟨61, mkS [(0, .x (.one (.p (.val (.bool negative))))), (6, .x (.one (.ptr 106 0))), (13, .x (.one (.ptr 113 0)))], mkH [(106, .var [.p (pi (0 : Int)), .p (pi (0 : Int))]), (113, .var [.p (pi (IntKind.i64.wrap y1.Lo)), .p (pi (IntKind.i64.wrap y3.Lo))])]⟩) ?_
    refine lok_join (fun x_ : Int => ref01_Reduce_j1 y3 x_ = some r_) (fun x_ => ⟨61, mkS [(6, .x (.one (.ptr 106 0))), (13, .x (.one (.ptr 113 0)))], mkH [(106, .var [.p (pi (0 : Int)), .p (pi (0 : Int))]), (113, .var [.p (pi x_), .p (pi (IntKind.i64.wrap y3.Lo))])]⟩) ?hyref01_Reduce_j1 ?hxref01_Reduce_j1
    case hyref01_Reduce_j1 =>
      rintro out H0
      try dsimp only at H0 ⊢
      unfold ref01_Reduce_j1 at H0
      refine lok_rt E0 (⟨61, mkS [(6, .x (.one (.ptr 106 0))), (7, .x (.one (.p (pi (0 : Int)))))], mkH [(106, .var [.p (pi out), .p (pi (IntKind.i64.wrap y3.Lo))])]⟩) ?_
      refine lok_ret ?_
      obtain rfl := Option.some.inj H0
      try simp only [thenL, blockL]
      exact fin_au _ (.inr rfl) [] (⟨61, mkS [(6, .x (.one (.ptr 106 0))), (7, .x (.one (.p (pi (0 : Int)))))], mkH [(106, .var [.p (pi out), .p (pi (IntKind.i64.wrap y3.Lo))])]⟩) rfl rfl imp_au
    case hxref01_Reduce_j1 =>
      refine lok_rt E0 (⟨61, mkS [(6, .x (.one (.ptr 106 0))), (13, .x (.one (.ptr 113 0))), (55, .x (.one (.p (.val (.bool negative)))))], mkH [(106, .var [.p (pi (0 : Int)), .p (pi (0 : Int))]), (113, .var [.p (pi (IntKind.i64.wrap y1.Lo)), .p (pi (IntKind.i64.wrap y3.Lo))])]⟩) ?_
      refine lok_c negative ?_ ?_
      · intro b_3
        replace H0 := cpos H0 b_3
        refine lok_rl E0 (⟨61, mkS [(6, .x (.one (.ptr 106 0))), (13, .x (.one (.ptr 113 0)))], mkH [(106, .var [.p (pi (0 : Int)), .p (pi (0 : Int))]), (113, .var [.p (pi (IntKind.i64.wrap (0 - (IntKind.i64.wrap y1.Lo)))), .p (pi (IntKind.i64.wrap y3.Lo))])]⟩) ?_
        try simp only [thenL, blockL, ↓reduceIte, reduceCtorEq]
        exact ⟨(IntKind.i64.wrap (0 - (IntKind.i64.wrap y1.Lo))), H0, imp_au⟩
      · intro b_3
        replace H0 := cneg H0 b_3
        refine lok_skip ?_
        try simp only [thenL, blockL, ↓reduceIte, reduceCtorEq]
        exact ⟨(IntKind.i64.wrap y1.Lo), H0, imp_au⟩
theorem ok_ref01_Size (n : Int) (r_ : Int) (H0 : ref01_Size n = some r_) : CallOK Try.prog 42 [.one (.p (pi n))] [] [.one (.p (.val (.int .u64 r_)))] [] := by
  refine callOK (n := 12) (rs := [.tmp 2]) (nb := 0) (V := []) Try.func42 rfl (by kernel_rfl) rfl rfl rfl rfl (Nat.le_of_ble_eq_true rfl) (by decide) ?_
  unfold ref01_Size at H0
  refine lok_rt E0 (⟨12, mkS [(0, .x (.one (.p (pi n))))], mkH []⟩) ?_
  refine lok_seq ?_
  refine lok_rt E0 (⟨12, mkS [(0, .x (.one (.p (pi n)))), (4, .x (.one (.p (.val (.bool (decide (n < (0 : Int))))))))], mkH []⟩) ?_
  refine lok_c (decide (n < (0 : Int))) ?_ ?_
  · intro b_1
    replace H0 := cpos H0 b_1
    replace H0 := bindV_some H0
    obtain ⟨v, a_0, H0⟩ := H0
    refine lok_rtg E0 a_0 (⟨12, mkS [(2, .x (.one (.p (.val (.int .u64 v)))))], mkH []⟩) ?_
    refine lok_ret ?_
    obtain rfl := Option.some.inj H0
    try simp only [thenL, blockL]
    exact fin_au _ (.inr rfl) [] (⟨12, mkS [(2, .x (.one (.p (.val (.int .u64 v)))))], mkH []⟩) rfl rfl imp_au
  · intro b_1
    replace H0 := cneg H0 b_1
    refine lok_skip ?_
    try simp only [thenL, blockL, ↓reduceIte, reduceCtorEq]
    refine lok_rt E0 (⟨12, mkS [(2, .x (.one (.p (.val (.int .u64 (IntKind.u64.wrap n))))))], mkH []⟩) ?_
    refine lok_ret ?_
    obtain rfl := Option.some.inj H0
    try simp only [thenL, blockL]
    exact fin_au _ (.inr rfl) [] (⟨12, mkS [(2, .x (.one (.p (.val (.int .u64 (IntKind.u64.wrap n))))))], mkH []⟩) rfl rfl imp_au
theorem ok_ref01_New (num : Int) (den : Int) (r_ : api_Ratio × Int) (H0 : ref01_New num den = some r_) : CallOK Try.prog 13 [.one (.p (pi num)), .one (.p (pi den))] [] [.agg [.p (pi r_.1.Num), .p (pi r_.1.Den)], .one (.p (pi r_.2))] [] := by
  refine callOK (n := 23) (rs := [.cell 4 31, .tmp 5]) (nb := 0) (V := []) Try.func13 rfl (by kernel_rfl) rfl rfl rfl rfl (Nat.le_of_ble_eq_true rfl) (by decide) ?_
  unfold ref01_New at H0
  refine lok_rt E0 (⟨23, mkS [(0, .x (.one (.p (pi num)))), (1, .x (.one (.p (pi den)))), (4, .x (.one (.ptr 104 0)))], mkH [(104, .var [.p (pi (0 : Int)), .p (pi (0 : Int))])]⟩) ?_
  refine lok_seq ?_
  refine lok_rt E0 (⟨23, mkS [(0, .x (.one (.p (pi num)))), (1, .x (.one (.p (pi den)))), (4, .x (.one (.ptr 104 0))), (7, .x (.one (.p (.val (.bool (den == (0 : Int)))))))], mkH [(104, .var [.p (pi (0 : Int)), .p (pi (0 : Int))])]⟩) ?_
  refine lok_c (den == (0 : Int)) ?_ ?_
  · intro b_3
    replace H0 := cpos H0 b_3
    refine lok_rt E0 (⟨23, mkS [(4, .x (.one (.ptr 104 0))), (5, .x (.one (.p (pi (2 : Int)))))], mkH [(104, .var [.p (pi (0 : Int)), .p (pi (0 : Int))])]⟩) ?_
    refine lok_ret ?_
    obtain rfl := Option.some.inj H0
    try simp only [thenL, blockL]
    exact fin_au _ (.inr rfl) [] (⟨23, mkS [(4, .x (.one (.ptr 104 0))), (5, .x (.one (.p (pi (2 : Int)))))], mkH [(104, .var [.p (pi (0 : Int)), .p (pi (0 : Int))])]⟩) rfl rfl imp_au
  · intro b_3
    replace H0 := cneg H0 b_3
    refine lok_skip ?_
    try simp only [thenL, blockL, ↓reduceIte, reduceCtorEq]
    replace H0 := bind_some H0
    obtain ⟨y, h_0, H0⟩ := H0
    replace H0 := bind_some H0
    obtain ⟨y1, h_1, H0⟩ := H0
    replace H0 := bind_some H0
    obtain ⟨⟨y2, y3⟩, h_2, H0⟩ := H0
    try dsimp only at H0
    refine lok_rt (Env.of E0 [⟨some 15, 42, [.one (.p (pi num))], [], [.one (.p (.val (.int .u64 y)))], [], True, fun _ => ok_ref01_Size num y h_0, []⟩,
      ⟨some 18, 42, [.one (.p (pi den))], [], [.one (.p (.val (.int .u64 y1)))], [], True, fun _ => ok_ref01_Size den y1 h_1, []⟩,
      ⟨some 20, 41, [.one (.p (.val (.bool (!((decide (num < (0 : Int))) == (decide (den < (0 : Int)))))))), .agg [.p (.val (.int .u64 (0 : Int))), .p (.val (.int .u64 y))], .agg [.p (.val (.int .u64 (0 : Int))), .p (.val (.int .u64 y1))]], [], [.agg [.p (pi y2.Num), .p (pi y2.Den)], .one (.p (pi y3))], [], True, fun _ => ok_ref01_Reduce (!((decide (num < (0 : Int))) == (decide (den < (0 : Int))))) (ref01_Wide.mk (0 : Int) y) (ref01_Wide.mk (0 : Int) y1) (y2, y3) h_2, []⟩]) (⟨23, mkS [(4, .x (.one (.ptr 104 0))), (5, .x (.one (.p (pi y3))))], mkH [(104, .var [.p (pi y2.Num), .p (pi y2.Den)])]⟩) ?_
    refine lok_ret ?_
    obtain rfl := Option.some.inj H0
    try simp only [thenL, blockL]
    exact fin_au _ (.inr rfl) [] (⟨23, mkS [(4, .x (.one (.ptr 104 0))), (5, .x (.one (.p (pi y3))))], mkH [(104, .var [.p (pi y2.Num), .p (pi y2.Den)])]⟩) rfl rfl imp_au
theorem ok_ref32_wrong (d : api_Distribution) (r_ : Int) (H0 : ref32_wrong d = some r_) : CallOK Try.prog 49 [.agg [.p (.sl 1 (List.map encI d.Counts))]] [] [.one (.p (pi r_))] [] := by
  refine callOK (n := 11) (rs := [.tmp 2]) (nb := 0) (V := []) Try.func49 rfl (by kernel_rfl) rfl rfl rfl rfl (Nat.le_of_ble_eq_true rfl) (by decide) ?_
  unfold ref32_wrong at H0
  refine lok_rt E0 (⟨11, mkS [(1, .x (.one (.ptr 101 0)))], mkH [(101, .var [.p (.sl 1 (List.map encI d.Counts))])]⟩) ?_
  refine lok_seq ?_
  refine lok_block ?_
  replace H0 := bind_some H0
  obtain ⟨y, h_0, H0⟩ := H0
  refine lok_rt (Env.of E0 [⟨some 5, 29, [.agg [.p (.sl 1 (List.map encI d.Counts))]], [], [.one (.p (.val (.bool y)))], [], True, fun _ => ok_ref32_Valid d y h_0, []⟩]) (⟨11, mkS [(1, .x (.one (.ptr 101 0))), (3, .x (.one (.p (.val (.bool (!y))))))], mkH [(101, .var [.p (.sl 1 (List.map encI d.Counts))])]⟩) ?_
  refine lok_c (!y) ?_ ?_
  · intro b_3
    replace H0 := cpos H0 b_3
    refine lok_rt E0 (⟨11, mkS [(2, .x (.one (.p (pi (1 : Int)))))], mkH []⟩) ?_
    refine lok_ret ?_
    obtain rfl := Option.some.inj H0
    try simp only [thenL, blockL]
    exact fin_au _ (.inr rfl) [] (⟨11, mkS [(2, .x (.one (.p (pi (1 : Int)))))], mkH []⟩) rfl rfl imp_au
  · intro b_3
    replace H0 := cneg H0 b_3
    replace H0 := bind_some H0
    obtain ⟨y1, h_1, H0⟩ := H0
    refine lok_rt (Env.of E0 [⟨some 9, 30, [.agg [.p (.sl 1 (List.map encI d.Counts))]], [], [.one (.p (pi y1))], [], True, fun _ => ok_ref32_Count d y1 h_1, []⟩]) (⟨11, mkS [(7, .x (.one (.p (.val (.bool (y1 == (0 : Int)))))))], mkH []⟩) ?_
    refine lok_c (y1 == (0 : Int)) ?_ ?_
    · intro b_2
      replace H0 := cpos H0 b_2
      refine lok_rt E0 (⟨11, mkS [(2, .x (.one (.p (pi (10 : Int)))))], mkH []⟩) ?_
      refine lok_ret ?_
      obtain rfl := Option.some.inj H0
      try simp only [thenL, blockL]
      exact fin_au _ (.inr rfl) [] (⟨11, mkS [(2, .x (.one (.p (pi (10 : Int)))))], mkH []⟩) rfl rfl imp_au
    · intro b_2
      replace H0 := cneg H0 b_2
      refine lok_skip ?_
      try simp only [thenL, blockL, ↓reduceIte, reduceCtorEq]
      refine lok_rt E0 (⟨11, mkS [(2, .x (.one (.p (pi (0 : Int)))))], mkH []⟩) ?_
      refine lok_ret ?_
      obtain rfl := Option.some.inj H0
      try simp only [thenL, blockL]
      exact fin_au _ (.inr rfl) [] (⟨11, mkS [(2, .x (.one (.p (pi (0 : Int)))))], mkH []⟩) rfl rfl imp_au
theorem ok_ref32_Rank (d : api_Distribution) (score : Int) (r_ : api_Ratio × Int) (H0 : ref32_Rank d score = some r_) : CallOK Try.prog 31 [.agg [.p (.sl 1 (List.map encI d.Counts))], .one (.p (pi score))] [] [.agg [.p (pi r_.1.Num), .p (pi r_.1.Den)], .one (.p (pi r_.2))] [] := by
  refine callOK (n := 40) (rs := [.cell 4 31, .tmp 5]) (nb := 0) (V := []) Try.func31 rfl (by kernel_rfl) rfl rfl rfl rfl (Nat.le_of_ble_eq_true rfl) (by decide) ?_
  unfold ref32_Rank at H0
  refine lok_rt E0 (⟨40, mkS [(1, .x (.one (.p (pi score)))), (2, .x (.one (.ptr 102 0))), (4, .x (.one (.ptr 104 0)))], mkH [(102, .var [.p (.sl 1 (List.map encI d.Counts))]), (104, .var [.p (pi (0 : Int)), .p (pi (0 : Int))])]⟩) ?_
  refine lok_seq ?_
  replace H0 := bind_some H0
  obtain ⟨y, h_0, H0⟩ := H0
  refine lok_rt (Env.of E0 [⟨some 9, 49, [.agg [.p (.sl 1 (List.map encI d.Counts))]], [], [.one (.p (pi y))], [], True, fun _ => ok_ref32_wrong d y h_0, []⟩]) (⟨40, mkS [(1, .x (.one (.p (pi score)))), (2, .x (.one (.ptr 102 0))), (4, .x (.one (.ptr 104 0))), (6, .x (.one (.p (pi y))))], mkH [(102, .var [.p (.sl 1 (List.map encI d.Counts))]), (104, .var [.p (pi (0 : Int)), .p (pi (0 : Int))])]⟩) ?_
  refine lok_rt E0 (⟨40, mkS [(1, .x (.one (.p (pi score)))), (2, .x (.one (.ptr 102 0))), (4, .x (.one (.ptr 104 0))), (6, .x (.one (.p (pi y)))), (11, .x (.one (.p (.val (.bool (y != (0 : Int)))))))], mkH [(102, .var [.p (.sl 1 (List.map encI d.Counts))]), (104, .var [.p (pi (0 : Int)), .p (pi (0 : Int))])]⟩) ?_
  refine lok_c (y != (0 : Int)) ?_ ?_
  · intro b_6
    replace H0 := cpos H0 b_6
    refine lok_rt E0 (⟨40, mkS [(4, .x (.one (.ptr 104 0))), (5, .x (.one (.p (pi y))))], mkH [(104, .var [.p (pi (0 : Int)), .p (pi (0 : Int))])]⟩) ?_
    refine lok_ret ?_
    obtain rfl := Option.some.inj H0
    try simp only [thenL, blockL]
    exact fin_au _ (.inr rfl) [] (⟨40, mkS [(4, .x (.one (.ptr 104 0))), (5, .x (.one (.p (pi y))))], mkH [(104, .var [.p (pi (0 : Int)), .p (pi (0 : Int))])]⟩) rfl rfl imp_au
  · intro b_6
    replace H0 := cneg H0 b_6
    refine lok_skip ?_
    try simp only [thenL, blockL, ↓reduceIte, reduceCtorEq]
    refine lok_rt E0 (⟨40, mkS [(1, .x (.one (.p (pi score)))), (2, .x (.one (.ptr 102 0))), (4, .x (.one (.ptr 104 0))), (7, .x (.one (.p (pi (0 : Int)))))], mkH [(102, .var [.p (.sl 1 (List.map encI d.Counts))]), (104, .var [.p (pi (0 : Int)), .p (pi (0 : Int))])]⟩) ?_
    refine lok_join (fun x_ : Int => ref32_Rank_j1 d score x_ = some r_) (fun x_ => ⟨40, mkS [(1, .x (.one (.p (pi score)))), (2, .x (.one (.ptr 102 0))), (4, .x (.one (.ptr 104 0))), (7, .x (.one (.p (pi x_))))], mkH [(102, .var [.p (.sl 1 (List.map encI d.Counts))]), (104, .var [.p (pi (0 : Int)), .p (pi (0 : Int))])]⟩) ?hyref32_Rank_j1 ?hxref32_Rank_j1
    case hyref32_Rank_j1 =>
      rintro own H0
      try dsimp only at H0 ⊢
      unfold ref32_Rank_j1 at H0
      replace H0 := bind_some H0
      obtain ⟨y1, h_1, H0⟩ := H0
      replace H0 := bind_some H0
      obtain ⟨y2, h_2, H0⟩ := H0
      replace H0 := bind_some H0
      obtain ⟨⟨y3, y4⟩, h_3, H0⟩ := H0
      try dsimp only at H0
      refine lok_dt (Env.of E0 [⟨some 30, 32, [.agg [.p (.sl 1 (List.map encI d.Counts))], .one (.p (pi score))], [], [.one (.p (pi y1))], [], True, fun _ => ok_ref32_Below d score y1 h_1, []⟩,
      ⟨some 35, 30, [.agg [.p (.sl 1 (List.map encI d.Counts))]], [], [.one (.p (pi y2))], [], True, fun _ => ok_ref32_Count d y2 h_2, []⟩,
      ⟨some 37, 13, [.one (.p (pi (IntKind.i64.wrap ((IntKind.i64.wrap ((2 : Int) * y1)) + own)))), .one (.p (pi (IntKind.i64.wrap ((2 : Int) * y2))))], [], [.agg [.p (pi y3.Num), .p (pi y3.Den)], .one (.p (pi y4))], [], True, fun _ => ok_ref01_New (IntKind.i64.wrap ((IntKind.i64.wrap ((2 : Int) * y1)) + own)) (IntKind.i64.wrap ((2 : Int) * y2)) (y3, y4) h_3, []⟩]) 12 (⟨40, mkS [(4, .x (.one (.ptr 104 0))), (5, .x (.one (.p (pi y4))))], mkH [(104, .var [.p (pi y3.Num), .p (pi y3.Den)])]⟩) (by kernel_rfl) (by kernel_rfl) ?_
      refine lok_ret ?_
      obtain rfl := Option.some.inj H0
      try simp only [thenL, blockL]
      exact fin_au _ (.inr rfl) [] (⟨40, mkS [(4, .x (.one (.ptr 104 0))), (5, .x (.one (.p (pi y4))))], mkH [(104, .var [.p (pi y3.Num), .p (pi y3.Den)])]⟩) rfl rfl imp_au
    case hxref32_Rank_j1 =>
      refine lok_rt E0 (⟨40, mkS [(1, .x (.one (.p (pi score)))), (2, .x (.one (.ptr 102 0))), (4, .x (.one (.ptr 104 0))), (7, .x (.one (.p (pi (0 : Int))))), (22, .x (.one (.p (.val (.bool ((decide ((0 : Int) ≤ score)) && (decide (score < (d.Counts.length : Int)))))))))], mkH [(102, .var [.p (.sl 1 (List.map encI d.Counts))]), (104, .var [.p (pi (0 : Int)), .p (pi (0 : Int))])]⟩) ?_
      refine lok_c ((decide ((0 : Int) ≤ score)) && (decide (score < (d.Counts.length : Int)))) ?_ ?_
      · intro b_5
        replace H0 := cpos H0 b_5
        replace H0 := req_some H0
        obtain ⟨q_4, H0⟩ := H0
        refine lok_rl E0 (⟨40, mkS [(1, .x (.one (.p (pi score)))), (2, .x (.one (.ptr 102 0))), (4, .x (.one (.ptr 104 0))), (7, .x (.one (.p (pi (ix d.Counts score)))))], mkH [(102, .var [.p (.sl 1 (List.map encI d.Counts))]), (104, .var [.p (pi (0 : Int)), .p (pi (0 : Int))])]⟩) ?_
        try simp only [thenL, blockL, ↓reduceIte, reduceCtorEq]
        exact ⟨(ix d.Counts score), H0, imp_au⟩
      · intro b_5
        replace H0 := cneg H0 b_5
        refine lok_skip ?_
        try simp only [thenL, blockL, ↓reduceIte, reduceCtorEq]
        exact ⟨(0 : Int), H0, imp_au⟩
theorem ok_ref32_sum (d : api_Distribution) (r_ : Int) (H0 : ref32_sum d = some r_) : CallOK Try.prog 50 [.agg [.p (.sl 1 (List.map encI d.Counts))]] [] [.one (.p (pi r_))] [] := by
  refine callOK (n := 22) (rs := [.tmp 2]) (nb := 0) (V := []) Try.func50 rfl (by kernel_rfl) rfl rfl rfl rfl (Nat.le_of_ble_eq_true rfl) (by decide) ?_
  unfold ref32_sum at H0
  refine lok_rt E0 (⟨22, mkS [(1, .x (.one (.ptr 101 0)))], mkH [(101, .var [.p (.sl 1 (List.map encI d.Counts))])]⟩) ?_
  refine lok_rt E0 (⟨22, mkS [(1, .x (.one (.ptr 101 0))), (3, .x (.one (.p (pi (0 : Int)))))], mkH [(101, .var [.p (.sl 1 (List.map encI d.Counts))])]⟩) ?_
  refine lok_join (fun x_ : Int => ref32_sum_j1 x_ = some r_) (fun x_ => ⟨22, mkS [(3, .x (.one (.p (pi x_))))], mkH []⟩) ?hyref32_sum_j1 ?hxref32_sum_j1
  case hyref32_sum_j1 =>
    rintro n H0
    try dsimp only at H0 ⊢
    unfold ref32_sum_j1 at H0
    refine lok_rt E0 (⟨22, mkS [(2, .x (.one (.p (pi n))))], mkH []⟩) ?_
    refine lok_ret ?_
    obtain rfl := Option.some.inj H0
    try simp only [thenL, blockL]
    exact fin_au _ (.inr rfl) [] (⟨22, mkS [(2, .x (.one (.p (pi n))))], mkH []⟩) rfl rfl imp_au
  case hxref32_sum_j1 =>
    refine lok_rt E0 (⟨22, mkS [(1, .x (.one (.ptr 101 0))), (3, .x (.one (.p (pi (0 : Int))))), (4, .x (.one (.p (pi (0 : Int)))))], mkH [(101, .var [.p (.sl 1 (List.map encI d.Counts))])]⟩) ?_
    refine lok_block ?_
    replace H0 := bind_some H0
    obtain ⟨v_0, hv_0, H0⟩ := H0
    refine lok_iter (fun x_ => ⟨22, mkS [(1, .x (.one (.ptr 101 0))), (3, .x (.one (.p (pi x_.1)))), (4, .x (.one (.p (pi x_.2))))], mkH [(101, .var [.p (.sl 1 (List.map encI d.Counts))])]⟩) hv_0 imp_au ?_
    · rintro ⟨n1, i⟩ o_1 H1 k_1
      unfold ref32_sum_l2 at H1
      try dsimp only at H1 ⊢
      refine lok_seq ?_
      refine lok_rt E0 (⟨22, mkS [(1, .x (.one (.ptr 101 0))), (3, .x (.one (.p (pi n1)))), (4, .x (.one (.p (pi i)))), (9, .x (.one (.p (.val (.bool (decide (i < (d.Counts.length : Int))))))))], mkH [(101, .var [.p (.sl 1 (List.map encI d.Counts))])]⟩) ?_
      refine lok_c (decide (i < (d.Counts.length : Int))) ?_ ?_
      · intro b_2
        replace H1 := cpos H1 b_2
        refine lok_skip ?_
        try simp only [thenL, blockL, ↓reduceIte, reduceCtorEq]
        refine lok_seq ?_
        refine lok_block ?_
        replace H1 := req_some H1
        obtain ⟨q_1, H1⟩ := H1
        refine lok_rl E0 (⟨22, mkS [(1, .x (.one (.ptr 101 0))), (3, .x (.one (.p (pi (IntKind.i64.wrap (n1 + (IntKind.i64.wrap (i * (ix d.Counts i))))))))), (4, .x (.one (.p (pi i))))], mkH [(101, .var [.p (.sl 1 (List.map encI d.Counts))])]⟩) ?_
        try simp only [thenL, blockL, ↓reduceIte, reduceCtorEq]
        refine lok_rl E0 (⟨22, mkS [(1, .x (.one (.ptr 101 0))), (3, .x (.one (.p (pi (IntKind.i64.wrap (n1 + (IntKind.i64.wrap (i * (ix d.Counts i))))))))), (4, .x (.one (.p (pi (IntKind.i64.wrap (i + (1 : Int)))))))], mkH [(101, .var [.p (.sl 1 (List.map encI d.Counts))])]⟩) ?_
        try simp only [thenL, blockL, ↓reduceIte, reduceCtorEq]
        exact ⟨((IntKind.i64.wrap (n1 + (IntKind.i64.wrap (i * (ix d.Counts i))))), (IntKind.i64.wrap (i + (1 : Int)))), (Option.some.inj H1).symm, imp_au⟩
      · intro b_2
        replace H1 := cneg H1 b_2
        refine lok_exit ?_
        try simp only [thenL, blockL, ↓reduceIte, reduceCtorEq]
        have e_1 := k_1 _ (Option.some.inj H1).symm
        subst e_1
        try dsimp only at H0
        try simp only [thenL, blockL, ↓reduceIte, reduceCtorEq]
        exact ⟨n1, H0, imp_au⟩
theorem ok_ref32_Mean (d : api_Distribution) (r_ : api_Ratio × Int) (H0 : ref32_Mean d = some r_) : CallOK Try.prog 33 [.agg [.p (.sl 1 (List.map encI d.Counts))]] [] [.agg [.p (pi r_.1.Num), .p (pi r_.1.Den)], .one (.p (pi r_.2))] [] := by
  refine callOK (n := 18) (rs := [.cell 2 31, .tmp 3]) (nb := 0) (V := []) Try.func33 rfl (by kernel_rfl) rfl rfl rfl rfl (Nat.le_of_ble_eq_true rfl) (by decide) ?_
  unfold ref32_Mean at H0
  refine lok_rt E0 (⟨18, mkS [(1, .x (.one (.ptr 101 0))), (2, .x (.one (.ptr 102 0)))], mkH [(101, .var [.p (.sl 1 (List.map encI d.Counts))]), (102, .var [.p (pi (0 : Int)), .p (pi (0 : Int))])]⟩) ?_
  refine lok_seq ?_
  replace H0 := bind_some H0
  obtain ⟨y, h_0, H0⟩ := H0
  refine lok_rt (Env.of E0 [⟨some 6, 49, [.agg [.p (.sl 1 (List.map encI d.Counts))]], [], [.one (.p (pi y))], [], True, fun _ => ok_ref32_wrong d y h_0, []⟩]) (⟨18, mkS [(1, .x (.one (.ptr 101 0))), (2, .x (.one (.ptr 102 0))), (4, .x (.one (.p (pi y))))], mkH [(101, .var [.p (.sl 1 (List.map encI d.Counts))]), (102, .var [.p (pi (0 : Int)), .p (pi (0 : Int))])]⟩) ?_
  refine lok_rt E0 (⟨18, mkS [(1, .x (.one (.ptr 101 0))), (2, .x (.one (.ptr 102 0))), (4, .x (.one (.p (pi y)))), (8, .x (.one (.p (.val (.bool (y != (0 : Int)))))))], mkH [(101, .var [.p (.sl 1 (List.map encI d.Counts))]), (102, .var [.p (pi (0 : Int)), .p (pi (0 : Int))])]⟩) ?_
  refine lok_c (y != (0 : Int)) ?_ ?_
  · intro b_4
    replace H0 := cpos H0 b_4
    refine lok_rt E0 (⟨18, mkS [(2, .x (.one (.ptr 102 0))), (3, .x (.one (.p (pi y))))], mkH [(102, .var [.p (pi (0 : Int)), .p (pi (0 : Int))])]⟩) ?_
    refine lok_ret ?_
    obtain rfl := Option.some.inj H0
    try simp only [thenL, blockL]
    exact fin_au _ (.inr rfl) [] (⟨18, mkS [(2, .x (.one (.ptr 102 0))), (3, .x (.one (.p (pi y))))], mkH [(102, .var [.p (pi (0 : Int)), .p (pi (0 : Int))])]⟩) rfl rfl imp_au
  · intro b_4
    replace H0 := cneg H0 b_4
    refine lok_skip ?_
    try simp only [thenL, blockL, ↓reduceIte, reduceCtorEq]
    replace H0 := bind_some H0
    obtain ⟨y1, h_1, H0⟩ := H0
    replace H0 := bind_some H0
    obtain ⟨y2, h_2, H0⟩ := H0
    replace H0 := bind_some H0
    obtain ⟨⟨y3, y4⟩, h_3, H0⟩ := H0
    try dsimp only at H0
    refine lok_dt (Env.of E0 [⟨some 12, 50, [.agg [.p (.sl 1 (List.map encI d.Counts))]], [], [.one (.p (pi y1))], [], True, fun _ => ok_ref32_sum d y1 h_1, []⟩,
      ⟨some 14, 30, [.agg [.p (.sl 1 (List.map encI d.Counts))]], [], [.one (.p (pi y2))], [], True, fun _ => ok_ref32_Count d y2 h_2, []⟩,
      ⟨some 15, 13, [.one (.p (pi y1)), .one (.p (pi y2))], [], [.agg [.p (pi y3.Num), .p (pi y3.Den)], .one (.p (pi y4))], [], True, fun _ => ok_ref01_New y1 y2 (y3, y4) h_3, []⟩]) 7 (⟨18, mkS [(2, .x (.one (.ptr 102 0))), (3, .x (.one (.p (pi y4))))], mkH [(102, .var [.p (pi y3.Num), .p (pi y3.Den)])]⟩) (by kernel_rfl) (by kernel_rfl) ?_
    refine lok_ret ?_
    obtain rfl := Option.some.inj H0
    try simp only [thenL, blockL]
    exact fin_au _ (.inr rfl) [] (⟨18, mkS [(2, .x (.one (.ptr 102 0))), (3, .x (.one (.p (pi y4))))], mkH [(102, .var [.p (pi y3.Num), .p (pi y3.Den)])]⟩) rfl rfl imp_au
theorem ok_ref32_Deviation (d : api_Distribution) (r_ : api_Ratio × Int) (H0 : ref32_Deviation d = some r_) : CallOK Try.prog 35 [.agg [.p (.sl 1 (List.map encI d.Counts))]] [] [.agg [.p (pi r_.1.Num), .p (pi r_.1.Den)], .one (.p (pi r_.2))] [] := by
  refine callOK (n := 51) (rs := [.cell 2 31, .tmp 3]) (nb := 0) (V := []) Try.func35 rfl (by kernel_rfl) rfl rfl rfl rfl (Nat.le_of_ble_eq_true rfl) (by decide) ?_
  unfold ref32_Deviation at H0
  refine lok_rt E0 (⟨51, mkS [(1, .x (.one (.ptr 101 0))), (2, .x (.one (.ptr 102 0)))], mkH [(101, .var [.p (.sl 1 (List.map encI d.Counts))]), (102, .var [.p (pi (0 : Int)), .p (pi (0 : Int))])]⟩) ?_
  refine lok_seq ?_
  replace H0 := bind_some H0
  obtain ⟨y, h_0, H0⟩ := H0
  refine lok_rt (Env.of E0 [⟨some 11, 49, [.agg [.p (.sl 1 (List.map encI d.Counts))]], [], [.one (.p (pi y))], [], True, fun _ => ok_ref32_wrong d y h_0, []⟩]) (⟨51, mkS [(1, .x (.one (.ptr 101 0))), (2, .x (.one (.ptr 102 0))), (4, .x (.one (.p (pi y))))], mkH [(101, .var [.p (.sl 1 (List.map encI d.Counts))]), (102, .var [.p (pi (0 : Int)), .p (pi (0 : Int))])]⟩) ?_
  refine lok_rt E0 (⟨51, mkS [(1, .x (.one (.ptr 101 0))), (2, .x (.one (.ptr 102 0))), (4, .x (.one (.p (pi y)))), (13, .x (.one (.p (.val (.bool (y != (0 : Int)))))))], mkH [(101, .var [.p (.sl 1 (List.map encI d.Counts))]), (102, .var [.p (pi (0 : Int)), .p (pi (0 : Int))])]⟩) ?_
  refine lok_c (y != (0 : Int)) ?_ ?_
  · intro b_8
    replace H0 := cpos H0 b_8
    refine lok_rt E0 (⟨51, mkS [(2, .x (.one (.ptr 102 0))), (3, .x (.one (.p (pi y))))], mkH [(102, .var [.p (pi (0 : Int)), .p (pi (0 : Int))])]⟩) ?_
    refine lok_ret ?_
    obtain rfl := Option.some.inj H0
    try simp only [thenL, blockL]
    exact fin_au _ (.inr rfl) [] (⟨51, mkS [(2, .x (.one (.ptr 102 0))), (3, .x (.one (.p (pi y))))], mkH [(102, .var [.p (pi (0 : Int)), .p (pi (0 : Int))])]⟩) rfl rfl imp_au
  · intro b_8
    replace H0 := cneg H0 b_8
    refine lok_skip ?_
    try simp only [thenL, blockL, ↓reduceIte, reduceCtorEq]
    replace H0 := bind_some H0
    obtain ⟨y1, h_1, H0⟩ := H0
    replace H0 := bind_some H0
    obtain ⟨y2, h_2, H0⟩ := H0
    refine lok_dt (Env.of E0 [⟨some 17, 30, [.agg [.p (.sl 1 (List.map encI d.Counts))]], [], [.one (.p (pi y1))], [], True, fun _ => ok_ref32_Count d y1 h_1, []⟩,
      ⟨some 19, 50, [.agg [.p (.sl 1 (List.map encI d.Counts))]], [], [.one (.p (pi y2))], [], True, fun _ => ok_ref32_sum d y2 h_2, []⟩]) 3 (⟨51, mkS [(1, .x (.one (.ptr 101 0))), (2, .x (.one (.ptr 102 0))), (5, .x (.one (.p (pi y1)))), (6, .x (.one (.p (pi y2)))), (7, .x (.one (.p (pi (0 : Int)))))], mkH [(101, .var [.p (.sl 1 (List.map encI d.Counts))]), (102, .var [.p (pi (0 : Int)), .p (pi (0 : Int))])]⟩) (by kernel_rfl) (by kernel_rfl) ?_
    refine lok_join (fun x_ : Int => ref32_Deviation_j1 y1 x_ = some r_) (fun x_ => ⟨51, mkS [(2, .x (.one (.ptr 102 0))), (5, .x (.one (.p (pi y1)))), (7, .x (.one (.p (pi x_))))], mkH [(102, .var [.p (pi (0 : Int)), .p (pi (0 : Int))])]⟩) ?hyref32_Deviation_j1 ?hxref32_Deviation_j1
    case hyref32_Deviation_j1 =>
      rintro out H0
      try dsimp only at H0 ⊢
      unfold ref32_Deviation_j1 at H0
      replace H0 := bind_some H0
      obtain ⟨⟨y3, y4⟩, h_3, H0⟩ := H0
      try dsimp only at H0
      refine lok_rt (Env.of E0 [⟨some 48, 13, [.one (.p (pi out)), .one (.p (pi (IntKind.i64.wrap (y1 * y1))))], [], [.agg [.p (pi y3.Num), .p (pi y3.Den)], .one (.p (pi y4))], [], True, fun _ => ok_ref01_New out (IntKind.i64.wrap (y1 * y1)) (y3, y4) h_3, []⟩]) (⟨51, mkS [(2, .x (.one (.ptr 102 0))), (3, .x (.one (.p (pi y4))))], mkH [(102, .var [.p (pi y3.Num), .p (pi y3.Den)])]⟩) ?_
      refine lok_ret ?_
      obtain rfl := Option.some.inj H0
      try simp only [thenL, blockL]
      exact fin_au _ (.inr rfl) [] (⟨51, mkS [(2, .x (.one (.ptr 102 0))), (3, .x (.one (.p (pi y4))))], mkH [(102, .var [.p (pi y3.Num), .p (pi y3.Den)])]⟩) rfl rfl imp_au
    case hxref32_Deviation_j1 =>
      refine lok_rt E0 (⟨51, mkS [(1, .x (.one (.ptr 101 0))), (2, .x (.one (.ptr 102 0))), (5, .x (.one (.p (pi y1)))), (6, .x (.one (.p (pi y2)))), (7, .x (.one (.p (pi (0 : Int))))), (8, .x (.one (.p (pi (0 : Int)))))], mkH [(101, .var [.p (.sl 1 (List.map encI d.Counts))]), (102, .var [.p (pi (0 : Int)), .p (pi (0 : Int))])]⟩) ?_
      refine lok_block ?_
      replace H0 := bind_some H0
      obtain ⟨v_4, hv_4, H0⟩ := H0
      refine lok_iter (fun x_ => ⟨51, mkS [(1, .x (.one (.ptr 101 0))), (2, .x (.one (.ptr 102 0))), (5, .x (.one (.p (pi y1)))), (6, .x (.one (.p (pi y2)))), (7, .x (.one (.p (pi x_.1)))), (8, .x (.one (.p (pi x_.2))))], mkH [(101, .var [.p (.sl 1 (List.map encI d.Counts))]), (102, .var [.p (pi (0 : Int)), .p (pi (0 : Int))])]⟩) hv_4 imp_au ?_
      · rintro ⟨out1, i⟩ o_1 H1 k_1
        unfold ref32_Deviation_l2 at H1
        try dsimp only at H1 ⊢
        refine lok_seq ?_
        refine lok_rt E0 (⟨51, mkS [(1, .x (.one (.ptr 101 0))), (2, .x (.one (.ptr 102 0))), (5, .x (.one (.p (pi y1)))), (6, .x (.one (.p (pi y2)))), (7, .x (.one (.p (pi out1)))), (8, .x (.one (.p (pi i)))), (24, .x (.one (.p (.val (.bool (decide (i < (d.Counts.length : Int))))))))], mkH [(101, .var [.p (.sl 1 (List.map encI d.Counts))]), (102, .var [.p (pi (0 : Int)), .p (pi (0 : Int))])]⟩) ?_
        refine lok_c (decide (i < (d.Counts.length : Int))) ?_ ?_
        · intro b_7
          replace H1 := cpos H1 b_7
          refine lok_skip ?_
          try simp only [thenL, blockL, ↓reduceIte, reduceCtorEq]
          refine lok_seq ?_
          refine lok_block ?_
          refine lok_rt E0 (⟨51, mkS [(1, .x (.one (.ptr 101 0))), (2, .x (.one (.ptr 102 0))), (5, .x (.one (.p (pi y1)))), (6, .x (.one (.p (pi y2)))), (7, .x (.one (.p (pi out1)))), (8, .x (.one (.p (pi i)))), (9, .x (.one (.p (pi (IntKind.i64.wrap ((IntKind.i64.wrap (i * y1)) - y2))))))], mkH [(101, .var [.p (.sl 1 (List.map encI d.Counts))]), (102, .var [.p (pi (0 : Int)), .p (pi (0 : Int))])]⟩) ?_
          replace H1 := req_some H1
          obtain ⟨q_6, H1⟩ := H1
          replace H1 := bindV_some H1
          obtain ⟨out3, a_5, H1⟩ := H1
          refine lok_rlg E0 a_5 (⟨51, mkS [(1, .x (.one (.ptr 101 0))), (2, .x (.one (.ptr 102 0))), (5, .x (.one (.p (pi y1)))), (6, .x (.one (.p (pi y2)))), (7, .x (.one (.p (pi out3)))), (8, .x (.one (.p (pi i))))], mkH [(101, .var [.p (.sl 1 (List.map encI d.Counts))]), (102, .var [.p (pi (0 : Int)), .p (pi (0 : Int))])]⟩) ?_
          try simp only [thenL, blockL, ↓reduceIte, reduceCtorEq]
          refine lok_rl E0 (⟨51, mkS [(1, .x (.one (.ptr 101 0))), (2, .x (.one (.ptr 102 0))), (5, .x (.one (.p (pi y1)))), (6, .x (.one (.p (pi y2)))), (7, .x (.one (.p (pi out3)))), (8, .x (.one (.p (pi (IntKind.i64.wrap (i + (1 : Int)))))))], mkH [(101, .var [.p (.sl 1 (List.map encI d.Counts))]), (102, .var [.p (pi (0 : Int)), .p (pi (0 : Int))])]⟩) ?_
          try simp only [thenL, blockL, ↓reduceIte, reduceCtorEq]
          exact ⟨(out3, (IntKind.i64.wrap (i + (1 : Int)))), (Option.some.inj H1).symm, imp_au⟩
        · intro b_7
          replace H1 := cneg H1 b_7
          refine lok_exit ?_
          try simp only [thenL, blockL, ↓reduceIte, reduceCtorEq]
          have e_1 := k_1 _ (Option.some.inj H1).symm
          subst e_1
          try dsimp only at H0
          try simp only [thenL, blockL, ↓reduceIte, reduceCtorEq]
          exact ⟨out1, H0, imp_au⟩
theorem ok_ref01_Valid (a : api_Ratio) (r_ : Bool) (H0 : ref01_Valid a = some r_) : CallOK Try.prog 51 [.agg [.p (pi a.Num), .p (pi a.Den)]] [] [.one (.p (.val (.bool r_)))] [] := by
  refine callOK (n := 32) (rs := [.tmp 2]) (nb := 0) (V := []) Try.func51 rfl (by kernel_rfl) rfl rfl rfl rfl (Nat.le_of_ble_eq_true rfl) (by decide) ?_
  unfold ref01_Valid at H0
  refine lok_rt E0 (⟨32, mkS [(1, .x (.one (.ptr 101 0)))], mkH [(101, .var [.p (pi a.Num), .p (pi a.Den)])]⟩) ?_
  refine lok_seq ?_
  refine lok_rt E0 (⟨32, mkS [(1, .x (.one (.ptr 101 0))), (20, .x (.one (.p (.val (.bool ((((decide (a.Den < (1 : Int))) || (decide ((1152921504606846976 : Int) < a.Den))) || (decide (a.Num < (-1152921504606846976 : Int)))) || (decide ((1152921504606846976 : Int) < a.Num))))))))], mkH [(101, .var [.p (pi a.Num), .p (pi a.Den)])]⟩) ?_
  refine lok_c ((((decide (a.Den < (1 : Int))) || (decide ((1152921504606846976 : Int) < a.Den))) || (decide (a.Num < (-1152921504606846976 : Int)))) || (decide ((1152921504606846976 : Int) < a.Num))) ?_ ?_
  · intro b_3
    replace H0 := cpos H0 b_3
    refine lok_rt E0 (⟨32, mkS [(2, .x (.one (.p (.val (.bool false)))))], mkH []⟩) ?_
    refine lok_ret ?_
    obtain rfl := Option.some.inj H0
    try simp only [thenL, blockL]
    exact fin_au _ (.inr rfl) [] (⟨32, mkS [(2, .x (.one (.p (.val (.bool false)))))], mkH []⟩) rfl rfl imp_au
  · intro b_3
    replace H0 := cneg H0 b_3
    refine lok_skip ?_
    try simp only [thenL, blockL, ↓reduceIte, reduceCtorEq]
    replace H0 := bind_some H0
    obtain ⟨y, h_0, H0⟩ := H0
    replace H0 := bind_some H0
    obtain ⟨y1, h_1, H0⟩ := H0
    replace H0 := bind_some H0
    obtain ⟨y2, h_2, H0⟩ := H0
    refine lok_dt (Env.of E0 [⟨some 23, 42, [.one (.p (pi a.Num))], [], [.one (.p (.val (.int .u64 y)))], [], True, fun _ => ok_ref01_Size a.Num y h_0, []⟩,
      ⟨some 27, 42, [.one (.p (pi a.Den))], [], [.one (.p (.val (.int .u64 y1)))], [], True, fun _ => ok_ref01_Size a.Den y1 h_1, []⟩,
      ⟨some 29, 54, [.agg [.p (.val (.int .u64 (0 : Int))), .p (.val (.int .u64 y))], .agg [.p (.val (.int .u64 (0 : Int))), .p (.val (.int .u64 y1))]], [], [.agg [.p (.val (.int .u64 y2.Hi)), .p (.val (.int .u64 y2.Lo))]], [], True, fun _ => ok_ref01_Divisor (ref01_Wide.mk (0 : Int) y) (ref01_Wide.mk (0 : Int) y1) y2 h_2, []⟩]) 10 (⟨32, mkS [(2, .x (.one (.p (.val (.bool ((y2.Hi == (0 : Int)) && (y2.Lo == (1 : Int))))))))], mkH []⟩) (by kernel_rfl) (by kernel_rfl) ?_
    refine lok_ret ?_
    obtain rfl := Option.some.inj H0
    try simp only [thenL, blockL]
    exact fin_au _ (.inr rfl) [] (⟨32, mkS [(2, .x (.one (.p (.val (.bool ((y2.Hi == (0 : Int)) && (y2.Lo == (1 : Int))))))))], mkH []⟩) rfl rfl imp_au
theorem ok_ref32_Outside (share : api_Ratio) (r_ : Bool) (H0 : ref32_Outside share = some r_) : CallOK Try.prog 52 [.agg [.p (pi share.Num), .p (pi share.Den)]] [] [.one (.p (.val (.bool r_)))] [] := by
  refine callOK (n := 13) (rs := [.tmp 2]) (nb := 0) (V := []) Try.func52 rfl (by kernel_rfl) rfl rfl rfl rfl (Nat.le_of_ble_eq_true rfl) (by decide) ?_
  unfold ref32_Outside at H0
  refine lok_rt E0 (⟨13, mkS [(1, .x (.one (.ptr 101 0)))], mkH [(101, .var [.p (pi share.Num), .p (pi share.Den)])]⟩) ?_
  refine lok_rt E0 (⟨13, mkS [(2, .x (.one (.p (.val (.bool ((decide (share.Num < (0 : Int))) || (decide (share.Den < share.Num))))))))], mkH []⟩) ?_
  refine lok_ret ?_
  obtain rfl := Option.some.inj H0
  try simp only [thenL, blockL]
  exact fin_au _ (.inr rfl) [] (⟨13, mkS [(2, .x (.one (.p (.val (.bool ((decide (share.Num < (0 : Int))) || (decide (share.Den < share.Num))))))))], mkH []⟩) rfl rfl imp_au
theorem ok_bits_Add64 (x y carry : Int) (r_ : Int × Int) (H0 : bits_Add64 x y carry = some r_) : CallOK Try.prog 77 [.int .u64 x, .int .u64 y, .int .u64 carry] [] [.int .u64 r_.1, .int .u64 r_.2] [] :=
  okAdd64 Try.func77 (by kernel_rfl) (by kernel_rfl) (by kernel_rfl) (by kernel_rfl) _ _ _ r_ H0
end Go.LS
