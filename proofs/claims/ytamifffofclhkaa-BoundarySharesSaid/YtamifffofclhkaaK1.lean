/-
  The walks: the functions compute what the plain ones say. Condition: the plain function has a value.
-/
import Derived.Test.YtamifffofclhkaaK0
import Derived.Test.YtamifffofclhkaaD1
namespace Go.LS
open Go.Proofs
set_option linter.all false
set_option linter.unusedSimpArgs false
set_option linter.unusedVariables false
set_option maxRecDepth 20000

theorem ok_mark_Roll (l : List Int) (r_ : mark_Dice) (H0 : mark_Roll l = some r_) : CallOK Try.prog 10 [.one (.p (.sl 1 (List.map encI l)))] [] [.one (.ptr 0 0)] [some (.var [.p (.sl 1 (List.map encI r_.L)), .p (pi r_.At)])] := by
  refine callOK (n := 6) (rs := [.tmp 2]) (nb := 0) (V := []) Try.func10 rfl (by kernel_rfl) rfl rfl rfl rfl (Nat.le_of_ble_eq_true rfl) (by decide) ?_
  unfold mark_Roll at H0
  refine lok_rt E0 (⟨6, mkS [(0, .x (.one (.p (.sl 1 (List.map encI l)))))], mkH []⟩) ?_
  refine lok_rt E0 (⟨6, mkS [(2, .x (.one (.ptr 105 0)))], mkH [(105, .var [.p (.sl 1 (List.map encI l)), .p (pi (0 : Int))])]⟩) ?_
  refine lok_ret ?_
  obtain rfl := Option.some.inj H0
  try simp only [thenL, blockL]
  exact fin_nu [105] _ (.inr rfl) [105] (⟨6, mkS [(2, .x (.one (.ptr 105 0)))], mkH [(105, .var [.p (.sl 1 (List.map encI l)), .p (pi (0 : Int))])]⟩) rfl rfl imp_au
theorem ok_mark_Dice_Next (d : mark_Dice) (n : Int) (r_ : Int × mark_Dice) (H0 : mark_Dice_Next d n = some r_) : CallOK Try.prog 29 [.one (.ptr 0 0), .one (.p (pi n))] [.var [.p (.sl 1 (List.map encI d.L)), .p (pi d.At)]] [.one (.p (pi r_.1))] [some (.var [.p (.sl 1 (List.map encI r_.2.L)), .p (pi r_.2.At)])] := by
  refine callOK (n := 45) (rs := [.tmp 4]) (nb := 1) (V := [0]) Try.func29 rfl (by kernel_rfl) rfl rfl rfl rfl (Nat.le_of_ble_eq_true rfl) (by decide) ?_
  unfold mark_Dice_Next at H0
  refine lok_rt E0 (⟨45, mkS [(0, .x (.one (.ptr 0 0))), (1, .x (.one (.p (pi n))))], mkH [(0, .var [.p (.sl 1 (List.map encI d.L)), .p (pi d.At)])]⟩) ?_
  refine lok_seq ?_
  refine lok_dt E0 9 (⟨45, mkS [(0, .x (.one (.ptr 0 0))), (1, .x (.one (.p (pi n)))), (19, .x (.one (.p (.val (.bool ((decide ((d.L.length : Int) ≤ d.At)) || (decide (n < (1 : Int)))))))))], mkH [(0, .var [.p (.sl 1 (List.map encI d.L)), .p (pi d.At)])]⟩) (by kernel_rfl) (by kernel_rfl) ?_
  refine lok_c ((decide ((d.L.length : Int) ≤ d.At)) || (decide (n < (1 : Int)))) ?_ ?_
  · intro b_3
    replace H0 := cpos H0 b_3
    refine lok_rt E0 (⟨45, mkS [(4, .x (.one (.p (pi (0 : Int)))))], mkH [(0, .var [.p (.sl 1 (List.map encI d.L)), .p (pi d.At)])]⟩) ?_
    refine lok_ret ?_
    obtain rfl := Option.some.inj H0
    try simp only [thenL, blockL]
    exact fin_au _ (.inr rfl) [0] (⟨45, mkS [(4, .x (.one (.p (pi (0 : Int)))))], mkH [(0, .var [.p (.sl 1 (List.map encI d.L)), .p (pi d.At)])]⟩) rfl rfl imp_au
  · intro b_3
    replace H0 := cneg H0 b_3
    refine lok_skip ?_
    try simp only [thenL, blockL, ↓reduceIte, reduceCtorEq]
    replace H0 := req_some H0
    obtain ⟨⟨q_1, q_2⟩, H0⟩ := H0
    refine lok_dt E0 11 (⟨45, mkS [(0, .x (.one (.ptr 0 0))), (1, .x (.one (.p (pi n)))), (5, .x (.one (.p (pi (Int.tmod (ix d.L d.At) n)))))], mkH [(0, .var [.p (.sl 1 (List.map encI d.L)), .p (pi d.At)])]⟩) (by kernel_rfl) (by kernel_rfl) ?_
    refine lok_rt E0 (⟨45, mkS [(1, .x (.one (.p (pi n)))), (5, .x (.one (.p (pi (Int.tmod (ix d.L d.At) n)))))], mkH [(0, .var [.p (.sl 1 (List.map encI d.L)), .p (pi (IntKind.i64.wrap (d.At + (1 : Int))))])]⟩) ?_
    refine lok_join (fun x_ : Int => mark_Dice_Next_j1 d x_ = some r_) (fun x_ => ⟨45, mkS [(5, .x (.one (.p (pi x_))))], mkH [(0, .var [.p (.sl 1 (List.map encI d.L)), .p (pi (IntKind.i64.wrap (d.At + (1 : Int))))])]⟩) ?hymark_Dice_Next_j1 ?hxmark_Dice_Next_j1
    case hymark_Dice_Next_j1 =>
      rintro x H0
      try dsimp only at H0 ⊢
      unfold mark_Dice_Next_j1 at H0
      refine lok_rt E0 (⟨45, mkS [(4, .x (.one (.p (pi x))))], mkH [(0, .var [.p (.sl 1 (List.map encI d.L)), .p (pi (IntKind.i64.wrap (d.At + (1 : Int))))])]⟩) ?_
      refine lok_ret ?_
      obtain rfl := Option.some.inj H0
      try simp only [thenL, blockL]
      exact fin_au _ (.inr rfl) [0] (⟨45, mkS [(4, .x (.one (.p (pi x))))], mkH [(0, .var [.p (.sl 1 (List.map encI d.L)), .p (pi (IntKind.i64.wrap (d.At + (1 : Int))))])]⟩) rfl rfl imp_au
    case hxmark_Dice_Next_j1 =>
      refine lok_rt E0 (⟨45, mkS [(1, .x (.one (.p (pi n)))), (5, .x (.one (.p (pi (Int.tmod (ix d.L d.At) n))))), (40, .x (.one (.p (.val (.bool (decide ((Int.tmod (ix d.L d.At) n) < (0 : Int))))))))], mkH [(0, .var [.p (.sl 1 (List.map encI d.L)), .p (pi (IntKind.i64.wrap (d.At + (1 : Int))))])]⟩) ?_
      refine lok_c (decide ((Int.tmod (ix d.L d.At) n) < (0 : Int))) ?_ ?_
      · intro b_0
        replace H0 := cpos H0 b_0
        refine lok_rl E0 (⟨45, mkS [(5, .x (.one (.p (pi (IntKind.i64.wrap ((Int.tmod (ix d.L d.At) n) + n))))))], mkH [(0, .var [.p (.sl 1 (List.map encI d.L)), .p (pi (IntKind.i64.wrap (d.At + (1 : Int))))])]⟩) ?_
        try simp only [thenL, blockL, ↓reduceIte, reduceCtorEq]
        exact ⟨(IntKind.i64.wrap ((Int.tmod (ix d.L d.At) n) + n)), H0, imp_au⟩
      · intro b_0
        replace H0 := cneg H0 b_0
        refine lok_skip ?_
        try simp only [thenL, blockL, ↓reduceIte, reduceCtorEq]
        exact ⟨(Int.tmod (ix d.L d.At) n), H0, imp_au⟩
theorem ok_mark_Dice_Pick (d : mark_Dice) (l : List Int) (r_ : Int × mark_Dice) (H0 : mark_Dice_Pick d l = some r_) : CallOK Try.prog 30 [.one (.ptr 0 0), .one (.p (.sl 1 (List.map encI l)))] [.var [.p (.sl 1 (List.map encI d.L)), .p (pi d.At)]] [.one (.p (pi r_.1))] [some (.var [.p (.sl 1 (List.map encI r_.2.L)), .p (pi r_.2.At)])] := by
  refine callOK (n := 12) (rs := [.tmp 4]) (nb := 1) (V := [0]) Try.func30 rfl (by kernel_rfl) rfl rfl rfl rfl (Nat.le_of_ble_eq_true rfl) (by decide) ?_
  unfold mark_Dice_Pick at H0
  refine lok_rt E0 (⟨12, mkS [(0, .x (.one (.ptr 0 0))), (1, .x (.one (.p (.sl 1 (List.map encI l)))))], mkH [(0, .var [.p (.sl 1 (List.map encI d.L)), .p (pi d.At)])]⟩) ?_
  replace H0 := bind_some H0
  obtain ⟨⟨y, y1⟩, h_0, H0⟩ := H0
  try dsimp only at H0
  replace H0 := req_some H0
  obtain ⟨q_1, H0⟩ := H0
  refine lok_rt (Env.of E0 [⟨some 9, 29, [.one (.ptr 0 0), .one (.p (pi (l.length : Int)))], [.var [.p (.sl 1 (List.map encI d.L)), .p (pi d.At)]], [.one (.p (pi y))], [some (.var [.p (.sl 1 (List.map encI y1.L)), .p (pi y1.At)])], True, fun _ => ok_mark_Dice_Next d (l.length : Int) (y, y1) h_0, []⟩]) (⟨12, mkS [(4, .x (.one (.p (pi (ix l y)))))], mkH [(0, .var [.p (.sl 1 (List.map encI y1.L)), .p (pi y1.At)])]⟩) ?_
  refine lok_ret ?_
  obtain rfl := Option.some.inj H0
  try simp only [thenL, blockL]
  exact fin_au _ (.inr rfl) [0] (⟨12, mkS [(4, .x (.one (.p (pi (ix l y)))))], mkH [(0, .var [.p (.sl 1 (List.map encI y1.L)), .p (pi y1.At)])]⟩) rfl rfl imp_au
theorem ok_mark_Dice_Distribution (d : mark_Dice) (n : Int) (full : Bool) (r_ : api_Distribution × mark_Dice) (H0 : mark_Dice_Distribution d n full = some r_) : CallOK Try.prog 11 [.one (.ptr 0 0), .one (.p (pi n)), .one (.p (.val (.bool full)))] [.var [.p (.sl 1 (List.map encI d.L)), .p (pi d.At)]] [.agg [.p (.sl 1 (List.map encI r_.1.Counts))]] [some (.var [.p (.sl 1 (List.map encI r_.2.L)), .p (pi r_.2.At)])] := by
  refine callOK (n := 31) (rs := [.cell 6 28]) (nb := 1) (V := [0]) Try.func11 rfl (by kernel_rfl) rfl rfl rfl rfl (Nat.le_of_ble_eq_true rfl) (by decide) ?_
  unfold mark_Dice_Distribution at H0
  refine lok_rt E0 (⟨31, mkS [(0, .x (.one (.ptr 0 0))), (1, .x (.one (.p (pi n)))), (2, .x (.one (.p (.val (.bool full))))), (6, .x (.one (.ptr 106 0)))], mkH [(0, .var [.p (.sl 1 (List.map encI d.L)), .p (pi d.At)]), (106, .var [.p .nil])]⟩) ?_
  refine lok_rt E0 (⟨31, mkS [(0, .x (.one (.ptr 0 0))), (1, .x (.one (.p (pi n)))), (2, .x (.one (.p (.val (.bool full))))), (6, .x (.one (.ptr 106 0))), (7, .x (.one (.ptr 107 0)))], mkH [(0, .var [.p (.sl 1 (List.map encI d.L)), .p (pi d.At)]), (106, .var [.p .nil]), (107, .var [.p .nil])]⟩) ?_
  refine lok_rt E0 (⟨31, mkS [(0, .x (.one (.ptr 0 0))), (1, .x (.one (.p (pi n)))), (2, .x (.one (.p (.val (.bool full))))), (6, .x (.one (.ptr 106 0))), (7, .x (.one (.ptr 107 0))), (8, .x (.one (.p (pi (0 : Int)))))], mkH [(0, .var [.p (.sl 1 (List.map encI d.L)), .p (pi d.At)]), (106, .var [.p .nil]), (107, .var [.p .nil])]⟩) ?_
  refine lok_join (fun x_ : Int => mark_Dice_Distribution_j3 d n x_ = some r_) (fun x_ => ⟨31, mkS [(0, .x (.one (.ptr 0 0))), (1, .x (.one (.p (pi n)))), (6, .x (.one (.ptr 106 0))), (7, .x (.one (.ptr 107 0))), (8, .x (.one (.p (pi x_))))], mkH [(0, .var [.p (.sl 1 (List.map encI d.L)), .p (pi d.At)]), (106, .var [.p .nil]), (107, .var [.p .nil])]⟩) ?hymark_Dice_Distribution_j3 ?hxmark_Dice_Distribution_j3
  case hymark_Dice_Distribution_j3 =>
    rintro least H0
    try dsimp only at H0 ⊢
    unfold mark_Dice_Distribution_j3 at H0
    refine lok_join (fun x_ : (List Int) × Int × (List Int) => mark_Dice_Distribution_j1 x_.1 x_.2.1 x_.2.2 = some r_) (fun x_ => ⟨31, mkS [(6, .x (.one (.ptr 106 0))), (7, .x (.one (.ptr 107 0)))], mkH [(0, .var [.p (.sl 1 (List.map encI x_.1)), .p (pi x_.2.1)]), (106, .var [.p .nil]), (107, .var [.vw 128]), (128, .arr 1 (List.map encI x_.2.2))]⟩) ?hymark_Dice_Distribution_j1 ?hxmark_Dice_Distribution_j1
    case hymark_Dice_Distribution_j1 =>
      rintro ⟨d1, d2, w⟩ H0
      try dsimp only at H0 ⊢
      unfold mark_Dice_Distribution_j1 at H0
      refine lok_rt E0 (⟨31, mkS [(6, .x (.one (.ptr 106 0)))], mkH [(0, .var [.p (.sl 1 (List.map encI d1)), .p (pi d2)]), (106, .var [.vw 128]), (128, .arr 1 (List.map encI w))]⟩) ?_
      refine lok_ret ?_
      obtain rfl := Option.some.inj H0
      try simp only [thenL, blockL]
      exact fin_au _ (.inr rfl) [0] (⟨31, mkS [(6, .x (.one (.ptr 106 0)))], mkH [(0, .var [.p (.sl 1 (List.map encI d1)), .p (pi d2)]), (106, .var [.p (.sl 1 (List.map encI w))])]⟩) rfl rfl (Imp.trans (imp_frz 128 1 (List.map encI w)) imp_au)
    case hxmark_Dice_Distribution_j1 =>
      replace H0 := bind_some H0
      obtain ⟨⟨y, y1⟩, h_0, H0⟩ := H0
      try dsimp only at H0
      refine lok_rt (Env.of E0 [⟨some 14, 29, [.one (.ptr 0 0), .one (.p (pi (IntKind.i64.wrap (n + (1 : Int)))))], [.var [.p (.sl 1 (List.map encI d.L)), .p (pi d.At)]], [.one (.p (pi y))], [some (.var [.p (.sl 1 (List.map encI y1.L)), .p (pi y1.At)])], True, fun _ => ok_mark_Dice_Next d (IntKind.i64.wrap (n + (1 : Int))) (y, y1) h_0, []⟩]) (⟨31, mkS [(0, .x (.one (.ptr 0 0))), (6, .x (.one (.ptr 106 0))), (7, .x (.one (.ptr 107 0))), (8, .x (.one (.p (pi least)))), (9, .x (.one (.p (pi (IntKind.i64.wrap ((1 : Int) + y))))))], mkH [(0, .var [.p (.sl 1 (List.map encI y1.L)), .p (pi y1.At)]), (106, .var [.p .nil]), (107, .var [.p .nil])]⟩) ?_
      refine lok_block ?_
      replace H0 := bind_some H0
      obtain ⟨v_1, hv_1, H0⟩ := H0
      refine lok_iter (fun x_ => ⟨31, mkS [(0, .x (.one (.ptr 0 0))), (6, .x (.one (.ptr 106 0))), (7, .x (.one (.ptr 107 0))), (8, .x (.one (.p (pi least)))), (9, .x (.one (.p (pi x_.1))))], mkH [(0, .var [.p (.sl 1 (List.map encI x_.2.1)), .p (pi x_.2.2.1)]), (106, .var [.p .nil]), (107, .var [.vw 128]), (128, .arr 1 (List.map encI x_.2.2.2))]⟩) hv_1 imp_au ?_
      · rintro ⟨i, d3, d4, w1⟩ o_1 H1 k_1
        unfold mark_Dice_Distribution_l2 at H1
        try dsimp only at H1 ⊢
        refine lok_seq ?_
        refine lok_rt E0 (⟨31, mkS [(0, .x (.one (.ptr 0 0))), (6, .x (.one (.ptr 106 0))), (7, .x (.one (.ptr 107 0))), (8, .x (.one (.p (pi least)))), (9, .x (.one (.p (pi i)))), (17, .x (.one (.p (.val (.bool (decide ((0 : Int) < i)))))))], mkH [(0, .var [.p (.sl 1 (List.map encI d3)), .p (pi d4)]), (106, .var [.p .nil]), (107, .var [.vw 128]), (128, .arr 1 (List.map encI w1))]⟩) ?_
        refine lok_c (decide ((0 : Int) < i)) ?_ ?_
        · intro b_4
          replace H1 := cpos H1 b_4
          refine lok_skip ?_
          try simp only [thenL, blockL, ↓reduceIte, reduceCtorEq]
          refine lok_seq ?_
          refine lok_block ?_
          replace H1 := bind_some H1
          obtain ⟨⟨y2, y3⟩, h_2, H1⟩ := H1
          try dsimp only at H1
          replace H1 := req_some H1
          obtain ⟨q_3, H1⟩ := H1
          refine lok_el (Env.of E0 [⟨some 25, 30, [.one (.ptr 0 0), .one (.p (.sl 1 (List.map encI ([(0 : Int), (1 : Int), (2 : Int), (5 : Int), (0 : Int)]))))], [.var [.p (.sl 1 (List.map encI d3)), .p (pi d4)]], [.one (.p (pi y2))], [some (.var [.p (.sl 1 (List.map encI y3.L)), .p (pi y3.At)])], True, fun _ => ok_mark_Dice_Pick (mark_Dice.mk d3 d4) ([(0 : Int), (1 : Int), (2 : Int), (5 : Int), (0 : Int)]) (y2, y3) h_2, []⟩]) 31 [⟨[(7, .x (.one (.ptr 107 0)))], [], [(20, .x (.one (.ptr 107 0)))], [], none⟩,
      ⟨[(20, .x (.one (.ptr 107 0)))], [(107, some (.var [.vw 128]))], [(21, .x (.one (.vw 128)))], [], none⟩,
      ⟨[(8, .x (.one (.p (pi least))))], [], [(22, .x (.one (.p (pi least))))], [], none⟩,
      ⟨[(0, .x (.one (.ptr 0 0)))], [], [(23, .x (.one (.ptr 0 0)))], [], none⟩,
      ⟨[], [], [(24, .x (.one (.fl 1 (List.map encI ([(0 : Int), (1 : Int), (2 : Int), (5 : Int), (0 : Int)])))))], [], none⟩,
      ⟨[(23, .x (.one (.ptr 0 0))), (24, .x (.one (.fl 1 (List.map encI ([(0 : Int), (1 : Int), (2 : Int), (5 : Int), (0 : Int)])))))], [(0, some (.var [.p (.sl 1 (List.map encI d3)), .p (pi d4)]))], [(25, .x (.one (.p (pi y2))))], [(0, some (.var [.p (.sl 1 (List.map encI y3.L)), .p (pi y3.At)]))], none⟩,
      ⟨[(22, .x (.one (.p (pi least)))), (25, .x (.one (.p (pi y2))))], [], [(26, .x (.one (.p (pi (IntKind.i64.wrap (least + y2))))))], [], none⟩,
      ⟨[(26, .x (.one (.p (pi (IntKind.i64.wrap (least + y2))))))], [], [(27, .x (.one (.fl 1 (List.map encI ([(IntKind.i64.wrap (least + y2))])))))], [], none⟩] (⟨31, mkS [(0, .x (.one (.ptr 0 0))), (6, .x (.one (.ptr 106 0))), (7, .x (.one (.ptr 107 0))), (8, .x (.one (.p (pi least)))), (9, .x (.one (.p (pi i))))], mkH [(0, .var [.p (.sl 1 (List.map encI y3.L)), .p (pi y3.At)]), (106, .var [.p .nil]), (107, .var [.vw 128]), (128, .arr 1 (List.map encI (w1 ++ [(IntKind.i64.wrap (least + y2))])))]⟩) (by kernel_rfl) (by kernel_rfl) (by kernel_rfl) rfl rfl rfl ?_
          try simp only [thenL, blockL, ↓reduceIte, reduceCtorEq]
          refine lok_rl E0 (⟨31, mkS [(0, .x (.one (.ptr 0 0))), (6, .x (.one (.ptr 106 0))), (7, .x (.one (.ptr 107 0))), (8, .x (.one (.p (pi least)))), (9, .x (.one (.p (pi (IntKind.i64.wrap (i - (1 : Int)))))))], mkH [(0, .var [.p (.sl 1 (List.map encI y3.L)), .p (pi y3.At)]), (106, .var [.p .nil]), (107, .var [.vw 128]), (128, .arr 1 (List.map encI (w1 ++ [(IntKind.i64.wrap (least + y2))])))]⟩) ?_
          try simp only [thenL, blockL, ↓reduceIte, reduceCtorEq]
          exact ⟨((IntKind.i64.wrap (i - (1 : Int))), y3.L, y3.At, (w1 ++ [(IntKind.i64.wrap (least + y2))])), (Option.some.inj H1).symm, imp_au⟩
        · intro b_4
          replace H1 := cneg H1 b_4
          refine lok_exit ?_
          try simp only [thenL, blockL, ↓reduceIte, reduceCtorEq]
          have e_1 := k_1 _ (Option.some.inj H1).symm
          subst e_1
          try dsimp only at H0
          try simp only [thenL, blockL, ↓reduceIte, reduceCtorEq]
          exact ⟨(d3, d4, w1), H0, imp_au⟩
  case hxmark_Dice_Distribution_j3 =>
    refine lok_rt E0 (⟨31, mkS [(0, .x (.one (.ptr 0 0))), (1, .x (.one (.p (pi n)))), (6, .x (.one (.ptr 106 0))), (7, .x (.one (.ptr 107 0))), (8, .x (.one (.p (pi (0 : Int))))), (10, .x (.one (.p (.val (.bool full)))))], mkH [(0, .var [.p (.sl 1 (List.map encI d.L)), .p (pi d.At)]), (106, .var [.p .nil]), (107, .var [.p .nil])]⟩) ?_
    refine lok_c full ?_ ?_
    · intro b_5
      replace H0 := cpos H0 b_5
      refine lok_rl E0 (⟨31, mkS [(0, .x (.one (.ptr 0 0))), (1, .x (.one (.p (pi n)))), (6, .x (.one (.ptr 106 0))), (7, .x (.one (.ptr 107 0))), (8, .x (.one (.p (pi (1 : Int)))))], mkH [(0, .var [.p (.sl 1 (List.map encI d.L)), .p (pi d.At)]), (106, .var [.p .nil]), (107, .var [.p .nil])]⟩) ?_
      try simp only [thenL, blockL, ↓reduceIte, reduceCtorEq]
      exact ⟨(1 : Int), H0, imp_au⟩
    · intro b_5
      replace H0 := cneg H0 b_5
      refine lok_skip ?_
      try simp only [thenL, blockL, ↓reduceIte, reduceCtorEq]
      exact ⟨(0 : Int), H0, imp_au⟩
theorem ok_mark_Dice_Bounds (d : mark_Dice) (most : Int) (r_ : (List Int) × mark_Dice) (H0 : mark_Dice_Bounds d most = some r_) : CallOK Try.prog 12 [.one (.ptr 0 0), .one (.p (pi most))] [.var [.p (.sl 1 (List.map encI d.L)), .p (pi d.At)]] [.one (.p (.sl 1 (List.map encI r_.1)))] [some (.var [.p (.sl 1 (List.map encI r_.2.L)), .p (pi r_.2.At)])] := by
  refine callOK (n := 29) (rs := [.tmp 4]) (nb := 1) (V := [0]) Try.func12 rfl (by kernel_rfl) rfl rfl rfl rfl (Nat.le_of_ble_eq_true rfl) (by decide) ?_
  unfold mark_Dice_Bounds at H0
  refine lok_rt E0 (⟨29, mkS [(0, .x (.one (.ptr 0 0))), (1, .x (.one (.p (pi most))))], mkH [(0, .var [.p (.sl 1 (List.map encI d.L)), .p (pi d.At)])]⟩) ?_
  refine lok_rt E0 (⟨29, mkS [(0, .x (.one (.ptr 0 0))), (1, .x (.one (.p (pi most)))), (5, .x (.one (.vw 105)))], mkH [(0, .var [.p (.sl 1 (List.map encI d.L)), .p (pi d.At)]), (105, .arr 1 (List.map encI ([] : List Int)))]⟩) ?_
  refine lok_rt E0 (⟨29, mkS [(0, .x (.one (.ptr 0 0))), (5, .x (.one (.vw 105))), (6, .x (.one (.p (pi (IntKind.i64.wrap (most + (1 : Int)))))))], mkH [(0, .var [.p (.sl 1 (List.map encI d.L)), .p (pi d.At)]), (105, .arr 1 (List.map encI ([] : List Int)))]⟩) ?_
  refine lok_join (fun x_ : (List Int) × Int × (List Int) => mark_Dice_Bounds_j1 x_.1 x_.2.1 x_.2.2 = some r_) (fun x_ => ⟨29, mkS [(5, .x (.one (.vw 105)))], mkH [(0, .var [.p (.sl 1 (List.map encI x_.1)), .p (pi x_.2.1)]), (105, .arr 1 (List.map encI x_.2.2))]⟩) ?hymark_Dice_Bounds_j1 ?hxmark_Dice_Bounds_j1
  case hymark_Dice_Bounds_j1 =>
    rintro ⟨d1, d2, out⟩ H0
    try dsimp only at H0 ⊢
    unfold mark_Dice_Bounds_j1 at H0
    refine lok_rt E0 (⟨29, mkS [(4, .x (.one (.vw 105)))], mkH [(0, .var [.p (.sl 1 (List.map encI d1)), .p (pi d2)]), (105, .arr 1 (List.map encI out))]⟩) ?_
    refine lok_ret ?_
    obtain rfl := Option.some.inj H0
    try simp only [thenL, blockL]
    exact fin_au _ (.inr rfl) [0] (⟨29, mkS [(4, .x (.one (.p (.sl 1 (List.map encI out)))))], mkH [(0, .var [.p (.sl 1 (List.map encI d1)), .p (pi d2)])]⟩) rfl rfl (Imp.trans (imp_frz 105 1 (List.map encI out)) imp_au)
  case hxmark_Dice_Bounds_j1 =>
    replace H0 := bind_some H0
    obtain ⟨⟨y, y1⟩, h_0, H0⟩ := H0
    try dsimp only at H0
    refine lok_rt (Env.of E0 [⟨some 11, 29, [.one (.ptr 0 0), .one (.p (pi (4 : Int)))], [.var [.p (.sl 1 (List.map encI d.L)), .p (pi d.At)]], [.one (.p (pi y))], [some (.var [.p (.sl 1 (List.map encI y1.L)), .p (pi y1.At)])], True, fun _ => ok_mark_Dice_Next d (4 : Int) (y, y1) h_0, []⟩]) (⟨29, mkS [(0, .x (.one (.ptr 0 0))), (5, .x (.one (.vw 105))), (6, .x (.one (.p (pi (IntKind.i64.wrap (most + (1 : Int))))))), (7, .x (.one (.p (pi (IntKind.i64.wrap ((1 : Int) + y))))))], mkH [(0, .var [.p (.sl 1 (List.map encI y1.L)), .p (pi y1.At)]), (105, .arr 1 (List.map encI ([] : List Int)))]⟩) ?_
    refine lok_block ?_
    replace H0 := bind_some H0
    obtain ⟨v_1, hv_1, H0⟩ := H0
    refine lok_iter (fun x_ => ⟨29, mkS [(0, .x (.one (.ptr 0 0))), (5, .x (.one (.vw 105))), (6, .x (.one (.p (pi x_.1)))), (7, .x (.one (.p (pi x_.2.1))))], mkH [(0, .var [.p (.sl 1 (List.map encI x_.2.2.1)), .p (pi x_.2.2.2.1)]), (105, .arr 1 (List.map encI x_.2.2.2.2))]⟩) hv_1 imp_au ?_
    · rintro ⟨b, i, d3, d4, out1⟩ o_1 H1 k_1
      unfold mark_Dice_Bounds_l2 at H1
      try dsimp only at H1 ⊢
      refine lok_seq ?_
      refine lok_rt E0 (⟨29, mkS [(0, .x (.one (.ptr 0 0))), (5, .x (.one (.vw 105))), (6, .x (.one (.p (pi b)))), (7, .x (.one (.p (pi i)))), (14, .x (.one (.p (.val (.bool (decide ((0 : Int) < i)))))))], mkH [(0, .var [.p (.sl 1 (List.map encI d3)), .p (pi d4)]), (105, .arr 1 (List.map encI out1))]⟩) ?_
      refine lok_c (decide ((0 : Int) < i)) ?_ ?_
      · intro b_4
        replace H1 := cpos H1 b_4
        refine lok_skip ?_
        try simp only [thenL, blockL, ↓reduceIte, reduceCtorEq]
        refine lok_seq ?_
        refine lok_block ?_
        replace H1 := bind_some H1
        obtain ⟨⟨y2, y3⟩, h_2, H1⟩ := H1
        try dsimp only at H1
        refine lok_rt (Env.of E0 [⟨some 22, 29, [.one (.ptr 0 0), .one (.p (pi (IntKind.i64.wrap ((IntKind.i64.wrap (Int.tdiv b (2 : Int))) + (1 : Int)))))], [.var [.p (.sl 1 (List.map encI d3)), .p (pi d4)]], [.one (.p (pi y2))], [some (.var [.p (.sl 1 (List.map encI y3.L)), .p (pi y3.At)])], True, fun _ => ok_mark_Dice_Next (mark_Dice.mk d3 d4) (IntKind.i64.wrap ((IntKind.i64.wrap (Int.tdiv b (2 : Int))) + (1 : Int))) (y2, y3) h_2, []⟩]) (⟨29, mkS [(0, .x (.one (.ptr 0 0))), (5, .x (.one (.vw 105))), (6, .x (.one (.p (pi (IntKind.i64.wrap (b - y2)))))), (7, .x (.one (.p (pi i))))], mkH [(0, .var [.p (.sl 1 (List.map encI y3.L)), .p (pi y3.At)]), (105, .arr 1 (List.map encI out1))]⟩) ?_
        replace H1 := req_some H1
        obtain ⟨q_3, H1⟩ := H1
        refine lok_rl E0 (⟨29, mkS [(0, .x (.one (.ptr 0 0))), (5, .x (.one (.vw 105))), (6, .x (.one (.p (pi (IntKind.i64.wrap (b - y2)))))), (7, .x (.one (.p (pi i))))], mkH [(0, .var [.p (.sl 1 (List.map encI y3.L)), .p (pi y3.At)]), (105, .arr 1 (List.map encI (out1 ++ [(IntKind.i64.wrap (b - y2))])))]⟩) ?_
        try simp only [thenL, blockL, ↓reduceIte, reduceCtorEq]
        refine lok_rl E0 (⟨29, mkS [(0, .x (.one (.ptr 0 0))), (5, .x (.one (.vw 105))), (6, .x (.one (.p (pi (IntKind.i64.wrap (b - y2)))))), (7, .x (.one (.p (pi (IntKind.i64.wrap (i - (1 : Int)))))))], mkH [(0, .var [.p (.sl 1 (List.map encI y3.L)), .p (pi y3.At)]), (105, .arr 1 (List.map encI (out1 ++ [(IntKind.i64.wrap (b - y2))])))]⟩) ?_
        try simp only [thenL, blockL, ↓reduceIte, reduceCtorEq]
        exact ⟨((IntKind.i64.wrap (b - y2)), (IntKind.i64.wrap (i - (1 : Int))), y3.L, y3.At, (out1 ++ [(IntKind.i64.wrap (b - y2))])), (Option.some.inj H1).symm, imp_au⟩
      · intro b_4
        replace H1 := cneg H1 b_4
        refine lok_exit ?_
        try simp only [thenL, blockL, ↓reduceIte, reduceCtorEq]
        have e_1 := k_1 _ (Option.some.inj H1).symm
        subst e_1
        try dsimp only at H0
        try simp only [thenL, blockL, ↓reduceIte, reduceCtorEq]
        exact ⟨(d3, d4, out1), H0, imp_au⟩
theorem ok_boundary_Grade (b : List Int) (mark : Int) (r_ : Int) (H0 : boundary_Grade b mark = some r_) : CallOK Try.prog 14 [.one (.p (.sl 1 (List.map encI b))), .one (.p (pi mark))] [] [.one (.p (pi r_))] [] := by
  refine callOK (n := 21) (rs := [.tmp 4]) (nb := 0) (V := []) Try.func14 rfl (by kernel_rfl) rfl rfl rfl rfl (Nat.le_of_ble_eq_true rfl) (by decide) ?_
  unfold boundary_Grade at H0
  refine lok_rt E0 (⟨21, mkS [(0, .x (.one (.p (.sl 1 (List.map encI b))))), (1, .x (.one (.p (pi mark))))], mkH []⟩) ?_
  refine lok_join (fun x_ : Unit => boundary_Grade_j1 b = some r_) (fun x_ => ⟨21, mkS [(0, .x (.one (.p (.sl 1 (List.map encI b)))))], mkH []⟩) ?hyboundary_Grade_j1 ?hxboundary_Grade_j1
  case hyboundary_Grade_j1 =>
    rintro _ H0
    try dsimp only at H0 ⊢
    unfold boundary_Grade_j1 at H0
    refine lok_rt E0 (⟨21, mkS [(4, .x (.one (.p (pi (b.length : Int)))))], mkH []⟩) ?_
    refine lok_ret ?_
    obtain rfl := Option.some.inj H0
    try simp only [thenL, blockL]
    exact fin_au _ (.inr rfl) [] (⟨21, mkS [(4, .x (.one (.p (pi (b.length : Int)))))], mkH []⟩) rfl rfl imp_au
  case hxboundary_Grade_j1 =>
    refine lok_rt E0 (⟨21, mkS [(0, .x (.one (.p (.sl 1 (List.map encI b))))), (1, .x (.one (.p (pi mark)))), (7, .x (.one (.p (.sl 1 (List.map encI b))))), (8, .x (.one (.p (pi (b.length : Int))))), (9, .x (.one (.p (pi (0 : Int)))))], mkH []⟩) ?_
    refine lok_block ?_
    replace H0 := bind_some H0
    obtain ⟨v_0, hv_0, H0⟩ := H0
    refine lok_iter (fun x_ => ⟨21, mkS [(0, .x (.one (.p (.sl 1 (List.map encI b))))), (1, .x (.one (.p (pi mark)))), (7, .x (.one (.p (.sl 1 (List.map encI b))))), (8, .x (.one (.p (pi (b.length : Int))))), (9, .x (.one (.p (pi x_))))], mkH []⟩) hv_0 imp_au ?_
    · rintro v o_1 H1 k_1
      unfold boundary_Grade_l2 at H1
      try dsimp only at H1 ⊢
      refine lok_rt E0 (⟨21, mkS [(0, .x (.one (.p (.sl 1 (List.map encI b))))), (1, .x (.one (.p (pi mark)))), (7, .x (.one (.p (.sl 1 (List.map encI b))))), (8, .x (.one (.p (pi (b.length : Int))))), (9, .x (.one (.p (pi v)))), (10, .x (.one (.p (.val (.bool (decide (v < (b.length : Int))))))))], mkH []⟩) ?_
      refine lok_seq ?_
      refine lok_c (decide (v < (b.length : Int))) ?_ ?_
      · intro b_3
        replace H1 := cpos H1 b_3
        refine lok_skip ?_
        try simp only [thenL, blockL, ↓reduceIte, reduceCtorEq]
        refine lok_seq ?_
        refine lok_block ?_
        replace H1 := req_some H1
        obtain ⟨q_2, H1⟩ := H1
        refine lok_rt E0 (⟨21, mkS [(0, .x (.one (.p (.sl 1 (List.map encI b))))), (1, .x (.one (.p (pi mark)))), (5, .x (.one (.p (pi v)))), (6, .x (.one (.p (pi (ix b v))))), (7, .x (.one (.p (.sl 1 (List.map encI b))))), (8, .x (.one (.p (pi (b.length : Int))))), (9, .x (.one (.p (pi v))))], mkH []⟩) ?_
        refine lok_rt E0 (⟨21, mkS [(0, .x (.one (.p (.sl 1 (List.map encI b))))), (1, .x (.one (.p (pi mark)))), (5, .x (.one (.p (pi v)))), (7, .x (.one (.p (.sl 1 (List.map encI b))))), (8, .x (.one (.p (pi (b.length : Int))))), (9, .x (.one (.p (pi v)))), (16, .x (.one (.p (.val (.bool (decide ((ix b v) ≤ mark)))))))], mkH []⟩) ?_
        refine lok_c (decide ((ix b v) ≤ mark)) ?_ ?_
        · intro b_1
          replace H1 := cpos H1 b_1
          refine lok_rt E0 (⟨21, mkS [(4, .x (.one (.p (pi v))))], mkH []⟩) ?_
          refine lok_ret ?_
          try simp only [thenL, blockL, ↓reduceIte, reduceCtorEq]
          have e_1 := k_1 _ (Option.some.inj H1).symm
          subst e_1
          try dsimp only at H0
          obtain rfl := Option.some.inj H0
          try simp only [thenL, blockL]
          exact fin_au _ (.inr rfl) [] (⟨21, mkS [(4, .x (.one (.p (pi v))))], mkH []⟩) rfl rfl imp_au
        · intro b_1
          replace H1 := cneg H1 b_1
          refine lok_skip ?_
          try simp only [thenL, blockL, ↓reduceIte, reduceCtorEq]
          refine lok_rl E0 (⟨21, mkS [(0, .x (.one (.p (.sl 1 (List.map encI b))))), (1, .x (.one (.p (pi mark)))), (7, .x (.one (.p (.sl 1 (List.map encI b))))), (8, .x (.one (.p (pi (b.length : Int))))), (9, .x (.one (.p (pi (IntKind.i64.wrap (v + (1 : Int)))))))], mkH []⟩) ?_
          try simp only [thenL, blockL, ↓reduceIte, reduceCtorEq]
          exact ⟨(IntKind.i64.wrap (v + (1 : Int))), (Option.some.inj H1).symm, imp_au⟩
      · intro b_3
        replace H1 := cneg H1 b_3
        refine lok_exit ?_
        try simp only [thenL, blockL, ↓reduceIte, reduceCtorEq]
        have e_1 := k_1 _ (Option.some.inj H1).symm
        subst e_1
        try dsimp only at H0
        try simp only [thenL, blockL, ↓reduceIte, reduceCtorEq]
        exact ⟨(), H0, imp_au⟩
theorem ok_boundary_isScore (n : Int) (r_ : Bool) (H0 : boundary_isScore n = some r_) : CallOK Try.prog 42 [.one (.p (pi n))] [] [.one (.p (.val (.bool r_)))] [] := by
  refine callOK (n := 9) (rs := [.tmp 2]) (nb := 0) (V := []) Try.func42 rfl (by kernel_rfl) rfl rfl rfl rfl (Nat.le_of_ble_eq_true rfl) (by decide) ?_
  unfold boundary_isScore at H0
  refine lok_rt E0 (⟨9, mkS [(0, .x (.one (.p (pi n))))], mkH []⟩) ?_
  refine lok_rt E0 (⟨9, mkS [(2, .x (.one (.p (.val (.bool ((decide ((0 : Int) ≤ n)) && (decide (n ≤ (200 : Int)))))))))], mkH []⟩) ?_
  refine lok_ret ?_
  obtain rfl := Option.some.inj H0
  try simp only [thenL, blockL]
  exact fin_au _ (.inr rfl) [] (⟨9, mkS [(2, .x (.one (.p (.val (.bool ((decide ((0 : Int) ≤ n)) && (decide (n ≤ (200 : Int)))))))))], mkH []⟩) rfl rfl imp_au
theorem ok_boundary_Check (b : List Int) (most : Int) (r_ : Int) (H0 : boundary_Check b most = some r_) : CallOK Try.prog 27 [.one (.p (.sl 1 (List.map encI b))), .one (.p (pi most))] [] [.one (.p (pi r_))] [] := by
  refine callOK (n := 50) (rs := [.tmp 4]) (nb := 0) (V := []) Try.func27 rfl (by kernel_rfl) rfl rfl rfl rfl (Nat.le_of_ble_eq_true rfl) (by decide) ?_
  unfold boundary_Check at H0
  refine lok_rt E0 (⟨50, mkS [(0, .x (.one (.p (.sl 1 (List.map encI b))))), (1, .x (.one (.p (pi most))))], mkH []⟩) ?_
  refine lok_seq ?_
  replace H0 := bind_some H0
  obtain ⟨y, h_0, H0⟩ := H0
  refine lok_rt (Env.of E0 [⟨some 9, 42, [.one (.p (pi most))], [], [.one (.p (.val (.bool y)))], [], True, fun _ => ok_boundary_isScore most y h_0, []⟩]) (⟨50, mkS [(0, .x (.one (.p (.sl 1 (List.map encI b))))), (1, .x (.one (.p (pi most)))), (10, .x (.one (.p (.val (.bool (!y))))))], mkH []⟩) ?_
  refine lok_c (!y) ?_ ?_
  · intro b_11
    replace H0 := cpos H0 b_11
    refine lok_rt E0 (⟨50, mkS [(4, .x (.one (.p (pi (2 : Int)))))], mkH []⟩) ?_
    refine lok_ret ?_
    obtain rfl := Option.some.inj H0
    try simp only [thenL, blockL]
    exact fin_au _ (.inr rfl) [] (⟨50, mkS [(4, .x (.one (.p (pi (2 : Int)))))], mkH []⟩) rfl rfl imp_au
  · intro b_11
    replace H0 := cneg H0 b_11
    refine lok_skip ?_
    try simp only [thenL, blockL, ↓reduceIte, reduceCtorEq]
    refine lok_seq ?_
    refine lok_rt E0 (⟨50, mkS [(0, .x (.one (.p (.sl 1 (List.map encI b))))), (1, .x (.one (.p (pi most)))), (18, .x (.one (.p (.val (.bool ((decide ((b.length : Int) < (1 : Int))) || (decide ((9 : Int) < (b.length : Int)))))))))], mkH []⟩) ?_
    refine lok_c ((decide ((b.length : Int) < (1 : Int))) || (decide ((9 : Int) < (b.length : Int)))) ?_ ?_
    · intro b_10
      replace H0 := cpos H0 b_10
      refine lok_rt E0 (⟨50, mkS [(4, .x (.one (.p (pi (3 : Int)))))], mkH []⟩) ?_
      refine lok_ret ?_
      obtain rfl := Option.some.inj H0
      try simp only [thenL, blockL]
      exact fin_au _ (.inr rfl) [] (⟨50, mkS [(4, .x (.one (.p (pi (3 : Int)))))], mkH []⟩) rfl rfl imp_au
    · intro b_10
      replace H0 := cneg H0 b_10
      refine lok_skip ?_
      try simp only [thenL, blockL, ↓reduceIte, reduceCtorEq]
      refine lok_join (fun x_ : Unit => boundary_Check_j3 b = some r_) (fun x_ => ⟨50, mkS [(0, .x (.one (.p (.sl 1 (List.map encI b)))))], mkH []⟩) ?hyboundary_Check_j3 ?hxboundary_Check_j3
      case hyboundary_Check_j3 =>
        rintro _ H0
        try dsimp only at H0 ⊢
        unfold boundary_Check_j3 at H0
        refine lok_join (fun x_ : Unit => boundary_Check_j1 = some r_) (fun x_ => ⟨50, mkS [], mkH []⟩) ?hyboundary_Check_j1 ?hxboundary_Check_j1
        case hyboundary_Check_j1 =>
          rintro _ H0
          try dsimp only at H0 ⊢
          unfold boundary_Check_j1 at H0
          refine lok_rt E0 (⟨50, mkS [(4, .x (.one (.p (pi (0 : Int)))))], mkH []⟩) ?_
          refine lok_ret ?_
          obtain rfl := Option.some.inj H0
          try simp only [thenL, blockL]
          exact fin_au _ (.inr rfl) [] (⟨50, mkS [(4, .x (.one (.p (pi (0 : Int)))))], mkH []⟩) rfl rfl imp_au
        case hxboundary_Check_j1 =>
          refine lok_rt E0 (⟨50, mkS [(0, .x (.one (.p (.sl 1 (List.map encI b))))), (7, .x (.one (.p (pi (1 : Int)))))], mkH []⟩) ?_
          refine lok_block ?_
          replace H0 := bind_some H0
          obtain ⟨v_1, hv_1, H0⟩ := H0
          refine lok_iter (fun x_ => ⟨50, mkS [(0, .x (.one (.p (.sl 1 (List.map encI b))))), (7, .x (.one (.p (pi x_))))], mkH []⟩) hv_1 imp_au ?_
          · rintro i o_1 H1 k_1
            unfold boundary_Check_l2 at H1
            try dsimp only at H1 ⊢
            refine lok_seq ?_
            refine lok_rt E0 (⟨50, mkS [(0, .x (.one (.p (.sl 1 (List.map encI b))))), (7, .x (.one (.p (pi i)))), (37, .x (.one (.p (.val (.bool (decide (i < (b.length : Int))))))))], mkH []⟩) ?_
            refine lok_c (decide (i < (b.length : Int))) ?_ ?_
            · intro b_5
              replace H1 := cpos H1 b_5
              refine lok_skip ?_
              try simp only [thenL, blockL, ↓reduceIte, reduceCtorEq]
              refine lok_seq ?_
              refine lok_block ?_
              replace H1 := req_some H1
              obtain ⟨⟨q_3, q_4⟩, H1⟩ := H1
              refine lok_dt E0 9 (⟨50, mkS [(0, .x (.one (.p (.sl 1 (List.map encI b))))), (7, .x (.one (.p (pi i)))), (49, .x (.one (.p (.val (.bool (decide ((ix b (IntKind.i64.wrap (i - (1 : Int)))) < (ix b i))))))))], mkH []⟩) (by kernel_rfl) (by kernel_rfl) ?_
              refine lok_c (decide ((ix b (IntKind.i64.wrap (i - (1 : Int)))) < (ix b i))) ?_ ?_
              · intro b_2
                replace H1 := cpos H1 b_2
                refine lok_rt E0 (⟨50, mkS [(4, .x (.one (.p (pi (43 : Int)))))], mkH []⟩) ?_
                refine lok_ret ?_
                try simp only [thenL, blockL, ↓reduceIte, reduceCtorEq]
                have e_1 := k_1 _ (Option.some.inj H1).symm
                subst e_1
                try dsimp only at H0
                obtain rfl := Option.some.inj H0
                try simp only [thenL, blockL]
                exact fin_au _ (.inr rfl) [] (⟨50, mkS [(4, .x (.one (.p (pi (43 : Int)))))], mkH []⟩) rfl rfl imp_au
              · intro b_2
                replace H1 := cneg H1 b_2
                refine lok_skip ?_
                try simp only [thenL, blockL, ↓reduceIte, reduceCtorEq]
                refine lok_rl E0 (⟨50, mkS [(0, .x (.one (.p (.sl 1 (List.map encI b))))), (7, .x (.one (.p (pi (IntKind.i64.wrap (i + (1 : Int)))))))], mkH []⟩) ?_
                try simp only [thenL, blockL, ↓reduceIte, reduceCtorEq]
                exact ⟨(IntKind.i64.wrap (i + (1 : Int))), (Option.some.inj H1).symm, imp_au⟩
            · intro b_5
              replace H1 := cneg H1 b_5
              refine lok_exit ?_
              try simp only [thenL, blockL, ↓reduceIte, reduceCtorEq]
              have e_1 := k_1 _ (Option.some.inj H1).symm
              subst e_1
              try dsimp only at H0
              try simp only [thenL, blockL, ↓reduceIte, reduceCtorEq]
              exact ⟨(), H0, imp_au⟩
      case hxboundary_Check_j3 =>
        refine lok_rt E0 (⟨50, mkS [(0, .x (.one (.p (.sl 1 (List.map encI b))))), (1, .x (.one (.p (pi most)))), (19, .x (.one (.p (.sl 1 (List.map encI b))))), (20, .x (.one (.p (pi (b.length : Int))))), (21, .x (.one (.p (pi (0 : Int)))))], mkH []⟩) ?_
        refine lok_block ?_
        replace H0 := bind_some H0
        obtain ⟨v_6, hv_6, H0⟩ := H0
        refine lok_iter (fun x_ => ⟨50, mkS [(0, .x (.one (.p (.sl 1 (List.map encI b))))), (1, .x (.one (.p (pi most)))), (19, .x (.one (.p (.sl 1 (List.map encI b))))), (20, .x (.one (.p (pi (b.length : Int))))), (21, .x (.one (.p (pi x_))))], mkH []⟩) hv_6 imp_au ?_
        · rintro v o_1 H1 k_1
          unfold boundary_Check_l4 at H1
          try dsimp only at H1 ⊢
          refine lok_rt E0 (⟨50, mkS [(0, .x (.one (.p (.sl 1 (List.map encI b))))), (1, .x (.one (.p (pi most)))), (19, .x (.one (.p (.sl 1 (List.map encI b))))), (20, .x (.one (.p (pi (b.length : Int))))), (21, .x (.one (.p (pi v)))), (22, .x (.one (.p (.val (.bool (decide (v < (b.length : Int))))))))], mkH []⟩) ?_
          refine lok_seq ?_
          refine lok_c (decide (v < (b.length : Int))) ?_ ?_
          · intro b_9
            replace H1 := cpos H1 b_9
            refine lok_skip ?_
            try simp only [thenL, blockL, ↓reduceIte, reduceCtorEq]
            refine lok_seq ?_
            refine lok_block ?_
            replace H1 := req_some H1
            obtain ⟨q_8, H1⟩ := H1
            refine lok_rt E0 (⟨50, mkS [(0, .x (.one (.p (.sl 1 (List.map encI b))))), (1, .x (.one (.p (pi most)))), (6, .x (.one (.p (pi (ix b v))))), (19, .x (.one (.p (.sl 1 (List.map encI b))))), (20, .x (.one (.p (pi (b.length : Int))))), (21, .x (.one (.p (pi v))))], mkH []⟩) ?_
            refine lok_rt E0 (⟨50, mkS [(0, .x (.one (.p (.sl 1 (List.map encI b))))), (1, .x (.one (.p (pi most)))), (19, .x (.one (.p (.sl 1 (List.map encI b))))), (20, .x (.one (.p (pi (b.length : Int))))), (21, .x (.one (.p (pi v)))), (32, .x (.one (.p (.val (.bool ((decide ((ix b v) < (0 : Int))) || (decide ((IntKind.i64.wrap (most + (1 : Int))) < (ix b v)))))))))], mkH []⟩) ?_
            refine lok_c ((decide ((ix b v) < (0 : Int))) || (decide ((IntKind.i64.wrap (most + (1 : Int))) < (ix b v)))) ?_ ?_
            · intro b_7
              replace H1 := cpos H1 b_7
              refine lok_rt E0 (⟨50, mkS [(4, .x (.one (.p (pi (2 : Int)))))], mkH []⟩) ?_
              refine lok_ret ?_
              try simp only [thenL, blockL, ↓reduceIte, reduceCtorEq]
              have e_1 := k_1 _ (Option.some.inj H1).symm
              subst e_1
              try dsimp only at H0
              obtain rfl := Option.some.inj H0
              try simp only [thenL, blockL]
              exact fin_au _ (.inr rfl) [] (⟨50, mkS [(4, .x (.one (.p (pi (2 : Int)))))], mkH []⟩) rfl rfl imp_au
            · intro b_7
              replace H1 := cneg H1 b_7
              refine lok_skip ?_
              try simp only [thenL, blockL, ↓reduceIte, reduceCtorEq]
              refine lok_rl E0 (⟨50, mkS [(0, .x (.one (.p (.sl 1 (List.map encI b))))), (1, .x (.one (.p (pi most)))), (19, .x (.one (.p (.sl 1 (List.map encI b))))), (20, .x (.one (.p (pi (b.length : Int))))), (21, .x (.one (.p (pi (IntKind.i64.wrap (v + (1 : Int)))))))], mkH []⟩) ?_
              try simp only [thenL, blockL, ↓reduceIte, reduceCtorEq]
              exact ⟨(IntKind.i64.wrap (v + (1 : Int))), (Option.some.inj H1).symm, imp_au⟩
          · intro b_9
            replace H1 := cneg H1 b_9
            refine lok_exit ?_
            try simp only [thenL, blockL, ↓reduceIte, reduceCtorEq]
            have e_1 := k_1 _ (Option.some.inj H1).symm
            subst e_1
            try dsimp only at H0
            try simp only [thenL, blockL, ↓reduceIte, reduceCtorEq]
            exact ⟨(), H0, imp_au⟩
theorem ok_distribution_Valid (d : api_Distribution) (r_ : Bool) (H0 : distribution_Valid d = some r_) : CallOK Try.prog 31 [.agg [.p (.sl 1 (List.map encI d.Counts))]] [] [.one (.p (.val (.bool r_)))] [] := by
  refine callOK (n := 35) (rs := [.tmp 2]) (nb := 0) (V := []) Try.func31 rfl (by kernel_rfl) rfl rfl rfl rfl (Nat.le_of_ble_eq_true rfl) (by decide) ?_
  unfold distribution_Valid at H0
  refine lok_rt E0 (⟨35, mkS [(1, .x (.one (.ptr 101 0)))], mkH [(101, .var [.p (.sl 1 (List.map encI d.Counts))])]⟩) ?_
  refine lok_seq ?_
  refine lok_rt E0 (⟨35, mkS [(1, .x (.one (.ptr 101 0))), (15, .x (.one (.p (.val (.bool ((decide ((d.Counts.length : Int) < (1 : Int))) || (decide ((201 : Int) < (d.Counts.length : Int)))))))))], mkH [(101, .var [.p (.sl 1 (List.map encI d.Counts))])]⟩) ?_
  refine lok_c ((decide ((d.Counts.length : Int) < (1 : Int))) || (decide ((201 : Int) < (d.Counts.length : Int)))) ?_ ?_
  · intro b_4
    replace H0 := cpos H0 b_4
    refine lok_rt E0 (⟨35, mkS [(2, .x (.one (.p (.val (.bool false)))))], mkH []⟩) ?_
    refine lok_ret ?_
    obtain rfl := Option.some.inj H0
    try simp only [thenL, blockL]
    exact fin_au _ (.inr rfl) [] (⟨35, mkS [(2, .x (.one (.p (.val (.bool false)))))], mkH []⟩) rfl rfl imp_au
  · intro b_4
    replace H0 := cneg H0 b_4
    refine lok_skip ?_
    try simp only [thenL, blockL, ↓reduceIte, reduceCtorEq]
    refine lok_rt E0 (⟨35, mkS [(1, .x (.one (.ptr 101 0))), (3, .x (.one (.p (pi (0 : Int)))))], mkH [(101, .var [.p (.sl 1 (List.map encI d.Counts))])]⟩) ?_
    refine lok_join (fun x_ : Int => distribution_Valid_j1 x_ = some r_) (fun x_ => ⟨35, mkS [(3, .x (.one (.p (pi x_))))], mkH []⟩) ?hydistribution_Valid_j1 ?hxdistribution_Valid_j1
    case hydistribution_Valid_j1 =>
      rintro sum H0
      try dsimp only at H0 ⊢
      unfold distribution_Valid_j1 at H0
      refine lok_rt E0 (⟨35, mkS [(2, .x (.one (.p (.val (.bool (decide (sum ≤ (1048576 : Int))))))))], mkH []⟩) ?_
      refine lok_ret ?_
      obtain rfl := Option.some.inj H0
      try simp only [thenL, blockL]
      exact fin_au _ (.inr rfl) [] (⟨35, mkS [(2, .x (.one (.p (.val (.bool (decide (sum ≤ (1048576 : Int))))))))], mkH []⟩) rfl rfl imp_au
    case hxdistribution_Valid_j1 =>
      refine lok_rt E0 (⟨35, mkS [(3, .x (.one (.p (pi (0 : Int))))), (17, .x (.one (.p (.sl 1 (List.map encI d.Counts))))), (18, .x (.one (.p (pi (d.Counts.length : Int))))), (19, .x (.one (.p (pi (0 : Int)))))], mkH []⟩) ?_
      refine lok_block ?_
      replace H0 := bind_some H0
      obtain ⟨v_0, hv_0, H0⟩ := H0
      refine lok_iter (fun x_ => ⟨35, mkS [(3, .x (.one (.p (pi x_.1)))), (17, .x (.one (.p (.sl 1 (List.map encI d.Counts))))), (18, .x (.one (.p (pi (d.Counts.length : Int))))), (19, .x (.one (.p (pi x_.2))))], mkH []⟩) hv_0 imp_au ?_
      · rintro ⟨sum1, v⟩ o_1 H1 k_1
        unfold distribution_Valid_l2 at H1
        try dsimp only at H1 ⊢
        refine lok_rt E0 (⟨35, mkS [(3, .x (.one (.p (pi sum1)))), (17, .x (.one (.p (.sl 1 (List.map encI d.Counts))))), (18, .x (.one (.p (pi (d.Counts.length : Int))))), (19, .x (.one (.p (pi v)))), (20, .x (.one (.p (.val (.bool (decide (v < (d.Counts.length : Int))))))))], mkH []⟩) ?_
        refine lok_seq ?_
        refine lok_c (decide (v < (d.Counts.length : Int))) ?_ ?_
        · intro b_3
          replace H1 := cpos H1 b_3
          refine lok_skip ?_
          try simp only [thenL, blockL, ↓reduceIte, reduceCtorEq]
          refine lok_seq ?_
          refine lok_block ?_
          replace H1 := req_some H1
          obtain ⟨q_2, H1⟩ := H1
          refine lok_rt E0 (⟨35, mkS [(3, .x (.one (.p (pi sum1)))), (5, .x (.one (.p (pi (ix d.Counts v))))), (17, .x (.one (.p (.sl 1 (List.map encI d.Counts))))), (18, .x (.one (.p (pi (d.Counts.length : Int))))), (19, .x (.one (.p (pi v))))], mkH []⟩) ?_
          refine lok_seq ?_
          refine lok_rt E0 (⟨35, mkS [(3, .x (.one (.p (pi sum1)))), (5, .x (.one (.p (pi (ix d.Counts v))))), (17, .x (.one (.p (.sl 1 (List.map encI d.Counts))))), (18, .x (.one (.p (pi (d.Counts.length : Int))))), (19, .x (.one (.p (pi v)))), (28, .x (.one (.p (.val (.bool ((decide ((ix d.Counts v) < (0 : Int))) || (decide ((1048576 : Int) < (ix d.Counts v)))))))))], mkH []⟩) ?_
          refine lok_c ((decide ((ix d.Counts v) < (0 : Int))) || (decide ((1048576 : Int) < (ix d.Counts v)))) ?_ ?_
          · intro b_1
            replace H1 := cpos H1 b_1
            refine lok_rt E0 (⟨35, mkS [(2, .x (.one (.p (.val (.bool false)))))], mkH []⟩) ?_
            refine lok_ret ?_
            try simp only [thenL, blockL, ↓reduceIte, reduceCtorEq]
            have e_1 := k_1 _ (Option.some.inj H1).symm
            subst e_1
            try dsimp only at H0
            obtain rfl := Option.some.inj H0
            try simp only [thenL, blockL]
            exact fin_au _ (.inr rfl) [] (⟨35, mkS [(2, .x (.one (.p (.val (.bool false)))))], mkH []⟩) rfl rfl imp_au
          · intro b_1
            replace H1 := cneg H1 b_1
            refine lok_skip ?_
            try simp only [thenL, blockL, ↓reduceIte, reduceCtorEq]
            refine lok_rl E0 (⟨35, mkS [(3, .x (.one (.p (pi (IntKind.i64.wrap (sum1 + (ix d.Counts v))))))), (17, .x (.one (.p (.sl 1 (List.map encI d.Counts))))), (18, .x (.one (.p (pi (d.Counts.length : Int))))), (19, .x (.one (.p (pi v))))], mkH []⟩) ?_
            try simp only [thenL, blockL, ↓reduceIte, reduceCtorEq]
            refine lok_rl E0 (⟨35, mkS [(3, .x (.one (.p (pi (IntKind.i64.wrap (sum1 + (ix d.Counts v))))))), (17, .x (.one (.p (.sl 1 (List.map encI d.Counts))))), (18, .x (.one (.p (pi (d.Counts.length : Int))))), (19, .x (.one (.p (pi (IntKind.i64.wrap (v + (1 : Int)))))))], mkH []⟩) ?_
            try simp only [thenL, blockL, ↓reduceIte, reduceCtorEq]
            exact ⟨((IntKind.i64.wrap (sum1 + (ix d.Counts v))), (IntKind.i64.wrap (v + (1 : Int)))), (Option.some.inj H1).symm, imp_au⟩
        · intro b_3
          replace H1 := cneg H1 b_3
          refine lok_exit ?_
          try simp only [thenL, blockL, ↓reduceIte, reduceCtorEq]
          have e_1 := k_1 _ (Option.some.inj H1).symm
          subst e_1
          try dsimp only at H0
          try simp only [thenL, blockL, ↓reduceIte, reduceCtorEq]
          exact ⟨sum1, H0, imp_au⟩
theorem ok_boundary_greatest (d : api_Distribution) (r_ : Int) (H0 : boundary_greatest d = some r_) : CallOK Try.prog 32 [.agg [.p (.sl 1 (List.map encI d.Counts))]] [] [.one (.p (pi r_))] [] := by
  refine callOK (n := 7) (rs := [.tmp 2]) (nb := 0) (V := []) Try.func32 rfl (by kernel_rfl) rfl rfl rfl rfl (Nat.le_of_ble_eq_true rfl) (by decide) ?_
  unfold boundary_greatest at H0
  refine lok_rt E0 (⟨7, mkS [(1, .x (.one (.ptr 101 0)))], mkH [(101, .var [.p (.sl 1 (List.map encI d.Counts))])]⟩) ?_
  refine lok_rt E0 (⟨7, mkS [(2, .x (.one (.p (pi (IntKind.i64.wrap ((d.Counts.length : Int) - (1 : Int)))))))], mkH []⟩) ?_
  refine lok_ret ?_
  obtain rfl := Option.some.inj H0
  try simp only [thenL, blockL]
  exact fin_au _ (.inr rfl) [] (⟨7, mkS [(2, .x (.one (.p (pi (IntKind.i64.wrap ((d.Counts.length : Int) - (1 : Int)))))))], mkH []⟩) rfl rfl imp_au
theorem ok_boundary_Tally (d : api_Distribution) (b : List Int) (r_ : (List Int) × Int) (H0 : boundary_Tally d b = some r_) : CallOK Try.prog 13 [.agg [.p (.sl 1 (List.map encI d.Counts))], .one (.p (.sl 1 (List.map encI b)))] [] [.one (.p (.sl 1 (List.map encI r_.1))), .one (.p (pi r_.2))] [] := by
  refine callOK (n := 43) (rs := [.tmp 4, .tmp 5]) (nb := 0) (V := []) Try.func13 rfl (by kernel_rfl) rfl rfl rfl rfl (Nat.le_of_ble_eq_true rfl) (by decide) ?_
  unfold boundary_Tally at H0
  refine lok_rt E0 (⟨43, mkS [(1, .x (.one (.p (.sl 1 (List.map encI b))))), (2, .x (.one (.ptr 102 0)))], mkH [(102, .var [.p (.sl 1 (List.map encI d.Counts))])]⟩) ?_
  refine lok_seq ?_
  replace H0 := bind_some H0
  obtain ⟨y, h_0, H0⟩ := H0
  refine lok_rt (Env.of E0 [⟨some 11, 31, [.agg [.p (.sl 1 (List.map encI d.Counts))]], [], [.one (.p (.val (.bool y)))], [], True, fun _ => ok_distribution_Valid d y h_0, []⟩]) (⟨43, mkS [(1, .x (.one (.p (.sl 1 (List.map encI b))))), (2, .x (.one (.ptr 102 0))), (12, .x (.one (.p (.val (.bool (!y))))))], mkH [(102, .var [.p (.sl 1 (List.map encI d.Counts))])]⟩) ?_
  refine lok_c (!y) ?_ ?_
  · intro b_10
    replace H0 := cpos H0 b_10
    refine lok_rt E0 (⟨43, mkS [(4, .x (.one (.vw 104))), (5, .x (.one (.p (pi (1 : Int)))))], mkH [(104, .arr 1 (List.map encI ([] : List Int)))]⟩) ?_
    refine lok_ret ?_
    obtain rfl := Option.some.inj H0
    try simp only [thenL, blockL]
    exact fin_au _ (.inr rfl) [] (⟨43, mkS [(4, .x (.one (.p (.sl 1 (List.map encI ([] : List Int)))))), (5, .x (.one (.p (pi (1 : Int)))))], mkH []⟩) rfl rfl (Imp.trans (imp_frz 104 1 (List.map encI ([] : List Int))) imp_au)
  · intro b_10
    replace H0 := cneg H0 b_10
    refine lok_skip ?_
    try simp only [thenL, blockL, ↓reduceIte, reduceCtorEq]
    refine lok_seq ?_
    replace H0 := bind_some H0
    obtain ⟨y1, h_1, H0⟩ := H0
    replace H0 := bind_some H0
    obtain ⟨y2, h_2, H0⟩ := H0
    refine lok_rt (Env.of E0 [⟨some 15, 32, [.agg [.p (.sl 1 (List.map encI d.Counts))]], [], [.one (.p (pi y1))], [], True, fun _ => ok_boundary_greatest d y1 h_1, []⟩,
      ⟨some 16, 27, [.one (.p (.sl 1 (List.map encI b))), .one (.p (pi y1))], [], [.one (.p (pi y2))], [], True, fun _ => ok_boundary_Check b y1 y2 h_2, []⟩]) (⟨43, mkS [(1, .x (.one (.p (.sl 1 (List.map encI b))))), (2, .x (.one (.ptr 102 0))), (6, .x (.one (.p (pi y2))))], mkH [(102, .var [.p (.sl 1 (List.map encI d.Counts))])]⟩) ?_
    refine lok_rt E0 (⟨43, mkS [(1, .x (.one (.p (.sl 1 (List.map encI b))))), (2, .x (.one (.ptr 102 0))), (6, .x (.one (.p (pi y2)))), (18, .x (.one (.p (.val (.bool (y2 != (0 : Int)))))))], mkH [(102, .var [.p (.sl 1 (List.map encI d.Counts))])]⟩) ?_
    refine lok_c (y2 != (0 : Int)) ?_ ?_
    · intro b_9
      replace H0 := cpos H0 b_9
      refine lok_rt E0 (⟨43, mkS [(4, .x (.one (.vw 104))), (5, .x (.one (.p (pi y2))))], mkH [(104, .arr 1 (List.map encI ([] : List Int)))]⟩) ?_
      refine lok_ret ?_
      obtain rfl := Option.some.inj H0
      try simp only [thenL, blockL]
      exact fin_au _ (.inr rfl) [] (⟨43, mkS [(4, .x (.one (.p (.sl 1 (List.map encI ([] : List Int)))))), (5, .x (.one (.p (pi y2))))], mkH []⟩) rfl rfl (Imp.trans (imp_frz 104 1 (List.map encI ([] : List Int))) imp_au)
    · intro b_9
      replace H0 := cneg H0 b_9
      refine lok_skip ?_
      try simp only [thenL, blockL, ↓reduceIte, reduceCtorEq]
      replace H0 := req_some H0
      obtain ⟨q_8, H0⟩ := H0
      refine lok_rt E0 (⟨43, mkS [(1, .x (.one (.p (.sl 1 (List.map encI b))))), (2, .x (.one (.ptr 102 0))), (7, .x (.one (.vw 123)))], mkH [(102, .var [.p (.sl 1 (List.map encI d.Counts))]), (123, .arr 1 (List.map encI (rep (IntKind.i64.wrap ((b.length : Int) + (1 : Int))) (0 : Int))))]⟩) ?_
      refine lok_join (fun x_ : (List Int) => boundary_Tally_j1 x_ = some r_) (fun x_ => ⟨43, mkS [(7, .x (.one (.vw 123)))], mkH [(123, .arr 1 (List.map encI x_))]⟩) ?hyboundary_Tally_j1 ?hxboundary_Tally_j1
      case hyboundary_Tally_j1 =>
        rintro w H0
        try dsimp only at H0 ⊢
        unfold boundary_Tally_j1 at H0
        refine lok_rt E0 (⟨43, mkS [(4, .x (.one (.vw 123))), (5, .x (.one (.p (pi (0 : Int)))))], mkH [(123, .arr 1 (List.map encI w))]⟩) ?_
        refine lok_ret ?_
        obtain rfl := Option.some.inj H0
        try simp only [thenL, blockL]
        exact fin_au _ (.inr rfl) [] (⟨43, mkS [(4, .x (.one (.p (.sl 1 (List.map encI w))))), (5, .x (.one (.p (pi (0 : Int)))))], mkH []⟩) rfl rfl (Imp.trans (imp_frz 123 1 (List.map encI w)) imp_au)
      case hxboundary_Tally_j1 =>
        refine lok_rt E0 (⟨43, mkS [(1, .x (.one (.p (.sl 1 (List.map encI b))))), (7, .x (.one (.vw 123))), (25, .x (.one (.p (.sl 1 (List.map encI d.Counts))))), (26, .x (.one (.p (pi (d.Counts.length : Int))))), (27, .x (.one (.p (pi (0 : Int)))))], mkH [(123, .arr 1 (List.map encI (rep (IntKind.i64.wrap ((b.length : Int) + (1 : Int))) (0 : Int))))]⟩) ?_
        refine lok_block ?_
        replace H0 := bind_some H0
        obtain ⟨v_3, hv_3, H0⟩ := H0
        refine lok_iter (fun x_ => ⟨43, mkS [(1, .x (.one (.p (.sl 1 (List.map encI b))))), (7, .x (.one (.vw 123))), (25, .x (.one (.p (.sl 1 (List.map encI d.Counts))))), (26, .x (.one (.p (pi (d.Counts.length : Int))))), (27, .x (.one (.p (pi x_.1))))], mkH [(123, .arr 1 (List.map encI x_.2))]⟩) hv_3 imp_au ?_
        · rintro ⟨v, w1⟩ o_1 H1 k_1
          unfold boundary_Tally_l2 at H1
          try dsimp only at H1 ⊢
          refine lok_rt E0 (⟨43, mkS [(1, .x (.one (.p (.sl 1 (List.map encI b))))), (7, .x (.one (.vw 123))), (25, .x (.one (.p (.sl 1 (List.map encI d.Counts))))), (26, .x (.one (.p (pi (d.Counts.length : Int))))), (27, .x (.one (.p (pi v)))), (28, .x (.one (.p (.val (.bool (decide (v < (d.Counts.length : Int))))))))], mkH [(123, .arr 1 (List.map encI w1))]⟩) ?_
          refine lok_seq ?_
          refine lok_c (decide (v < (d.Counts.length : Int))) ?_ ?_
          · intro b_7
            replace H1 := cpos H1 b_7
            refine lok_skip ?_
            try simp only [thenL, blockL, ↓reduceIte, reduceCtorEq]
            refine lok_seq ?_
            refine lok_block ?_
            replace H1 := req_some H1
            obtain ⟨q_6, H1⟩ := H1
            refine lok_rt E0 (⟨43, mkS [(1, .x (.one (.p (.sl 1 (List.map encI b))))), (7, .x (.one (.vw 123))), (8, .x (.one (.p (pi v)))), (9, .x (.one (.p (pi (ix d.Counts v))))), (25, .x (.one (.p (.sl 1 (List.map encI d.Counts))))), (26, .x (.one (.p (pi (d.Counts.length : Int))))), (27, .x (.one (.p (pi v))))], mkH [(123, .arr 1 (List.map encI w1))]⟩) ?_
            replace H1 := bind_some H1
            obtain ⟨y3, h_4, H1⟩ := H1
            replace H1 := req_some H1
            obtain ⟨q_5, H1⟩ := H1
            refine lok_rl (Env.of E0 [⟨some 35, 14, [.one (.p (.sl 1 (List.map encI b))), .one (.p (pi v))], [], [.one (.p (pi y3))], [], True, fun _ => ok_boundary_Grade b v y3 h_4, []⟩]) (⟨43, mkS [(1, .x (.one (.p (.sl 1 (List.map encI b))))), (7, .x (.one (.vw 123))), (25, .x (.one (.p (.sl 1 (List.map encI d.Counts))))), (26, .x (.one (.p (pi (d.Counts.length : Int))))), (27, .x (.one (.p (pi v))))], mkH [(123, .arr 1 (List.map encI (setI w1 y3 (IntKind.i64.wrap ((ix w1 y3) + (ix d.Counts v))))))]⟩) ?_
            try simp only [thenL, blockL, ↓reduceIte, reduceCtorEq]
            refine lok_rl E0 (⟨43, mkS [(1, .x (.one (.p (.sl 1 (List.map encI b))))), (7, .x (.one (.vw 123))), (25, .x (.one (.p (.sl 1 (List.map encI d.Counts))))), (26, .x (.one (.p (pi (d.Counts.length : Int))))), (27, .x (.one (.p (pi (IntKind.i64.wrap (v + (1 : Int)))))))], mkH [(123, .arr 1 (List.map encI (setI w1 y3 (IntKind.i64.wrap ((ix w1 y3) + (ix d.Counts v))))))]⟩) ?_
            try simp only [thenL, blockL, ↓reduceIte, reduceCtorEq]
            exact ⟨((IntKind.i64.wrap (v + (1 : Int))), (setI w1 y3 (IntKind.i64.wrap ((ix w1 y3) + (ix d.Counts v))))), (Option.some.inj H1).symm, imp_au⟩
          · intro b_7
            replace H1 := cneg H1 b_7
            refine lok_exit ?_
            try simp only [thenL, blockL, ↓reduceIte, reduceCtorEq]
            have e_1 := k_1 _ (Option.some.inj H1).symm
            subst e_1
            try dsimp only at H0
            try simp only [thenL, blockL, ↓reduceIte, reduceCtorEq]
            exact ⟨w1, H0, imp_au⟩
theorem ok_law35_same (a : List Int) (b : List Int) (r_ : Bool) (H0 : law35_same a b = some r_) : CallOK Try.prog 15 [.one (.p (.sl 1 (List.map encI a))), .one (.p (.sl 1 (List.map encI b)))] [] [.one (.p (.val (.bool r_)))] [] := by
  refine callOK (n := 26) (rs := [.tmp 4]) (nb := 0) (V := []) Try.func15 rfl (by kernel_rfl) rfl rfl rfl rfl (Nat.le_of_ble_eq_true rfl) (by decide) ?_
  unfold law35_same at H0
  refine lok_rt E0 (⟨26, mkS [(0, .x (.one (.p (.sl 1 (List.map encI a))))), (1, .x (.one (.p (.sl 1 (List.map encI b)))))], mkH []⟩) ?_
  refine lok_seq ?_
  refine lok_rt E0 (⟨26, mkS [(0, .x (.one (.p (.sl 1 (List.map encI a))))), (1, .x (.one (.p (.sl 1 (List.map encI b))))), (10, .x (.one (.p (.val (.bool ((a.length : Int) != (b.length : Int)))))))], mkH []⟩) ?_
  refine lok_c ((a.length : Int) != (b.length : Int)) ?_ ?_
  · intro b_5
    replace H0 := cpos H0 b_5
    refine lok_rt E0 (⟨26, mkS [(4, .x (.one (.p (.val (.bool false)))))], mkH []⟩) ?_
    refine lok_ret ?_
    obtain rfl := Option.some.inj H0
    try simp only [thenL, blockL]
    exact fin_au _ (.inr rfl) [] (⟨26, mkS [(4, .x (.one (.p (.val (.bool false)))))], mkH []⟩) rfl rfl imp_au
  · intro b_5
    replace H0 := cneg H0 b_5
    refine lok_skip ?_
    try simp only [thenL, blockL, ↓reduceIte, reduceCtorEq]
    refine lok_join (fun x_ : Unit => law35_same_j1 = some r_) (fun x_ => ⟨26, mkS [], mkH []⟩) ?hylaw35_same_j1 ?hxlaw35_same_j1
    case hylaw35_same_j1 =>
      rintro _ H0
      try dsimp only at H0 ⊢
      unfold law35_same_j1 at H0
      refine lok_rt E0 (⟨26, mkS [(4, .x (.one (.p (.val (.bool true)))))], mkH []⟩) ?_
      refine lok_ret ?_
      obtain rfl := Option.some.inj H0
      try simp only [thenL, blockL]
      exact fin_au _ (.inr rfl) [] (⟨26, mkS [(4, .x (.one (.p (.val (.bool true)))))], mkH []⟩) rfl rfl imp_au
    case hxlaw35_same_j1 =>
      refine lok_rt E0 (⟨26, mkS [(0, .x (.one (.p (.sl 1 (List.map encI a))))), (1, .x (.one (.p (.sl 1 (List.map encI b))))), (12, .x (.one (.p (pi (a.length : Int))))), (13, .x (.one (.p (pi (0 : Int)))))], mkH []⟩) ?_
      refine lok_block ?_
      replace H0 := bind_some H0
      obtain ⟨v_0, hv_0, H0⟩ := H0
      refine lok_iter (fun x_ => ⟨26, mkS [(0, .x (.one (.p (.sl 1 (List.map encI a))))), (1, .x (.one (.p (.sl 1 (List.map encI b))))), (12, .x (.one (.p (pi (a.length : Int))))), (13, .x (.one (.p (pi x_))))], mkH []⟩) hv_0 imp_au ?_
      · rintro v o_1 H1 k_1
        unfold law35_same_l2 at H1
        try dsimp only at H1 ⊢
        refine lok_rt E0 (⟨26, mkS [(0, .x (.one (.p (.sl 1 (List.map encI a))))), (1, .x (.one (.p (.sl 1 (List.map encI b))))), (12, .x (.one (.p (pi (a.length : Int))))), (13, .x (.one (.p (pi v)))), (14, .x (.one (.p (.val (.bool (decide (v < (a.length : Int))))))))], mkH []⟩) ?_
        refine lok_seq ?_
        refine lok_c (decide (v < (a.length : Int))) ?_ ?_
        · intro b_4
          replace H1 := cpos H1 b_4
          refine lok_skip ?_
          try simp only [thenL, blockL, ↓reduceIte, reduceCtorEq]
          refine lok_seq ?_
          refine lok_block ?_
          refine lok_rt E0 (⟨26, mkS [(0, .x (.one (.p (.sl 1 (List.map encI a))))), (1, .x (.one (.p (.sl 1 (List.map encI b))))), (5, .x (.one (.p (pi v)))), (12, .x (.one (.p (pi (a.length : Int))))), (13, .x (.one (.p (pi v))))], mkH []⟩) ?_
          replace H1 := req_some H1
          obtain ⟨⟨q_2, q_3⟩, H1⟩ := H1
          refine lok_dt E0 8 (⟨26, mkS [(0, .x (.one (.p (.sl 1 (List.map encI a))))), (1, .x (.one (.p (.sl 1 (List.map encI b))))), (12, .x (.one (.p (pi (a.length : Int))))), (13, .x (.one (.p (pi v)))), (24, .x (.one (.p (.val (.bool ((ix a v) != (ix b v)))))))], mkH []⟩) (by kernel_rfl) (by kernel_rfl) ?_
          refine lok_c ((ix a v) != (ix b v)) ?_ ?_
          · intro b_1
            replace H1 := cpos H1 b_1
            refine lok_rt E0 (⟨26, mkS [(4, .x (.one (.p (.val (.bool false)))))], mkH []⟩) ?_
            refine lok_ret ?_
            try simp only [thenL, blockL, ↓reduceIte, reduceCtorEq]
            have e_1 := k_1 _ (Option.some.inj H1).symm
            subst e_1
            try dsimp only at H0
            obtain rfl := Option.some.inj H0
            try simp only [thenL, blockL]
            exact fin_au _ (.inr rfl) [] (⟨26, mkS [(4, .x (.one (.p (.val (.bool false)))))], mkH []⟩) rfl rfl imp_au
          · intro b_1
            replace H1 := cneg H1 b_1
            refine lok_skip ?_
            try simp only [thenL, blockL, ↓reduceIte, reduceCtorEq]
            refine lok_rl E0 (⟨26, mkS [(0, .x (.one (.p (.sl 1 (List.map encI a))))), (1, .x (.one (.p (.sl 1 (List.map encI b))))), (12, .x (.one (.p (pi (a.length : Int))))), (13, .x (.one (.p (pi (IntKind.i64.wrap (v + (1 : Int)))))))], mkH []⟩) ?_
            try simp only [thenL, blockL, ↓reduceIte, reduceCtorEq]
            exact ⟨(IntKind.i64.wrap (v + (1 : Int))), (Option.some.inj H1).symm, imp_au⟩
        · intro b_4
          replace H1 := cneg H1 b_4
          refine lok_exit ?_
          try simp only [thenL, blockL, ↓reduceIte, reduceCtorEq]
          have e_1 := k_1 _ (Option.some.inj H1).symm
          subst e_1
          try dsimp only at H0
          try simp only [thenL, blockL, ↓reduceIte, reduceCtorEq]
          exact ⟨(), H0, imp_au⟩
theorem ok_ref32_Valid (d : api_Distribution) (r_ : Bool) (H0 : ref32_Valid d = some r_) : CallOK Try.prog 39 [.agg [.p (.sl 1 (List.map encI d.Counts))]] [] [.one (.p (.val (.bool r_)))] [] := by
  refine callOK (n := 45) (rs := [.tmp 2]) (nb := 0) (V := []) Try.func39 rfl (by kernel_rfl) rfl rfl rfl rfl (Nat.le_of_ble_eq_true rfl) (by decide) ?_
  unfold ref32_Valid at H0
  refine lok_rt E0 (⟨45, mkS [(1, .x (.one (.ptr 101 0)))], mkH [(101, .var [.p (.sl 1 (List.map encI d.Counts))])]⟩) ?_
  refine lok_seq ?_
  refine lok_rt E0 (⟨45, mkS [(1, .x (.one (.ptr 101 0))), (14, .x (.one (.p (.val (.bool ((decide ((d.Counts.length : Int) < (1 : Int))) || (decide ((201 : Int) < (d.Counts.length : Int)))))))))], mkH [(101, .var [.p (.sl 1 (List.map encI d.Counts))])]⟩) ?_
  refine lok_c ((decide ((d.Counts.length : Int) < (1 : Int))) || (decide ((201 : Int) < (d.Counts.length : Int)))) ?_ ?_
  · intro b_6
    replace H0 := cpos H0 b_6
    refine lok_rt E0 (⟨45, mkS [(2, .x (.one (.p (.val (.bool false)))))], mkH []⟩) ?_
    refine lok_ret ?_
    obtain rfl := Option.some.inj H0
    try simp only [thenL, blockL]
    exact fin_au _ (.inr rfl) [] (⟨45, mkS [(2, .x (.one (.p (.val (.bool false)))))], mkH []⟩) rfl rfl imp_au
  · intro b_6
    replace H0 := cneg H0 b_6
    refine lok_skip ?_
    try simp only [thenL, blockL, ↓reduceIte, reduceCtorEq]
    refine lok_rt E0 (⟨45, mkS [(1, .x (.one (.ptr 101 0))), (3, .x (.one (.p (pi (0 : Int)))))], mkH [(101, .var [.p (.sl 1 (List.map encI d.Counts))])]⟩) ?_
    refine lok_join (fun x_ : Unit => ref32_Valid_j1 = some r_) (fun x_ => ⟨45, mkS [], mkH []⟩) ?hyref32_Valid_j1 ?hxref32_Valid_j1
    case hyref32_Valid_j1 =>
      rintro _ H0
      try dsimp only at H0 ⊢
      unfold ref32_Valid_j1 at H0
      refine lok_rt E0 (⟨45, mkS [(2, .x (.one (.p (.val (.bool true)))))], mkH []⟩) ?_
      refine lok_ret ?_
      obtain rfl := Option.some.inj H0
      try simp only [thenL, blockL]
      exact fin_au _ (.inr rfl) [] (⟨45, mkS [(2, .x (.one (.p (.val (.bool true)))))], mkH []⟩) rfl rfl imp_au
    case hxref32_Valid_j1 =>
      refine lok_rt E0 (⟨45, mkS [(1, .x (.one (.ptr 101 0))), (3, .x (.one (.p (pi (0 : Int))))), (4, .x (.one (.p (pi (0 : Int)))))], mkH [(101, .var [.p (.sl 1 (List.map encI d.Counts))])]⟩) ?_
      refine lok_block ?_
      replace H0 := bind_some H0
      obtain ⟨v_0, hv_0, H0⟩ := H0
      refine lok_iter (fun x_ => ⟨45, mkS [(1, .x (.one (.ptr 101 0))), (3, .x (.one (.p (pi x_.1)))), (4, .x (.one (.p (pi x_.2))))], mkH [(101, .var [.p (.sl 1 (List.map encI d.Counts))])]⟩) hv_0 imp_au ?_
      · rintro ⟨n, i⟩ o_1 H1 k_1
        unfold ref32_Valid_l2 at H1
        try dsimp only at H1 ⊢
        refine lok_seq ?_
        refine lok_rt E0 (⟨45, mkS [(1, .x (.one (.ptr 101 0))), (3, .x (.one (.p (pi n)))), (4, .x (.one (.p (pi i)))), (19, .x (.one (.p (.val (.bool (decide (i < (d.Counts.length : Int))))))))], mkH [(101, .var [.p (.sl 1 (List.map encI d.Counts))])]⟩) ?_
        refine lok_c (decide (i < (d.Counts.length : Int))) ?_ ?_
        · intro b_5
          replace H1 := cpos H1 b_5
          refine lok_skip ?_
          try simp only [thenL, blockL, ↓reduceIte, reduceCtorEq]
          refine lok_seq ?_
          refine lok_block ?_
          refine lok_seq ?_
          replace H1 := req_some H1
          obtain ⟨⟨q_3, q_4⟩, H1⟩ := H1
          refine lok_rt E0 (⟨45, mkS [(1, .x (.one (.ptr 101 0))), (3, .x (.one (.p (pi n)))), (4, .x (.one (.p (pi i)))), (37, .x (.one (.p (.val (.bool ((decide ((ix d.Counts i) < (0 : Int))) || (decide ((IntKind.i64.wrap ((1048576 : Int) - n)) < (ix d.Counts i)))))))))], mkH [(101, .var [.p (.sl 1 (List.map encI d.Counts))])]⟩) ?_
          refine lok_c ((decide ((ix d.Counts i) < (0 : Int))) || (decide ((IntKind.i64.wrap ((1048576 : Int) - n)) < (ix d.Counts i)))) ?_ ?_
          · intro b_2
            replace H1 := cpos H1 b_2
            refine lok_rt E0 (⟨45, mkS [(2, .x (.one (.p (.val (.bool false)))))], mkH []⟩) ?_
            refine lok_ret ?_
            try simp only [thenL, blockL, ↓reduceIte, reduceCtorEq]
            have e_1 := k_1 _ (Option.some.inj H1).symm
            subst e_1
            try dsimp only at H0
            obtain rfl := Option.some.inj H0
            try simp only [thenL, blockL]
            exact fin_au _ (.inr rfl) [] (⟨45, mkS [(2, .x (.one (.p (.val (.bool false)))))], mkH []⟩) rfl rfl imp_au
          · intro b_2
            replace H1 := cneg H1 b_2
            refine lok_skip ?_
            try simp only [thenL, blockL, ↓reduceIte, reduceCtorEq]
            replace H1 := req_some H1
            obtain ⟨q_1, H1⟩ := H1
            refine lok_rl E0 (⟨45, mkS [(1, .x (.one (.ptr 101 0))), (3, .x (.one (.p (pi (IntKind.i64.wrap (n + (ix d.Counts i))))))), (4, .x (.one (.p (pi i))))], mkH [(101, .var [.p (.sl 1 (List.map encI d.Counts))])]⟩) ?_
            try simp only [thenL, blockL, ↓reduceIte, reduceCtorEq]
            refine lok_rl E0 (⟨45, mkS [(1, .x (.one (.ptr 101 0))), (3, .x (.one (.p (pi (IntKind.i64.wrap (n + (ix d.Counts i))))))), (4, .x (.one (.p (pi (IntKind.i64.wrap (i + (1 : Int)))))))], mkH [(101, .var [.p (.sl 1 (List.map encI d.Counts))])]⟩) ?_
            try simp only [thenL, blockL, ↓reduceIte, reduceCtorEq]
            exact ⟨((IntKind.i64.wrap (n + (ix d.Counts i))), (IntKind.i64.wrap (i + (1 : Int)))), (Option.some.inj H1).symm, imp_au⟩
        · intro b_5
          replace H1 := cneg H1 b_5
          refine lok_exit ?_
          try simp only [thenL, blockL, ↓reduceIte, reduceCtorEq]
          have e_1 := k_1 _ (Option.some.inj H1).symm
          subst e_1
          try dsimp only at H0
          try simp only [thenL, blockL, ↓reduceIte, reduceCtorEq]
          exact ⟨(), H0, imp_au⟩
theorem ok_ref32_Below (d : api_Distribution) (score : Int) (r_ : Int) (H0 : ref32_Below d score = some r_) : CallOK Try.prog 22 [.agg [.p (.sl 1 (List.map encI d.Counts))], .one (.p (pi score))] [] [.one (.p (pi r_))] [] := by
  refine callOK (n := 31) (rs := [.tmp 4]) (nb := 0) (V := []) Try.func22 rfl (by kernel_rfl) rfl rfl rfl rfl (Nat.le_of_ble_eq_true rfl) (by decide) ?_
  unfold ref32_Below at H0
  refine lok_rt E0 (⟨31, mkS [(1, .x (.one (.p (pi score)))), (2, .x (.one (.ptr 102 0)))], mkH [(102, .var [.p (.sl 1 (List.map encI d.Counts))])]⟩) ?_
  refine lok_rt E0 (⟨31, mkS [(1, .x (.one (.p (pi score)))), (2, .x (.one (.ptr 102 0))), (5, .x (.one (.p (pi (0 : Int)))))], mkH [(102, .var [.p (.sl 1 (List.map encI d.Counts))])]⟩) ?_
  refine lok_join (fun x_ : Int => ref32_Below_j1 x_ = some r_) (fun x_ => ⟨31, mkS [(5, .x (.one (.p (pi x_))))], mkH []⟩) ?hyref32_Below_j1 ?hxref32_Below_j1
  case hyref32_Below_j1 =>
    rintro n H0
    try dsimp only at H0 ⊢
    unfold ref32_Below_j1 at H0
    refine lok_rt E0 (⟨31, mkS [(4, .x (.one (.p (pi n))))], mkH []⟩) ?_
    refine lok_ret ?_
    obtain rfl := Option.some.inj H0
    try simp only [thenL, blockL]
    exact fin_au _ (.inr rfl) [] (⟨31, mkS [(4, .x (.one (.p (pi n))))], mkH []⟩) rfl rfl imp_au
  case hxref32_Below_j1 =>
    refine lok_rt E0 (⟨31, mkS [(1, .x (.one (.p (pi score)))), (2, .x (.one (.ptr 102 0))), (5, .x (.one (.p (pi (0 : Int))))), (6, .x (.one (.p (pi (0 : Int)))))], mkH [(102, .var [.p (.sl 1 (List.map encI d.Counts))])]⟩) ?_
    refine lok_block ?_
    replace H0 := bind_some H0
    obtain ⟨v_0, hv_0, H0⟩ := H0
    refine lok_iter (fun x_ => ⟨31, mkS [(1, .x (.one (.p (pi score)))), (2, .x (.one (.ptr 102 0))), (5, .x (.one (.p (pi x_.1)))), (6, .x (.one (.p (pi x_.2))))], mkH [(102, .var [.p (.sl 1 (List.map encI d.Counts))])]⟩) hv_0 imp_au ?_
    · rintro ⟨n1, i⟩ o_1 H1 k_1
      unfold ref32_Below_l2 at H1
      try dsimp only at H1 ⊢
      refine lok_seq ?_
      replace H1 := req_some H1
      obtain ⟨q_3, H1⟩ := H1
      refine lok_rt (Env.of E0 [⟨some 19, 39, [.agg [.p (.sl 1 (List.map encI d.Counts))]], [], [.one (.p (.val (.bool ((ref32_Valid d).getD default))))], [], (ref32_Valid d).isSome = true, fun h => ok_ref32_Valid d _ (isSome_get h), []⟩]) (⟨31, mkS [(1, .x (.one (.p (pi score)))), (2, .x (.one (.ptr 102 0))), (5, .x (.one (.p (pi n1)))), (6, .x (.one (.p (pi i)))), (20, .x (.one (.p (.val (.bool (((decide (i < (d.Counts.length : Int))) && (decide (i < score))) && ((ref32_Valid d).getD default)))))))], mkH [(102, .var [.p (.sl 1 (List.map encI d.Counts))])]⟩) ?_
      refine lok_c (((decide (i < (d.Counts.length : Int))) && (decide (i < score))) && ((ref32_Valid d).getD default)) ?_ ?_
      · intro b_2
        replace H1 := cpos H1 b_2
        refine lok_skip ?_
        try simp only [thenL, blockL, ↓reduceIte, reduceCtorEq]
        refine lok_seq ?_
        refine lok_block ?_
        replace H1 := req_some H1
        obtain ⟨q_1, H1⟩ := H1
        refine lok_rl E0 (⟨31, mkS [(1, .x (.one (.p (pi score)))), (2, .x (.one (.ptr 102 0))), (5, .x (.one (.p (pi (IntKind.i64.wrap (n1 + (ix d.Counts i))))))), (6, .x (.one (.p (pi i))))], mkH [(102, .var [.p (.sl 1 (List.map encI d.Counts))])]⟩) ?_
        try simp only [thenL, blockL, ↓reduceIte, reduceCtorEq]
        refine lok_rl E0 (⟨31, mkS [(1, .x (.one (.p (pi score)))), (2, .x (.one (.ptr 102 0))), (5, .x (.one (.p (pi (IntKind.i64.wrap (n1 + (ix d.Counts i))))))), (6, .x (.one (.p (pi (IntKind.i64.wrap (i + (1 : Int)))))))], mkH [(102, .var [.p (.sl 1 (List.map encI d.Counts))])]⟩) ?_
        try simp only [thenL, blockL, ↓reduceIte, reduceCtorEq]
        exact ⟨((IntKind.i64.wrap (n1 + (ix d.Counts i))), (IntKind.i64.wrap (i + (1 : Int)))), (Option.some.inj H1).symm, imp_au⟩
      · intro b_2
        replace H1 := cneg H1 b_2
        refine lok_exit ?_
        try simp only [thenL, blockL, ↓reduceIte, reduceCtorEq]
        have e_1 := k_1 _ (Option.some.inj H1).symm
        subst e_1
        try dsimp only at H0
        try simp only [thenL, blockL, ↓reduceIte, reduceCtorEq]
        exact ⟨n1, H0, imp_au⟩
theorem ok_ref32_Count (d : api_Distribution) (r_ : Int) (H0 : ref32_Count d = some r_) : CallOK Try.prog 16 [.agg [.p (.sl 1 (List.map encI d.Counts))]] [] [.one (.p (pi r_))] [] := by
  refine callOK (n := 8) (rs := [.tmp 2]) (nb := 0) (V := []) Try.func16 rfl (by kernel_rfl) rfl rfl rfl rfl (Nat.le_of_ble_eq_true rfl) (by decide) ?_
  unfold ref32_Count at H0
  refine lok_rt E0 (⟨8, mkS [(1, .x (.one (.ptr 101 0)))], mkH [(101, .var [.p (.sl 1 (List.map encI d.Counts))])]⟩) ?_
  replace H0 := bind_some H0
  obtain ⟨y, h_0, H0⟩ := H0
  refine lok_rt (Env.of E0 [⟨some 7, 22, [.agg [.p (.sl 1 (List.map encI d.Counts))], .one (.p (pi (d.Counts.length : Int)))], [], [.one (.p (pi y))], [], True, fun _ => ok_ref32_Below d (d.Counts.length : Int) y h_0, []⟩]) (⟨8, mkS [(2, .x (.one (.p (pi y))))], mkH []⟩) ?_
  refine lok_ret ?_
  obtain rfl := Option.some.inj H0
  try simp only [thenL, blockL]
  exact fin_au _ (.inr rfl) [] (⟨8, mkS [(2, .x (.one (.p (pi y))))], mkH []⟩) rfl rfl imp_au
theorem ok_mark_Light (l : List Int) (r_ : Bool) (H0 : mark_Light l = some r_) : CallOK Try.prog 8 [.one (.p (.sl 1 (List.map encI l)))] [] [.one (.p (.val (.bool r_)))] [] := by
  refine callOK (n := 6) (rs := [.tmp 2]) (nb := 0) (V := []) Try.func8 rfl (by kernel_rfl) rfl rfl rfl rfl (Nat.le_of_ble_eq_true rfl) (by decide) ?_
  unfold mark_Light at H0
  refine lok_rt E0 (⟨6, mkS [(0, .x (.one (.p (.sl 1 (List.map encI l)))))], mkH []⟩) ?_
  refine lok_rt E0 (⟨6, mkS [(2, .x (.one (.p (.val (.bool (decide ((l.length : Int) ≤ (600 : Int))))))))], mkH []⟩) ?_
  refine lok_ret ?_
  obtain rfl := Option.some.inj H0
  try simp only [thenL, blockL]
  exact fin_au _ (.inr rfl) [] (⟨6, mkS [(2, .x (.one (.p (.val (.bool (decide ((l.length : Int) ≤ (600 : Int))))))))], mkH []⟩) rfl rfl imp_au
theorem ok_boundary_Interpolate (high : Int) (low : Int) (steps : Int) (r_ : (List Int) × Int) (H0 : boundary_Interpolate high low steps = some r_) : CallOK Try.prog 17 [.one (.p (pi high)), .one (.p (pi low)), .one (.p (pi steps))] [] [.one (.p (.sl 1 (List.map encI r_.1))), .one (.p (pi r_.2))] [] := by
  refine callOK (n := 54) (rs := [.tmp 6, .tmp 7]) (nb := 0) (V := []) Try.func17 rfl (by kernel_rfl) rfl rfl rfl rfl (Nat.le_of_ble_eq_true rfl) (by decide) ?_
  unfold boundary_Interpolate at H0
  refine lok_rt E0 (⟨54, mkS [(0, .x (.one (.p (pi high)))), (1, .x (.one (.p (pi low)))), (2, .x (.one (.p (pi steps))))], mkH []⟩) ?_
  refine lok_seq ?_
  refine lok_rt E0 (⟨54, mkS [(0, .x (.one (.p (pi high)))), (1, .x (.one (.p (pi low)))), (2, .x (.one (.p (pi steps)))), (28, .x (.one (.p (.val (.bool (((((decide (low < (0 : Int))) || (decide (high < low))) || (decide ((200 : Int) < high))) || (decide (steps < (1 : Int)))) || (decide ((8 : Int) < steps))))))))], mkH []⟩) ?_
  refine lok_c (((((decide (low < (0 : Int))) || (decide (high < low))) || (decide ((200 : Int) < high))) || (decide (steps < (1 : Int)))) || (decide ((8 : Int) < steps))) ?_ ?_
  · intro b_6
    replace H0 := cpos H0 b_6
    refine lok_rt E0 (⟨54, mkS [(6, .x (.one (.vw 106))), (7, .x (.one (.p (pi (2 : Int)))))], mkH [(106, .arr 1 (List.map encI ([] : List Int)))]⟩) ?_
    refine lok_ret ?_
    obtain rfl := Option.some.inj H0
    try simp only [thenL, blockL]
    exact fin_au _ (.inr rfl) [] (⟨54, mkS [(6, .x (.one (.p (.sl 1 (List.map encI ([] : List Int)))))), (7, .x (.one (.p (pi (2 : Int)))))], mkH []⟩) rfl rfl (Imp.trans (imp_frz 106 1 (List.map encI ([] : List Int))) imp_au)
  · intro b_6
    replace H0 := cneg H0 b_6
    refine lok_skip ?_
    try simp only [thenL, blockL, ↓reduceIte, reduceCtorEq]
    replace H0 := req_some H0
    obtain ⟨q_5, H0⟩ := H0
    refine lok_rt E0 (⟨54, mkS [(0, .x (.one (.p (pi high)))), (1, .x (.one (.p (pi low)))), (2, .x (.one (.p (pi steps)))), (8, .x (.one (.vw 131)))], mkH [(131, .arr 1 (List.map encI (rep (IntKind.i64.wrap (steps + (1 : Int))) (0 : Int))))]⟩) ?_
    refine lok_join (fun x_ : (List Int) => boundary_Interpolate_j1 x_ = some r_) (fun x_ => ⟨54, mkS [(8, .x (.one (.vw 131)))], mkH [(131, .arr 1 (List.map encI x_))]⟩) ?hyboundary_Interpolate_j1 ?hxboundary_Interpolate_j1
    case hyboundary_Interpolate_j1 =>
      rintro w H0
      try dsimp only at H0 ⊢
      unfold boundary_Interpolate_j1 at H0
      refine lok_rt E0 (⟨54, mkS [(6, .x (.one (.vw 131))), (7, .x (.one (.p (pi (0 : Int)))))], mkH [(131, .arr 1 (List.map encI w))]⟩) ?_
      refine lok_ret ?_
      obtain rfl := Option.some.inj H0
      try simp only [thenL, blockL]
      exact fin_au _ (.inr rfl) [] (⟨54, mkS [(6, .x (.one (.p (.sl 1 (List.map encI w))))), (7, .x (.one (.p (pi (0 : Int)))))], mkH []⟩) rfl rfl (Imp.trans (imp_frz 131 1 (List.map encI w)) imp_au)
    case hxboundary_Interpolate_j1 =>
      refine lok_rt E0 (⟨54, mkS [(0, .x (.one (.p (pi high)))), (1, .x (.one (.p (pi low)))), (2, .x (.one (.p (pi steps)))), (8, .x (.one (.vw 131))), (33, .x (.one (.p (pi ((rep (IntKind.i64.wrap (steps + (1 : Int))) (0 : Int)).length : Int))))), (34, .x (.one (.p (pi (0 : Int)))))], mkH [(131, .arr 1 (List.map encI (rep (IntKind.i64.wrap (steps + (1 : Int))) (0 : Int))))]⟩) ?_
      refine lok_block ?_
      replace H0 := bind_some H0
      obtain ⟨v_0, hv_0, H0⟩ := H0
      refine lok_iter (fun x_ => ⟨54, mkS [(0, .x (.one (.p (pi high)))), (1, .x (.one (.p (pi low)))), (2, .x (.one (.p (pi steps)))), (8, .x (.one (.vw 131))), (33, .x (.one (.p (pi ((rep (IntKind.i64.wrap (steps + (1 : Int))) (0 : Int)).length : Int))))), (34, .x (.one (.p (pi x_.1))))], mkH [(131, .arr 1 (List.map encI x_.2))]⟩) hv_0 imp_au ?_
      · rintro ⟨v, w1⟩ o_1 H1 k_1
        unfold boundary_Interpolate_l2 at H1
        try dsimp only at H1 ⊢
        refine lok_rt E0 (⟨54, mkS [(0, .x (.one (.p (pi high)))), (1, .x (.one (.p (pi low)))), (2, .x (.one (.p (pi steps)))), (8, .x (.one (.vw 131))), (33, .x (.one (.p (pi ((rep (IntKind.i64.wrap (steps + (1 : Int))) (0 : Int)).length : Int))))), (34, .x (.one (.p (pi v)))), (35, .x (.one (.p (.val (.bool (decide (v < ((rep (IntKind.i64.wrap (steps + (1 : Int))) (0 : Int)).length : Int))))))))], mkH [(131, .arr 1 (List.map encI w1))]⟩) ?_
        refine lok_seq ?_
        refine lok_c (decide (v < ((rep (IntKind.i64.wrap (steps + (1 : Int))) (0 : Int)).length : Int))) ?_ ?_
        · intro b_4
          replace H1 := cpos H1 b_4
          refine lok_skip ?_
          try simp only [thenL, blockL, ↓reduceIte, reduceCtorEq]
          refine lok_seq ?_
          refine lok_block ?_
          refine lok_rt E0 (⟨54, mkS [(0, .x (.one (.p (pi high)))), (1, .x (.one (.p (pi low)))), (2, .x (.one (.p (pi steps)))), (8, .x (.one (.vw 131))), (9, .x (.one (.p (pi v)))), (33, .x (.one (.p (pi ((rep (IntKind.i64.wrap (steps + (1 : Int))) (0 : Int)).length : Int))))), (34, .x (.one (.p (pi v))))], mkH [(131, .arr 1 (List.map encI w1))]⟩) ?_
          replace H1 := req_some H1
          obtain ⟨⟨q_2, q_3⟩, H1⟩ := H1
          replace H1 := bindV_some H1
          obtain ⟨w3, a_1, H1⟩ := H1
          refine lok_rlg E0 a_1 (⟨54, mkS [(0, .x (.one (.p (pi high)))), (1, .x (.one (.p (pi low)))), (2, .x (.one (.p (pi steps)))), (8, .x (.one (.vw 131))), (33, .x (.one (.p (pi ((rep (IntKind.i64.wrap (steps + (1 : Int))) (0 : Int)).length : Int))))), (34, .x (.one (.p (pi v))))], mkH [(131, .arr 1 (List.map encI w3))]⟩) ?_
          try simp only [thenL, blockL, ↓reduceIte, reduceCtorEq]
          refine lok_rl E0 (⟨54, mkS [(0, .x (.one (.p (pi high)))), (1, .x (.one (.p (pi low)))), (2, .x (.one (.p (pi steps)))), (8, .x (.one (.vw 131))), (33, .x (.one (.p (pi ((rep (IntKind.i64.wrap (steps + (1 : Int))) (0 : Int)).length : Int))))), (34, .x (.one (.p (pi (IntKind.i64.wrap (v + (1 : Int)))))))], mkH [(131, .arr 1 (List.map encI w3))]⟩) ?_
          try simp only [thenL, blockL, ↓reduceIte, reduceCtorEq]
          exact ⟨((IntKind.i64.wrap (v + (1 : Int))), w3), (Option.some.inj H1).symm, imp_au⟩
        · intro b_4
          replace H1 := cneg H1 b_4
          refine lok_exit ?_
          try simp only [thenL, blockL, ↓reduceIte, reduceCtorEq]
          have e_1 := k_1 _ (Option.some.inj H1).symm
          subst e_1
          try dsimp only at H0
          try simp only [thenL, blockL, ↓reduceIte, reduceCtorEq]
          exact ⟨w1, H0, imp_au⟩
theorem ok_distribution_Below (d : api_Distribution) (score : Int) (r_ : Int) (H0 : distribution_Below d score = some r_) : CallOK Try.prog 50 [.agg [.p (.sl 1 (List.map encI d.Counts))], .one (.p (pi score))] [] [.one (.p (pi r_))] [] := by
  refine callOK (n := 30) (rs := [.tmp 4]) (nb := 0) (V := []) Try.func50 rfl (by kernel_rfl) rfl rfl rfl rfl (Nat.le_of_ble_eq_true rfl) (by decide) ?_
  unfold distribution_Below at H0
  refine lok_rt E0 (⟨30, mkS [(1, .x (.one (.p (pi score)))), (2, .x (.one (.ptr 102 0)))], mkH [(102, .var [.p (.sl 1 (List.map encI d.Counts))])]⟩) ?_
  refine lok_seq ?_
  replace H0 := bind_some H0
  obtain ⟨y, h_0, H0⟩ := H0
  refine lok_rt (Env.of E0 [⟨some 8, 31, [.agg [.p (.sl 1 (List.map encI d.Counts))]], [], [.one (.p (.val (.bool y)))], [], True, fun _ => ok_distribution_Valid d y h_0, []⟩]) (⟨30, mkS [(1, .x (.one (.p (pi score)))), (2, .x (.one (.ptr 102 0))), (9, .x (.one (.p (.val (.bool (!y))))))], mkH [(102, .var [.p (.sl 1 (List.map encI d.Counts))])]⟩) ?_
  refine lok_c (!y) ?_ ?_
  · intro b_4
    replace H0 := cpos H0 b_4
    refine lok_rt E0 (⟨30, mkS [(4, .x (.one (.p (pi (0 : Int)))))], mkH []⟩) ?_
    refine lok_ret ?_
    obtain rfl := Option.some.inj H0
    try simp only [thenL, blockL]
    exact fin_au _ (.inr rfl) [] (⟨30, mkS [(4, .x (.one (.p (pi (0 : Int)))))], mkH []⟩) rfl rfl imp_au
  · intro b_4
    replace H0 := cneg H0 b_4
    refine lok_skip ?_
    try simp only [thenL, blockL, ↓reduceIte, reduceCtorEq]
    refine lok_rt E0 (⟨30, mkS [(1, .x (.one (.p (pi score)))), (2, .x (.one (.ptr 102 0))), (5, .x (.one (.p (pi (0 : Int)))))], mkH [(102, .var [.p (.sl 1 (List.map encI d.Counts))])]⟩) ?_
    refine lok_join (fun x_ : Int => distribution_Below_j1 x_ = some r_) (fun x_ => ⟨30, mkS [(5, .x (.one (.p (pi x_))))], mkH []⟩) ?hydistribution_Below_j1 ?hxdistribution_Below_j1
    case hydistribution_Below_j1 =>
      rintro sum H0
      try dsimp only at H0 ⊢
      unfold distribution_Below_j1 at H0
      refine lok_rt E0 (⟨30, mkS [(4, .x (.one (.p (pi sum))))], mkH []⟩) ?_
      refine lok_ret ?_
      obtain rfl := Option.some.inj H0
      try simp only [thenL, blockL]
      exact fin_au _ (.inr rfl) [] (⟨30, mkS [(4, .x (.one (.p (pi sum))))], mkH []⟩) rfl rfl imp_au
    case hxdistribution_Below_j1 =>
      refine lok_rt E0 (⟨30, mkS [(1, .x (.one (.p (pi score)))), (2, .x (.one (.ptr 102 0))), (5, .x (.one (.p (pi (0 : Int))))), (6, .x (.one (.p (pi (0 : Int)))))], mkH [(102, .var [.p (.sl 1 (List.map encI d.Counts))])]⟩) ?_
      refine lok_block ?_
      replace H0 := bind_some H0
      obtain ⟨v_1, hv_1, H0⟩ := H0
      refine lok_iter (fun x_ => ⟨30, mkS [(1, .x (.one (.p (pi score)))), (2, .x (.one (.ptr 102 0))), (5, .x (.one (.p (pi x_.1)))), (6, .x (.one (.p (pi x_.2))))], mkH [(102, .var [.p (.sl 1 (List.map encI d.Counts))])]⟩) hv_1 imp_au ?_
      · rintro ⟨sum1, i⟩ o_1 H1 k_1
        unfold distribution_Below_l2 at H1
        try dsimp only at H1 ⊢
        refine lok_seq ?_
        refine lok_rt E0 (⟨30, mkS [(1, .x (.one (.p (pi score)))), (2, .x (.one (.ptr 102 0))), (5, .x (.one (.p (pi sum1)))), (6, .x (.one (.p (pi i)))), (19, .x (.one (.p (.val (.bool ((decide (i < (d.Counts.length : Int))) && (decide (i < score))))))))], mkH [(102, .var [.p (.sl 1 (List.map encI d.Counts))])]⟩) ?_
        refine lok_c ((decide (i < (d.Counts.length : Int))) && (decide (i < score))) ?_ ?_
        · intro b_3
          replace H1 := cpos H1 b_3
          refine lok_skip ?_
          try simp only [thenL, blockL, ↓reduceIte, reduceCtorEq]
          refine lok_seq ?_
          refine lok_block ?_
          replace H1 := req_some H1
          obtain ⟨q_2, H1⟩ := H1
          refine lok_rl E0 (⟨30, mkS [(1, .x (.one (.p (pi score)))), (2, .x (.one (.ptr 102 0))), (5, .x (.one (.p (pi (IntKind.i64.wrap (sum1 + (ix d.Counts i))))))), (6, .x (.one (.p (pi i))))], mkH [(102, .var [.p (.sl 1 (List.map encI d.Counts))])]⟩) ?_
          try simp only [thenL, blockL, ↓reduceIte, reduceCtorEq]
          refine lok_rl E0 (⟨30, mkS [(1, .x (.one (.p (pi score)))), (2, .x (.one (.ptr 102 0))), (5, .x (.one (.p (pi (IntKind.i64.wrap (sum1 + (ix d.Counts i))))))), (6, .x (.one (.p (pi (IntKind.i64.wrap (i + (1 : Int)))))))], mkH [(102, .var [.p (.sl 1 (List.map encI d.Counts))])]⟩) ?_
          try simp only [thenL, blockL, ↓reduceIte, reduceCtorEq]
          exact ⟨((IntKind.i64.wrap (sum1 + (ix d.Counts i))), (IntKind.i64.wrap (i + (1 : Int)))), (Option.some.inj H1).symm, imp_au⟩
        · intro b_3
          replace H1 := cneg H1 b_3
          refine lok_exit ?_
          try simp only [thenL, blockL, ↓reduceIte, reduceCtorEq]
          have e_1 := k_1 _ (Option.some.inj H1).symm
          subst e_1
          try dsimp only at H0
          try simp only [thenL, blockL, ↓reduceIte, reduceCtorEq]
          exact ⟨sum1, H0, imp_au⟩
theorem ok_distribution_Count (d : api_Distribution) (r_ : Int) (H0 : distribution_Count d = some r_) : CallOK Try.prog 40 [.agg [.p (.sl 1 (List.map encI d.Counts))]] [] [.one (.p (pi r_))] [] := by
  refine callOK (n := 8) (rs := [.tmp 2]) (nb := 0) (V := []) Try.func40 rfl (by kernel_rfl) rfl rfl rfl rfl (Nat.le_of_ble_eq_true rfl) (by decide) ?_
  unfold distribution_Count at H0
  refine lok_rt E0 (⟨8, mkS [(1, .x (.one (.ptr 101 0)))], mkH [(101, .var [.p (.sl 1 (List.map encI d.Counts))])]⟩) ?_
  replace H0 := bind_some H0
  obtain ⟨y, h_0, H0⟩ := H0
  refine lok_rt (Env.of E0 [⟨some 7, 50, [.agg [.p (.sl 1 (List.map encI d.Counts))], .one (.p (pi (d.Counts.length : Int)))], [], [.one (.p (pi y))], [], True, fun _ => ok_distribution_Below d (d.Counts.length : Int) y h_0, []⟩]) (⟨8, mkS [(2, .x (.one (.p (pi y))))], mkH []⟩) ?_
  refine lok_ret ?_
  obtain rfl := Option.some.inj H0
  try simp only [thenL, blockL]
  exact fin_au _ (.inr rfl) [] (⟨8, mkS [(2, .x (.one (.p (pi y))))], mkH []⟩) rfl rfl imp_au
theorem ok_ratio_magnitude (n : Int) (r_ : Int) (H0 : ratio_magnitude n = some r_) : CallOK Try.prog 52 [.one (.p (pi n))] [] [.one (.p (.val (.int .u64 r_)))] [] := by
  refine callOK (n := 10) (rs := [.tmp 2]) (nb := 0) (V := []) Try.func52 rfl (by kernel_rfl) rfl rfl rfl rfl (Nat.le_of_ble_eq_true rfl) (by decide) ?_
  unfold ratio_magnitude at H0
  refine lok_rt E0 (⟨10, mkS [(0, .x (.one (.p (pi n))))], mkH []⟩) ?_
  refine lok_seq ?_
  refine lok_rt E0 (⟨10, mkS [(0, .x (.one (.p (pi n)))), (4, .x (.one (.p (.val (.bool (decide (n < (0 : Int))))))))], mkH []⟩) ?_
  refine lok_c (decide (n < (0 : Int))) ?_ ?_
  · intro b_0
    replace H0 := cpos H0 b_0
    refine lok_rt E0 (⟨10, mkS [(2, .x (.one (.p (.val (.int .u64 (IntKind.u64.wrap (0 - (IntKind.u64.wrap n))))))))], mkH []⟩) ?_
    refine lok_ret ?_
    obtain rfl := Option.some.inj H0
    try simp only [thenL, blockL]
    exact fin_au _ (.inr rfl) [] (⟨10, mkS [(2, .x (.one (.p (.val (.int .u64 (IntKind.u64.wrap (0 - (IntKind.u64.wrap n))))))))], mkH []⟩) rfl rfl imp_au
  · intro b_0
    replace H0 := cneg H0 b_0
    refine lok_skip ?_
    try simp only [thenL, blockL, ↓reduceIte, reduceCtorEq]
    refine lok_rt E0 (⟨10, mkS [(2, .x (.one (.p (.val (.int .u64 (IntKind.u64.wrap n))))))], mkH []⟩) ?_
    refine lok_ret ?_
    obtain rfl := Option.some.inj H0
    try simp only [thenL, blockL]
    exact fin_au _ (.inr rfl) [] (⟨10, mkS [(2, .x (.one (.p (.val (.int .u64 (IntKind.u64.wrap n))))))], mkH []⟩) rfl rfl imp_au
theorem ok_ratio_gcd (a : Int) (b : Int) (r_ : Int) (H0 : ratio_gcd a b = some r_) : CallOK Try.prog 60 [.one (.p (.val (.int .u64 a))), .one (.p (.val (.int .u64 b)))] [] [.one (.p (.val (.int .u64 r_)))] [] := by
  refine callOK (n := 12) (rs := [.tmp 4]) (nb := 0) (V := []) Try.func60 rfl (by kernel_rfl) rfl rfl rfl rfl (Nat.le_of_ble_eq_true rfl) (by decide) ?_
  unfold ratio_gcd at H0
  refine lok_rt E0 (⟨12, mkS [(0, .x (.one (.p (.val (.int .u64 a))))), (1, .x (.one (.p (.val (.int .u64 b)))))], mkH []⟩) ?_
  refine lok_join (fun x_ : Int => ratio_gcd_j1 x_ = some r_) (fun x_ => ⟨12, mkS [(0, .x (.one (.p (.val (.int .u64 x_)))))], mkH []⟩) ?hyratio_gcd_j1 ?hxratio_gcd_j1
  case hyratio_gcd_j1 =>
    rintro a1 H0
    try dsimp only at H0 ⊢
    unfold ratio_gcd_j1 at H0
    refine lok_rt E0 (⟨12, mkS [(4, .x (.one (.p (.val (.int .u64 a1)))))], mkH []⟩) ?_
    refine lok_ret ?_
    obtain rfl := Option.some.inj H0
    try simp only [thenL, blockL]
    exact fin_au _ (.inr rfl) [] (⟨12, mkS [(4, .x (.one (.p (.val (.int .u64 a1)))))], mkH []⟩) rfl rfl imp_au
  case hxratio_gcd_j1 =>
    refine lok_block ?_
    replace H0 := bind_some H0
    obtain ⟨v_0, hv_0, H0⟩ := H0
    refine lok_iter (fun x_ => ⟨12, mkS [(0, .x (.one (.p (.val (.int .u64 x_.1))))), (1, .x (.one (.p (.val (.int .u64 x_.2)))))], mkH []⟩) hv_0 imp_au ?_
    · rintro ⟨a2, b1⟩ o_1 H1 k_1
      unfold ratio_gcd_l2 at H1
      try dsimp only at H1 ⊢
      refine lok_seq ?_
      refine lok_rt E0 (⟨12, mkS [(0, .x (.one (.p (.val (.int .u64 a2))))), (1, .x (.one (.p (.val (.int .u64 b1))))), (6, .x (.one (.p (.val (.bool (b1 != (0 : Int)))))))], mkH []⟩) ?_
      refine lok_c (b1 != (0 : Int)) ?_ ?_
      · intro b_2
        replace H1 := cpos H1 b_2
        refine lok_skip ?_
        try simp only [thenL, blockL, ↓reduceIte, reduceCtorEq]
        refine lok_block ?_
        replace H1 := req_some H1
        obtain ⟨q_1, H1⟩ := H1
        refine lok_dl E0 5 (⟨12, mkS [(0, .x (.one (.p (.val (.int .u64 b1))))), (1, .x (.one (.p (.val (.int .u64 (Int.tmod a2 b1))))))], mkH []⟩) (by kernel_rfl) (by kernel_rfl) ?_
        try simp only [thenL, blockL, ↓reduceIte, reduceCtorEq]
        exact ⟨(b1, (Int.tmod a2 b1)), (Option.some.inj H1).symm, imp_au⟩
      · intro b_2
        replace H1 := cneg H1 b_2
        refine lok_exit ?_
        try simp only [thenL, blockL, ↓reduceIte, reduceCtorEq]
        have e_1 := k_1 _ (Option.some.inj H1).symm
        subst e_1
        try dsimp only at H0
        try simp only [thenL, blockL, ↓reduceIte, reduceCtorEq]
        exact ⟨a2, H0, imp_au⟩
theorem ok_ratio_Valid (a : api_Ratio) (r_ : Bool) (H0 : ratio_Valid a = some r_) : CallOK Try.prog 48 [.agg [.p (pi a.Num), .p (pi a.Den)]] [] [.one (.p (.val (.bool r_)))] [] := by
  refine callOK (n := 29) (rs := [.tmp 2]) (nb := 0) (V := []) Try.func48 rfl (by kernel_rfl) rfl rfl rfl rfl (Nat.le_of_ble_eq_true rfl) (by decide) ?_
  unfold ratio_Valid at H0
  refine lok_rt E0 (⟨29, mkS [(1, .x (.one (.ptr 101 0)))], mkH [(101, .var [.p (pi a.Num), .p (pi a.Den)])]⟩) ?_
  refine lok_seq ?_
  refine lok_rt E0 (⟨29, mkS [(1, .x (.one (.ptr 101 0))), (20, .x (.one (.p (.val (.bool ((((decide (a.Den < (1 : Int))) || (decide ((1152921504606846976 : Int) < a.Den))) || (decide (a.Num < (-1152921504606846976 : Int)))) || (decide ((1152921504606846976 : Int) < a.Num))))))))], mkH [(101, .var [.p (pi a.Num), .p (pi a.Den)])]⟩) ?_
  refine lok_c ((((decide (a.Den < (1 : Int))) || (decide ((1152921504606846976 : Int) < a.Den))) || (decide (a.Num < (-1152921504606846976 : Int)))) || (decide ((1152921504606846976 : Int) < a.Num))) ?_ ?_
  · intro b_2
    replace H0 := cpos H0 b_2
    refine lok_rt E0 (⟨29, mkS [(2, .x (.one (.p (.val (.bool false)))))], mkH []⟩) ?_
    refine lok_ret ?_
    obtain rfl := Option.some.inj H0
    try simp only [thenL, blockL]
    exact fin_au _ (.inr rfl) [] (⟨29, mkS [(2, .x (.one (.p (.val (.bool false)))))], mkH []⟩) rfl rfl imp_au
  · intro b_2
    replace H0 := cneg H0 b_2
    refine lok_skip ?_
    try simp only [thenL, blockL, ↓reduceIte, reduceCtorEq]
    replace H0 := bind_some H0
    obtain ⟨y, h_0, H0⟩ := H0
    replace H0 := bind_some H0
    obtain ⟨y1, h_1, H0⟩ := H0
    refine lok_dt (Env.of E0 [⟨some 23, 52, [.one (.p (pi a.Num))], [], [.one (.p (.val (.int .u64 y)))], [], True, fun _ => ok_ratio_magnitude a.Num y h_0, []⟩,
      ⟨some 27, 60, [.one (.p (.val (.int .u64 y))), .one (.p (.val (.int .u64 (IntKind.u64.wrap a.Den))))], [], [.one (.p (.val (.int .u64 y1)))], [], True, fun _ => ok_ratio_gcd y (IntKind.u64.wrap a.Den) y1 h_1, []⟩]) 6 (⟨29, mkS [(2, .x (.one (.p (.val (.bool (y1 == (1 : Int)))))))], mkH []⟩) (by kernel_rfl) (by kernel_rfl) ?_
    refine lok_ret ?_
    obtain rfl := Option.some.inj H0
    try simp only [thenL, blockL]
    exact fin_au _ (.inr rfl) [] (⟨29, mkS [(2, .x (.one (.p (.val (.bool (y1 == (1 : Int)))))))], mkH []⟩) rfl rfl imp_au
theorem ok_boundary_check (d : api_Distribution) (share : api_Ratio) (r_ : Int) (H0 : boundary_check d share = some r_) : CallOK Try.prog 35 [.agg [.p (.sl 1 (List.map encI d.Counts))], .agg [.p (pi share.Num), .p (pi share.Den)]] [] [.one (.p (pi r_))] [] := by
  refine callOK (n := 26) (rs := [.tmp 4]) (nb := 0) (V := []) Try.func35 rfl (by kernel_rfl) rfl rfl rfl rfl (Nat.le_of_ble_eq_true rfl) (by decide) ?_
  unfold boundary_check at H0
  refine lok_rt E0 (⟨26, mkS [(2, .x (.one (.ptr 102 0))), (3, .x (.one (.ptr 103 0)))], mkH [(102, .var [.p (.sl 1 (List.map encI d.Counts))]), (103, .var [.p (pi share.Num), .p (pi share.Den)])]⟩) ?_
  refine lok_seq ?_
  replace H0 := bind_some H0
  obtain ⟨y, h_0, H0⟩ := H0
  replace H0 := req_some H0
  obtain ⟨q_5, H0⟩ := H0
  refine lok_rt (Env.of E0 [⟨some 6, 31, [.agg [.p (.sl 1 (List.map encI d.Counts))]], [], [.one (.p (.val (.bool y)))], [], True, fun _ => ok_distribution_Valid d y h_0, []⟩,
      ⟨some 10, 48, [.agg [.p (pi share.Num), .p (pi share.Den)]], [], [.one (.p (.val (.bool ((ratio_Valid share).getD default))))], [], (ratio_Valid share).isSome = true, fun h => ok_ratio_Valid share _ (isSome_get h), []⟩]) (⟨26, mkS [(2, .x (.one (.ptr 102 0))), (3, .x (.one (.ptr 103 0))), (12, .x (.one (.p (.val (.bool ((!y) || (!((ratio_Valid share).getD default))))))))], mkH [(102, .var [.p (.sl 1 (List.map encI d.Counts))]), (103, .var [.p (pi share.Num), .p (pi share.Den)])]⟩) ?_
  refine lok_c ((!y) || (!((ratio_Valid share).getD default))) ?_ ?_
  · intro b_4
    replace H0 := cpos H0 b_4
    refine lok_rt E0 (⟨26, mkS [(4, .x (.one (.p (pi (1 : Int)))))], mkH []⟩) ?_
    refine lok_ret ?_
    obtain rfl := Option.some.inj H0
    try simp only [thenL, blockL]
    exact fin_au _ (.inr rfl) [] (⟨26, mkS [(4, .x (.one (.p (pi (1 : Int)))))], mkH []⟩) rfl rfl imp_au
  · intro b_4
    replace H0 := cneg H0 b_4
    refine lok_skip ?_
    try simp only [thenL, blockL, ↓reduceIte, reduceCtorEq]
    refine lok_seq ?_
    replace H0 := bind_some H0
    obtain ⟨y1, h_1, H0⟩ := H0
    refine lok_rt (Env.of E0 [⟨some 14, 40, [.agg [.p (.sl 1 (List.map encI d.Counts))]], [], [.one (.p (pi y1))], [], True, fun _ => ok_distribution_Count d y1 h_1, []⟩]) (⟨26, mkS [(3, .x (.one (.ptr 103 0))), (15, .x (.one (.p (.val (.bool (y1 == (0 : Int)))))))], mkH [(103, .var [.p (pi share.Num), .p (pi share.Den)])]⟩) ?_
    refine lok_c (y1 == (0 : Int)) ?_ ?_
    · intro b_3
      replace H0 := cpos H0 b_3
      refine lok_rt E0 (⟨26, mkS [(4, .x (.one (.p (pi (10 : Int)))))], mkH []⟩) ?_
      refine lok_ret ?_
      obtain rfl := Option.some.inj H0
      try simp only [thenL, blockL]
      exact fin_au _ (.inr rfl) [] (⟨26, mkS [(4, .x (.one (.p (pi (10 : Int)))))], mkH []⟩) rfl rfl imp_au
    · intro b_3
      replace H0 := cneg H0 b_3
      refine lok_skip ?_
      try simp only [thenL, blockL, ↓reduceIte, reduceCtorEq]
      refine lok_seq ?_
      refine lok_rt E0 (⟨26, mkS [(25, .x (.one (.p (.val (.bool ((decide (share.Num < (0 : Int))) || (decide (share.Den < share.Num))))))))], mkH []⟩) ?_
      refine lok_c ((decide (share.Num < (0 : Int))) || (decide (share.Den < share.Num))) ?_ ?_
      · intro b_2
        replace H0 := cpos H0 b_2
        refine lok_rt E0 (⟨26, mkS [(4, .x (.one (.p (pi (2 : Int)))))], mkH []⟩) ?_
        refine lok_ret ?_
        obtain rfl := Option.some.inj H0
        try simp only [thenL, blockL]
        exact fin_au _ (.inr rfl) [] (⟨26, mkS [(4, .x (.one (.p (pi (2 : Int)))))], mkH []⟩) rfl rfl imp_au
      · intro b_2
        replace H0 := cneg H0 b_2
        refine lok_skip ?_
        try simp only [thenL, blockL, ↓reduceIte, reduceCtorEq]
        refine lok_rt E0 (⟨26, mkS [(4, .x (.one (.p (pi (0 : Int)))))], mkH []⟩) ?_
        refine lok_ret ?_
        obtain rfl := Option.some.inj H0
        try simp only [thenL, blockL]
        exact fin_au _ (.inr rfl) [] (⟨26, mkS [(4, .x (.one (.p (pi (0 : Int)))))], mkH []⟩) rfl rfl imp_au
theorem ok_boundary_reaching (d : api_Distribution) (r_ : (List Int)) (H0 : boundary_reaching d = some r_) : CallOK Try.prog 36 [.agg [.p (.sl 1 (List.map encI d.Counts))]] [] [.one (.p (.sl 1 (List.map encI r_)))] [] := by
  refine callOK (n := 31) (rs := [.tmp 2]) (nb := 0) (V := []) Try.func36 rfl (by kernel_rfl) rfl rfl rfl rfl (Nat.le_of_ble_eq_true rfl) (by decide) ?_
  unfold boundary_reaching at H0
  refine lok_rt E0 (⟨31, mkS [(1, .x (.one (.ptr 101 0)))], mkH [(101, .var [.p (.sl 1 (List.map encI d.Counts))])]⟩) ?_
  replace H0 := req_some H0
  obtain ⟨q_7, H0⟩ := H0
  refine lok_rt E0 (⟨31, mkS [(1, .x (.one (.ptr 101 0))), (3, .x (.one (.vw 109)))], mkH [(101, .var [.p (.sl 1 (List.map encI d.Counts))]), (109, .arr 1 (List.map encI (rep (IntKind.i64.wrap ((d.Counts.length : Int) + (1 : Int))) (0 : Int))))]⟩) ?_
  refine lok_join (fun x_ : (List Int) => boundary_reaching_j1 x_ = some r_) (fun x_ => ⟨31, mkS [(3, .x (.one (.vw 109)))], mkH [(109, .arr 1 (List.map encI x_))]⟩) ?hyboundary_reaching_j1 ?hxboundary_reaching_j1
  case hyboundary_reaching_j1 =>
    rintro w H0
    try dsimp only at H0 ⊢
    unfold boundary_reaching_j1 at H0
    refine lok_rt E0 (⟨31, mkS [(2, .x (.one (.vw 109)))], mkH [(109, .arr 1 (List.map encI w))]⟩) ?_
    refine lok_ret ?_
    obtain rfl := Option.some.inj H0
    try simp only [thenL, blockL]
    exact fin_au _ (.inr rfl) [] (⟨31, mkS [(2, .x (.one (.p (.sl 1 (List.map encI w)))))], mkH []⟩) rfl rfl (Imp.trans (imp_frz 109 1 (List.map encI w)) imp_au)
  case hxboundary_reaching_j1 =>
    replace H0 := bind_some H0
    obtain ⟨y, h_0, H0⟩ := H0
    refine lok_rt (Env.of E0 [⟨some 11, 32, [.agg [.p (.sl 1 (List.map encI d.Counts))]], [], [.one (.p (pi y))], [], True, fun _ => ok_boundary_greatest d y h_0, []⟩]) (⟨31, mkS [(1, .x (.one (.ptr 101 0))), (3, .x (.one (.vw 109))), (4, .x (.one (.p (pi y))))], mkH [(101, .var [.p (.sl 1 (List.map encI d.Counts))]), (109, .arr 1 (List.map encI (rep (IntKind.i64.wrap ((d.Counts.length : Int) + (1 : Int))) (0 : Int))))]⟩) ?_
    refine lok_block ?_
    replace H0 := bind_some H0
    obtain ⟨v_1, hv_1, H0⟩ := H0
    refine lok_iter (fun x_ => ⟨31, mkS [(1, .x (.one (.ptr 101 0))), (3, .x (.one (.vw 109))), (4, .x (.one (.p (pi x_.1))))], mkH [(101, .var [.p (.sl 1 (List.map encI d.Counts))]), (109, .arr 1 (List.map encI x_.2))]⟩) hv_1 imp_au ?_
    · rintro ⟨i, w1⟩ o_1 H1 k_1
      unfold boundary_reaching_l2 at H1
      try dsimp only at H1 ⊢
      refine lok_seq ?_
      refine lok_rt E0 (⟨31, mkS [(1, .x (.one (.ptr 101 0))), (3, .x (.one (.vw 109))), (4, .x (.one (.p (pi i)))), (13, .x (.one (.p (.val (.bool (decide ((0 : Int) ≤ i)))))))], mkH [(101, .var [.p (.sl 1 (List.map encI d.Counts))]), (109, .arr 1 (List.map encI w1))]⟩) ?_
      refine lok_c (decide ((0 : Int) ≤ i)) ?_ ?_
      · intro b_6
        replace H1 := cpos H1 b_6
        refine lok_skip ?_
        try simp only [thenL, blockL, ↓reduceIte, reduceCtorEq]
        refine lok_seq ?_
        refine lok_block ?_
        replace H1 := req_some H1
        obtain ⟨⟨q_3, q_4, q_5⟩, H1⟩ := H1
        replace H1 := bindV_some H1
        obtain ⟨w3, a_2, H1⟩ := H1
        refine lok_dlg E0 13 a_2 (⟨31, mkS [(1, .x (.one (.ptr 101 0))), (3, .x (.one (.vw 109))), (4, .x (.one (.p (pi i))))], mkH [(101, .var [.p (.sl 1 (List.map encI d.Counts))]), (109, .arr 1 (List.map encI w3))]⟩) (by kernel_rfl) (by kernel_rfl) ?_
        try simp only [thenL, blockL, ↓reduceIte, reduceCtorEq]
        refine lok_rl E0 (⟨31, mkS [(1, .x (.one (.ptr 101 0))), (3, .x (.one (.vw 109))), (4, .x (.one (.p (pi (IntKind.i64.wrap (i - (1 : Int)))))))], mkH [(101, .var [.p (.sl 1 (List.map encI d.Counts))]), (109, .arr 1 (List.map encI w3))]⟩) ?_
        try simp only [thenL, blockL, ↓reduceIte, reduceCtorEq]
        exact ⟨((IntKind.i64.wrap (i - (1 : Int))), w3), (Option.some.inj H1).symm, imp_au⟩
      · intro b_6
        replace H1 := cneg H1 b_6
        refine lok_exit ?_
        try simp only [thenL, blockL, ↓reduceIte, reduceCtorEq]
        have e_1 := k_1 _ (Option.some.inj H1).symm
        subst e_1
        try dsimp only at H0
        try simp only [thenL, blockL, ↓reduceIte, reduceCtorEq]
        exact ⟨w1, H0, imp_au⟩
end Go.LS
