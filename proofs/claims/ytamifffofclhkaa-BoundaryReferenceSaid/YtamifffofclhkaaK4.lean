/-
  The walks: the functions compute what the plain ones say. Condition: the plain function has a value.
-/
import Derived.Test.YtamifffofclhkaaK3
import Derived.Test.YtamifffofclhkaaD4
namespace Go.LS
open Go.Proofs
set_option linter.all false
set_option linter.unusedSimpArgs false
set_option linter.unusedVariables false
set_option maxRecDepth 20000

theorem ok_ref32_Count (d : api_Distribution) (r_ : Int) (H0 : ref32_Count d = some r_) : CallOK Try.prog 16 [.agg [.p (.sl 1 (List.map encI d.Counts))]] [] [.one (.p (pi r_))] [] := by
  refine callOK (n := 8) (rs := [.tmp 2]) (nb := 0) (V := []) Try.func16 rfl (by kernel_rfl) rfl rfl rfl rfl (Nat.le_of_ble_eq_true rfl) rfl (by decide) ?_
  unfold ref32_Count at H0
  refine lok_rt E0 (⟨8, mkS [(1, .x (.one (.ptr 101 0)))], mkH [(101, .var [.p (.sl 1 (List.map encI d.Counts))])]⟩) ?_
  replace H0 := bind_some H0
  obtain ⟨y, h_0, H0⟩ := H0
  refine lok_rt (Env.of E0 [⟨some 7, 22, [.agg [.p (.sl 1 (List.map encI d.Counts))], .one (.p (pi (d.Counts.length : Int)))], [], [.one (.p (pi y))], [], True, fun _ => ok_ref32_Below d (d.Counts.length : Int) y h_0⟩]) (⟨8, mkS [(2, .x (.one (.p (pi y))))], mkH []⟩) ?_
  refine lok_ret ?_
  obtain rfl := Option.some.inj H0
  try simp only [thenL, blockL]
  exact fin_au _ (.inr rfl) [] (⟨8, mkS [(2, .x (.one (.p (pi y))))], mkH []⟩) rfl rfl imp_au
theorem ok_law35_BoundaryGrades (t : List Int) (r_ : Bool) (H0 : law35_BoundaryGrades t = some r_) : CallOK Try.prog 3 [.one (.p (.sl 1 (List.map encI t)))] [] [.one (.p (.val (.bool r_)))] [] := by
  refine callOK (n := 118) (rs := [.tmp 2]) (nb := 0) (V := []) Try.func3 rfl (by kernel_rfl) rfl rfl rfl rfl (Nat.le_of_ble_eq_true rfl) rfl (by decide) ?_
  unfold law35_BoundaryGrades at H0
  refine lok_rt E0 (⟨118, mkS [(0, .x (.one (.p (.sl 1 (List.map encI t)))))], mkH []⟩) ?_
  refine lok_seq ?_
  replace H0 := bind_some H0
  obtain ⟨y, h_0, H0⟩ := H0
  refine lok_rt (Env.of E0 [⟨some 18, 8, [.one (.p (.sl 1 (List.map encI t)))], [], [.one (.p (.val (.bool y)))], [], True, fun _ => ok_mark_Light t y h_0⟩]) (⟨118, mkS [(0, .x (.one (.p (.sl 1 (List.map encI t))))), (19, .x (.one (.p (.val (.bool (!y))))))], mkH []⟩) ?_
  refine lok_c (!y) ?_ ?_
  · intro b_24
    replace H0 := cpos H0 b_24
    replace H0 := bind_some H0
    obtain ⟨y1, h_1, H0⟩ := H0
    refine lok_rt (Env.of E0 [⟨some 20, 9, [], [], [.one (.p (.val (.bool y1)))], [], True, fun _ => ok_law35_sane y1 h_1⟩]) (⟨118, mkS [(2, .x (.one (.p (.val (.bool y1)))))], mkH []⟩) ?_
    refine lok_ret ?_
    obtain rfl := Option.some.inj H0
    try simp only [thenL, blockL]
    exact fin_au _ (.inr rfl) [] (⟨118, mkS [(2, .x (.one (.p (.val (.bool y1)))))], mkH []⟩) rfl rfl imp_au
  · intro b_24
    replace H0 := cneg H0 b_24
    refine lok_skip ?_
    try simp only [thenL, blockL, ↓reduceIte, reduceCtorEq]
    replace H0 := bind_some H0
    obtain ⟨y2, h_2, H0⟩ := H0
    refine lok_rt (Env.of E0 [⟨some 22, 10, [.one (.p (.sl 1 (List.map encI t)))], [], [.one (.ptr 0 0)], [some (.var [.p (.sl 1 (List.map encI y2.L)), .p (pi y2.At)])], True, fun _ => ok_mark_Roll t y2 h_2⟩]) (⟨118, mkS [(3, .x (.one (.ptr 1022 0)))], mkH [(1022, .var [.p (.sl 1 (List.map encI y2.L)), .p (pi y2.At)])]⟩) ?_
    replace H0 := bind_some H0
    obtain ⟨⟨y3, y4⟩, h_3, H0⟩ := H0
    try dsimp only at H0
    refine lok_rt (Env.of E0 [⟨some 24, 11, [.one (.ptr 0 0), .one (.p (pi (9 : Int))), .one (.p (.val (.bool false)))], [.var [.p (.sl 1 (List.map encI y2.L)), .p (pi y2.At)]], [.agg [.p (.sl 1 (List.map encI y3.Counts))]], [some (.var [.p (.sl 1 (List.map encI y4.L)), .p (pi y4.At)])], True, fun _ => ok_mark_Dice_Distribution y2 (9 : Int) false (y3, y4) h_3⟩]) (⟨118, mkS [(3, .x (.one (.ptr 1022 0))), (4, .x (.one (.ptr 104 0)))], mkH [(104, .var [.p (.sl 1 (List.map encI y3.Counts))]), (1022, .var [.p (.sl 1 (List.map encI y4.L)), .p (pi y4.At)])]⟩) ?_
    refine lok_rt E0 (⟨118, mkS [(3, .x (.one (.ptr 1022 0))), (4, .x (.one (.ptr 104 0))), (5, .x (.one (.p (pi (IntKind.i64.wrap ((y3.Counts.length : Int) - (1 : Int)))))))], mkH [(104, .var [.p (.sl 1 (List.map encI y3.Counts))]), (1022, .var [.p (.sl 1 (List.map encI y4.L)), .p (pi y4.At)])]⟩) ?_
    replace H0 := bind_some H0
    obtain ⟨⟨y5, y6⟩, h_4, H0⟩ := H0
    try dsimp only at H0
    refine lok_rt (Env.of E0 [⟨some 31, 12, [.one (.ptr 0 0), .one (.p (pi (IntKind.i64.wrap ((y3.Counts.length : Int) - (1 : Int)))))], [.var [.p (.sl 1 (List.map encI y4.L)), .p (pi y4.At)]], [.one (.p (.sl 1 (List.map encI y5)))], [some (.var [.p (.sl 1 (List.map encI y6.L)), .p (pi y6.At)])], True, fun _ => ok_mark_Dice_Bounds y4 (IntKind.i64.wrap ((y3.Counts.length : Int) - (1 : Int))) (y5, y6) h_4⟩]) (⟨118, mkS [(4, .x (.one (.ptr 104 0))), (5, .x (.one (.p (pi (IntKind.i64.wrap ((y3.Counts.length : Int) - (1 : Int))))))), (6, .x (.one (.p (.sl 1 (List.map encI y5)))))], mkH [(104, .var [.p (.sl 1 (List.map encI y3.Counts))])]⟩) ?_
    replace H0 := bind_some H0
    obtain ⟨⟨y7, y8⟩, h_5, H0⟩ := H0
    try dsimp only at H0
    refine lok_rt (Env.of E0 [⟨some 35, 13, [.agg [.p (.sl 1 (List.map encI y3.Counts))], .one (.p (.sl 1 (List.map encI y5)))], [], [.one (.p (.sl 1 (List.map encI y7))), .one (.p (pi y8))], [], True, fun _ => ok_boundary_Tally y3 y5 (y7, y8) h_5⟩]) (⟨118, mkS [(4, .x (.one (.ptr 104 0))), (5, .x (.one (.p (pi (IntKind.i64.wrap ((y3.Counts.length : Int) - (1 : Int))))))), (6, .x (.one (.p (.sl 1 (List.map encI y5))))), (7, .x (.one (.p (.sl 1 (List.map encI y7))))), (8, .x (.one (.p (pi y8))))], mkH [(104, .var [.p (.sl 1 (List.map encI y3.Counts))])]⟩) ?_
    refine lok_seq ?_
    refine lok_rt E0 (⟨118, mkS [(4, .x (.one (.ptr 104 0))), (5, .x (.one (.p (pi (IntKind.i64.wrap ((y3.Counts.length : Int) - (1 : Int))))))), (6, .x (.one (.p (.sl 1 (List.map encI y5))))), (7, .x (.one (.p (.sl 1 (List.map encI y7))))), (47, .x (.one (.p (.val (.bool ((y8 != (0 : Int)) || ((y7.length : Int) != (IntKind.i64.wrap ((y5.length : Int) + (1 : Int))))))))))], mkH [(104, .var [.p (.sl 1 (List.map encI y3.Counts))])]⟩) ?_
    refine lok_c ((y8 != (0 : Int)) || ((y7.length : Int) != (IntKind.i64.wrap ((y5.length : Int) + (1 : Int))))) ?_ ?_
    · intro b_23
      replace H0 := cpos H0 b_23
      refine lok_rt E0 (⟨118, mkS [(2, .x (.one (.p (.val (.bool false)))))], mkH []⟩) ?_
      refine lok_ret ?_
      obtain rfl := Option.some.inj H0
      try simp only [thenL, blockL]
      exact fin_au _ (.inr rfl) [] (⟨118, mkS [(2, .x (.one (.p (.val (.bool false)))))], mkH []⟩) rfl rfl imp_au
    · intro b_23
      replace H0 := cneg H0 b_23
      refine lok_skip ?_
      try simp only [thenL, blockL, ↓reduceIte, reduceCtorEq]
      refine lok_rt E0 (⟨118, mkS [(4, .x (.one (.ptr 104 0))), (5, .x (.one (.p (pi (IntKind.i64.wrap ((y3.Counts.length : Int) - (1 : Int))))))), (6, .x (.one (.p (.sl 1 (List.map encI y5))))), (7, .x (.one (.p (.sl 1 (List.map encI y7))))), (9, .x (.one (.p (pi (0 : Int))))), (10, .x (.one (.p (pi (y5.length : Int)))))], mkH [(104, .var [.p (.sl 1 (List.map encI y3.Counts))])]⟩) ?_
      replace H0 := req_some H0
      obtain ⟨q_22, H0⟩ := H0
      refine lok_rt E0 (⟨118, mkS [(4, .x (.one (.ptr 104 0))), (5, .x (.one (.p (pi (IntKind.i64.wrap ((y3.Counts.length : Int) - (1 : Int))))))), (6, .x (.one (.p (.sl 1 (List.map encI y5))))), (7, .x (.one (.p (.sl 1 (List.map encI y7))))), (9, .x (.one (.p (pi (0 : Int))))), (10, .x (.one (.p (pi (y5.length : Int))))), (11, .x (.one (.vw 152)))], mkH [(104, .var [.p (.sl 1 (List.map encI y3.Counts))]), (152, .arr 1 (List.map encI (rep (y7.length : Int) (0 : Int))))]⟩) ?_
      refine lok_join (fun x_ : (List Int) => law35_BoundaryGrades_j3 y3 y7 x_ = some r_) (fun x_ => ⟨118, mkS [(4, .x (.one (.ptr 104 0))), (7, .x (.one (.p (.sl 1 (List.map encI y7))))), (9, .x (.one (.p (pi (0 : Int))))), (11, .x (.one (.vw 152)))], mkH [(104, .var [.p (.sl 1 (List.map encI y3.Counts))]), (152, .arr 1 (List.map encI x_))]⟩) ?hylaw35_BoundaryGrades_j3 ?hxlaw35_BoundaryGrades_j3
      case hylaw35_BoundaryGrades_j3 =>
        rintro w H0
        try dsimp only at H0 ⊢
        unfold law35_BoundaryGrades_j3 at H0
        refine lok_join (fun x_ : Int => law35_BoundaryGrades_j1 y3 y7 w x_ = some r_) (fun x_ => ⟨118, mkS [(4, .x (.one (.ptr 104 0))), (7, .x (.one (.p (.sl 1 (List.map encI y7))))), (9, .x (.one (.p (pi x_)))), (11, .x (.one (.vw 152)))], mkH [(104, .var [.p (.sl 1 (List.map encI y3.Counts))]), (152, .arr 1 (List.map encI w))]⟩) ?hylaw35_BoundaryGrades_j1 ?hxlaw35_BoundaryGrades_j1
        case hylaw35_BoundaryGrades_j1 =>
          rintro sum H0
          try dsimp only at H0 ⊢
          unfold law35_BoundaryGrades_j1 at H0
          replace H0 := bind_some H0
          obtain ⟨y9, h_6, H0⟩ := H0
          replace H0 := req_some H0
          obtain ⟨⟨q_7, q_8⟩, H0⟩ := H0
          refine lok_rt (Env.of E0 [⟨some 108, 15, [.one (.p (.sl 1 (List.map encI y7))), .one (.p (.sl 1 (List.map encI w)))], [], [.one (.p (.val (.bool y9)))], [], True, fun _ => ok_law35_same y7 w y9 h_6⟩,
      ⟨some 112, 16, [.agg [.p (.sl 1 (List.map encI y3.Counts))]], [], [.one (.p (pi ((ref32_Count y3).getD default)))], [], (ref32_Count y3).isSome = true, fun h => ok_ref32_Count y3 _ (isSome_get h)⟩,
      ⟨some 116, 9, [], [], [.one (.p (.val (.bool ((law35_sane).getD default))))], [], (law35_sane).isSome = true, fun h => ok_law35_sane _ (isSome_get h)⟩]) (⟨118, mkS [(2, .x (.one (.p (.val (.bool ((y9 && (sum == ((ref32_Count y3).getD default))) && ((law35_sane).getD default)))))))], mkH []⟩) ?_
          refine lok_ret ?_
          obtain rfl := Option.some.inj H0
          try simp only [thenL, blockL]
          exact fin_au _ (.inr rfl) [] (⟨118, mkS [(2, .x (.one (.p (.val (.bool ((y9 && (sum == ((ref32_Count y3).getD default))) && ((law35_sane).getD default)))))))], mkH []⟩) rfl rfl imp_au
        case hxlaw35_BoundaryGrades_j1 =>
          refine lok_rt E0 (⟨118, mkS [(4, .x (.one (.ptr 104 0))), (7, .x (.one (.p (.sl 1 (List.map encI y7))))), (9, .x (.one (.p (pi (0 : Int))))), (11, .x (.one (.vw 152))), (96, .x (.one (.p (.sl 1 (List.map encI y7))))), (97, .x (.one (.p (pi (y7.length : Int))))), (98, .x (.one (.p (pi (0 : Int)))))], mkH [(104, .var [.p (.sl 1 (List.map encI y3.Counts))]), (152, .arr 1 (List.map encI w))]⟩) ?_
          refine lok_block ?_
          replace H0 := bind_some H0
          obtain ⟨v_9, hv_9, H0⟩ := H0
          refine lok_iter (fun x_ => ⟨118, mkS [(4, .x (.one (.ptr 104 0))), (7, .x (.one (.p (.sl 1 (List.map encI y7))))), (9, .x (.one (.p (pi x_.1)))), (11, .x (.one (.vw 152))), (96, .x (.one (.p (.sl 1 (List.map encI y7))))), (97, .x (.one (.p (pi (y7.length : Int))))), (98, .x (.one (.p (pi x_.2))))], mkH [(104, .var [.p (.sl 1 (List.map encI y3.Counts))]), (152, .arr 1 (List.map encI w))]⟩) hv_9 imp_au ?_
          · rintro ⟨sum1, v⟩ o_1 H1 k_1
            unfold law35_BoundaryGrades_l2 at H1
            try dsimp only at H1 ⊢
            refine lok_rt E0 (⟨118, mkS [(4, .x (.one (.ptr 104 0))), (7, .x (.one (.p (.sl 1 (List.map encI y7))))), (9, .x (.one (.p (pi sum1)))), (11, .x (.one (.vw 152))), (96, .x (.one (.p (.sl 1 (List.map encI y7))))), (97, .x (.one (.p (pi (y7.length : Int))))), (98, .x (.one (.p (pi v)))), (99, .x (.one (.p (.val (.bool (decide (v < (y7.length : Int))))))))], mkH [(104, .var [.p (.sl 1 (List.map encI y3.Counts))]), (152, .arr 1 (List.map encI w))]⟩) ?_
            refine lok_seq ?_
            refine lok_c (decide (v < (y7.length : Int))) ?_ ?_
            · intro b_11
              replace H1 := cpos H1 b_11
              refine lok_skip ?_
              try simp only [thenL, blockL, ↓reduceIte, reduceCtorEq]
              refine lok_seq ?_
              refine lok_block ?_
              replace H1 := req_some H1
              obtain ⟨q_10, H1⟩ := H1
              refine lok_rt E0 (⟨118, mkS [(4, .x (.one (.ptr 104 0))), (7, .x (.one (.p (.sl 1 (List.map encI y7))))), (9, .x (.one (.p (pi sum1)))), (11, .x (.one (.vw 152))), (16, .x (.one (.p (pi (ix y7 v))))), (96, .x (.one (.p (.sl 1 (List.map encI y7))))), (97, .x (.one (.p (pi (y7.length : Int))))), (98, .x (.one (.p (pi v))))], mkH [(104, .var [.p (.sl 1 (List.map encI y3.Counts))]), (152, .arr 1 (List.map encI w))]⟩) ?_
              refine lok_rl E0 (⟨118, mkS [(4, .x (.one (.ptr 104 0))), (7, .x (.one (.p (.sl 1 (List.map encI y7))))), (9, .x (.one (.p (pi (IntKind.i64.wrap (sum1 + (ix y7 v))))))), (11, .x (.one (.vw 152))), (96, .x (.one (.p (.sl 1 (List.map encI y7))))), (97, .x (.one (.p (pi (y7.length : Int))))), (98, .x (.one (.p (pi v))))], mkH [(104, .var [.p (.sl 1 (List.map encI y3.Counts))]), (152, .arr 1 (List.map encI w))]⟩) ?_
              try simp only [thenL, blockL, ↓reduceIte, reduceCtorEq]
              refine lok_rl E0 (⟨118, mkS [(4, .x (.one (.ptr 104 0))), (7, .x (.one (.p (.sl 1 (List.map encI y7))))), (9, .x (.one (.p (pi (IntKind.i64.wrap (sum1 + (ix y7 v))))))), (11, .x (.one (.vw 152))), (96, .x (.one (.p (.sl 1 (List.map encI y7))))), (97, .x (.one (.p (pi (y7.length : Int))))), (98, .x (.one (.p (pi (IntKind.i64.wrap (v + (1 : Int)))))))], mkH [(104, .var [.p (.sl 1 (List.map encI y3.Counts))]), (152, .arr 1 (List.map encI w))]⟩) ?_
              try simp only [thenL, blockL, ↓reduceIte, reduceCtorEq]
              exact ⟨((IntKind.i64.wrap (sum1 + (ix y7 v))), (IntKind.i64.wrap (v + (1 : Int)))), (Option.some.inj H1).symm, imp_au⟩
            · intro b_11
              replace H1 := cneg H1 b_11
              refine lok_exit ?_
              try simp only [thenL, blockL, ↓reduceIte, reduceCtorEq]
              have e_1 := k_1 _ (Option.some.inj H1).symm
              subst e_1
              try dsimp only at H0
              try simp only [thenL, blockL, ↓reduceIte, reduceCtorEq]
              exact ⟨sum1, H0, imp_au⟩
      case hxlaw35_BoundaryGrades_j3 =>
        refine lok_rt E0 (⟨118, mkS [(4, .x (.one (.ptr 104 0))), (5, .x (.one (.p (pi (IntKind.i64.wrap ((y3.Counts.length : Int) - (1 : Int))))))), (6, .x (.one (.p (.sl 1 (List.map encI y5))))), (7, .x (.one (.p (.sl 1 (List.map encI y7))))), (9, .x (.one (.p (pi (0 : Int))))), (10, .x (.one (.p (pi (y5.length : Int))))), (11, .x (.one (.vw 152))), (12, .x (.one (.p (pi (0 : Int)))))], mkH [(104, .var [.p (.sl 1 (List.map encI y3.Counts))]), (152, .arr 1 (List.map encI (rep (y7.length : Int) (0 : Int))))]⟩) ?_
        refine lok_block ?_
        replace H0 := bind_some H0
        obtain ⟨v_12, hv_12, H0⟩ := H0
        refine lok_iter (fun x_ => ⟨118, mkS [(4, .x (.one (.ptr 104 0))), (5, .x (.one (.p (pi (IntKind.i64.wrap ((y3.Counts.length : Int) - (1 : Int))))))), (6, .x (.one (.p (.sl 1 (List.map encI y5))))), (7, .x (.one (.p (.sl 1 (List.map encI y7))))), (9, .x (.one (.p (pi (0 : Int))))), (10, .x (.one (.p (pi x_.1)))), (11, .x (.one (.vw 152))), (12, .x (.one (.p (pi x_.2.1))))], mkH [(104, .var [.p (.sl 1 (List.map encI y3.Counts))]), (152, .arr 1 (List.map encI x_.2.2))]⟩) hv_12 imp_au ?_
        · rintro ⟨last, m, w1⟩ o_1 H1 k_1
          unfold law35_BoundaryGrades_l7 at H1
          try dsimp only at H1 ⊢
          refine lok_seq ?_
          refine lok_rt E0 (⟨118, mkS [(4, .x (.one (.ptr 104 0))), (5, .x (.one (.p (pi (IntKind.i64.wrap ((y3.Counts.length : Int) - (1 : Int))))))), (6, .x (.one (.p (.sl 1 (List.map encI y5))))), (7, .x (.one (.p (.sl 1 (List.map encI y7))))), (9, .x (.one (.p (pi (0 : Int))))), (10, .x (.one (.p (pi last)))), (11, .x (.one (.vw 152))), (12, .x (.one (.p (pi m)))), (55, .x (.one (.p (.val (.bool (decide (m ≤ (IntKind.i64.wrap ((y3.Counts.length : Int) - (1 : Int))))))))))], mkH [(104, .var [.p (.sl 1 (List.map encI y3.Counts))]), (152, .arr 1 (List.map encI w1))]⟩) ?_
          refine lok_c (decide (m ≤ (IntKind.i64.wrap ((y3.Counts.length : Int) - (1 : Int))))) ?_ ?_
          · intro b_21
            replace H1 := cpos H1 b_21
            refine lok_skip ?_
            try simp only [thenL, blockL, ↓reduceIte, reduceCtorEq]
            refine lok_join (fun x_ : Int × (List Int) => law35_BoundaryGrades_j4 m x_.1 x_.2 = some o_1) (fun x_ => ⟨118, mkS [(4, .x (.one (.ptr 104 0))), (5, .x (.one (.p (pi (IntKind.i64.wrap ((y3.Counts.length : Int) - (1 : Int))))))), (6, .x (.one (.p (.sl 1 (List.map encI y5))))), (7, .x (.one (.p (.sl 1 (List.map encI y7))))), (9, .x (.one (.p (pi (0 : Int))))), (10, .x (.one (.p (pi x_.1)))), (11, .x (.one (.vw 152))), (12, .x (.one (.p (pi m))))], mkH [(104, .var [.p (.sl 1 (List.map encI y3.Counts))]), (152, .arr 1 (List.map encI x_.2))]⟩) ?hylaw35_BoundaryGrades_j4 ?hxlaw35_BoundaryGrades_j4
            case hylaw35_BoundaryGrades_j4 =>
              rintro ⟨last1, w3⟩ H1
              try dsimp only at H1 ⊢
              unfold law35_BoundaryGrades_j4 at H1
              refine lok_rl E0 (⟨118, mkS [(4, .x (.one (.ptr 104 0))), (5, .x (.one (.p (pi (IntKind.i64.wrap ((y3.Counts.length : Int) - (1 : Int))))))), (6, .x (.one (.p (.sl 1 (List.map encI y5))))), (7, .x (.one (.p (.sl 1 (List.map encI y7))))), (9, .x (.one (.p (pi (0 : Int))))), (10, .x (.one (.p (pi last1)))), (11, .x (.one (.vw 152))), (12, .x (.one (.p (pi (IntKind.i64.wrap (m + (1 : Int)))))))], mkH [(104, .var [.p (.sl 1 (List.map encI y3.Counts))]), (152, .arr 1 (List.map encI w3))]⟩) ?_
              try simp only [thenL, blockL, ↓reduceIte, reduceCtorEq]
              exact ⟨(last1, (IntKind.i64.wrap (m + (1 : Int))), w3), (Option.some.inj H1).symm, imp_au⟩
            case hxlaw35_BoundaryGrades_j4 =>
              refine lok_block ?_
              replace H1 := bind_some H1
              obtain ⟨y10, h_13, H1⟩ := H1
              refine lok_rt (Env.of E0 [⟨some 60, 14, [.one (.p (.sl 1 (List.map encI y5))), .one (.p (pi m))], [], [.one (.p (pi y10))], [], True, fun _ => ok_boundary_Grade y5 m y10 h_13⟩]) (⟨118, mkS [(4, .x (.one (.ptr 104 0))), (5, .x (.one (.p (pi (IntKind.i64.wrap ((y3.Counts.length : Int) - (1 : Int))))))), (6, .x (.one (.p (.sl 1 (List.map encI y5))))), (7, .x (.one (.p (.sl 1 (List.map encI y7))))), (9, .x (.one (.p (pi (0 : Int))))), (10, .x (.one (.p (pi last)))), (11, .x (.one (.vw 152))), (12, .x (.one (.p (pi m)))), (13, .x (.one (.p (pi y10))))], mkH [(104, .var [.p (.sl 1 (List.map encI y3.Counts))]), (152, .arr 1 (List.map encI w1))]⟩) ?_
              refine lok_seq ?_
              refine lok_rt E0 (⟨118, mkS [(4, .x (.one (.ptr 104 0))), (5, .x (.one (.p (pi (IntKind.i64.wrap ((y3.Counts.length : Int) - (1 : Int))))))), (6, .x (.one (.p (.sl 1 (List.map encI y5))))), (7, .x (.one (.p (.sl 1 (List.map encI y7))))), (9, .x (.one (.p (pi (0 : Int))))), (11, .x (.one (.vw 152))), (12, .x (.one (.p (pi m)))), (13, .x (.one (.p (pi y10)))), (67, .x (.one (.p (.val (.bool ((decide (last < y10)) || (decide (y10 < (0 : Int)))))))))], mkH [(104, .var [.p (.sl 1 (List.map encI y3.Counts))]), (152, .arr 1 (List.map encI w1))]⟩) ?_
              refine lok_c ((decide (last < y10)) || (decide (y10 < (0 : Int)))) ?_ ?_
              · intro b_20
                replace H1 := cpos H1 b_20
                refine lok_rt E0 (⟨118, mkS [(2, .x (.one (.p (.val (.bool false)))))], mkH []⟩) ?_
                refine lok_ret ?_
                try simp only [thenL, blockL, ↓reduceIte, reduceCtorEq]
                have e_1 := k_1 _ (Option.some.inj H1).symm
                subst e_1
                try dsimp only at H0
                obtain rfl := Option.some.inj H0
                try simp only [thenL, blockL]
                exact fin_au _ (.inr rfl) [] (⟨118, mkS [(2, .x (.one (.p (.val (.bool false)))))], mkH []⟩) rfl rfl imp_au
              · intro b_20
                replace H1 := cneg H1 b_20
                refine lok_skip ?_
                try simp only [thenL, blockL, ↓reduceIte, reduceCtorEq]
                refine lok_join (fun x_ : Unit => law35_BoundaryGrades_j5 y3 m w1 y10 = some o_1) (fun x_ => ⟨118, mkS [(4, .x (.one (.ptr 104 0))), (5, .x (.one (.p (pi (IntKind.i64.wrap ((y3.Counts.length : Int) - (1 : Int))))))), (6, .x (.one (.p (.sl 1 (List.map encI y5))))), (7, .x (.one (.p (.sl 1 (List.map encI y7))))), (9, .x (.one (.p (pi (0 : Int))))), (11, .x (.one (.vw 152))), (12, .x (.one (.p (pi m)))), (13, .x (.one (.p (pi y10))))], mkH [(104, .var [.p (.sl 1 (List.map encI y3.Counts))]), (152, .arr 1 (List.map encI w1))]⟩) ?hylaw35_BoundaryGrades_j5 ?hxlaw35_BoundaryGrades_j5
                case hylaw35_BoundaryGrades_j5 =>
                  rintro _ H1
                  try dsimp only at H1 ⊢
                  unfold law35_BoundaryGrades_j5 at H1
                  refine lok_rt E0 (⟨118, mkS [(4, .x (.one (.ptr 104 0))), (5, .x (.one (.p (pi (IntKind.i64.wrap ((y3.Counts.length : Int) - (1 : Int))))))), (6, .x (.one (.p (.sl 1 (List.map encI y5))))), (7, .x (.one (.p (.sl 1 (List.map encI y7))))), (9, .x (.one (.p (pi (0 : Int))))), (10, .x (.one (.p (pi y10)))), (11, .x (.one (.vw 152))), (12, .x (.one (.p (pi m)))), (13, .x (.one (.p (pi y10))))], mkH [(104, .var [.p (.sl 1 (List.map encI y3.Counts))]), (152, .arr 1 (List.map encI w1))]⟩) ?_
                  replace H1 := req_some H1
                  obtain ⟨⟨q_14, q_15⟩, H1⟩ := H1
                  refine lok_dl E0 9 (⟨118, mkS [(4, .x (.one (.ptr 104 0))), (5, .x (.one (.p (pi (IntKind.i64.wrap ((y3.Counts.length : Int) - (1 : Int))))))), (6, .x (.one (.p (.sl 1 (List.map encI y5))))), (7, .x (.one (.p (.sl 1 (List.map encI y7))))), (9, .x (.one (.p (pi (0 : Int))))), (10, .x (.one (.p (pi y10)))), (11, .x (.one (.vw 152))), (12, .x (.one (.p (pi m))))], mkH [(104, .var [.p (.sl 1 (List.map encI y3.Counts))]), (152, .arr 1 (List.map encI (setI w1 y10 (IntKind.i64.wrap ((ix w1 y10) + (ix y3.Counts m))))))]⟩) (by kernel_rfl) (by kernel_rfl) ?_
                  try simp only [thenL, blockL, ↓reduceIte, reduceCtorEq]
                  exact ⟨(y10, (setI w1 y10 (IntKind.i64.wrap ((ix w1 y10) + (ix y3.Counts m))))), H1, imp_au⟩
                case hxlaw35_BoundaryGrades_j5 =>
                  refine lok_rt E0 (⟨118, mkS [(4, .x (.one (.ptr 104 0))), (5, .x (.one (.p (pi (IntKind.i64.wrap ((y3.Counts.length : Int) - (1 : Int))))))), (6, .x (.one (.p (.sl 1 (List.map encI y5))))), (7, .x (.one (.p (.sl 1 (List.map encI y7))))), (9, .x (.one (.p (pi (0 : Int))))), (11, .x (.one (.vw 152))), (12, .x (.one (.p (pi m)))), (13, .x (.one (.p (pi y10)))), (69, .x (.one (.p (pi (y5.length : Int))))), (70, .x (.one (.p (pi (0 : Int)))))], mkH [(104, .var [.p (.sl 1 (List.map encI y3.Counts))]), (152, .arr 1 (List.map encI w1))]⟩) ?_
                  refine lok_block ?_
                  replace H1 := bind_some H1
                  obtain ⟨v_16, hv_16, H1⟩ := H1
                  refine lok_iter (fun x_ => ⟨118, mkS [(4, .x (.one (.ptr 104 0))), (5, .x (.one (.p (pi (IntKind.i64.wrap ((y3.Counts.length : Int) - (1 : Int))))))), (6, .x (.one (.p (.sl 1 (List.map encI y5))))), (7, .x (.one (.p (.sl 1 (List.map encI y7))))), (9, .x (.one (.p (pi (0 : Int))))), (11, .x (.one (.vw 152))), (12, .x (.one (.p (pi m)))), (13, .x (.one (.p (pi y10)))), (69, .x (.one (.p (pi (y5.length : Int))))), (70, .x (.one (.p (pi x_))))], mkH [(104, .var [.p (.sl 1 (List.map encI y3.Counts))]), (152, .arr 1 (List.map encI w1))]⟩) hv_16 imp_au ?_
                  · rintro v1 o_2 H2 k_2
                    unfold law35_BoundaryGrades_l6 at H2
                    try dsimp only at H2 ⊢
                    refine lok_rt E0 (⟨118, mkS [(4, .x (.one (.ptr 104 0))), (5, .x (.one (.p (pi (IntKind.i64.wrap ((y3.Counts.length : Int) - (1 : Int))))))), (6, .x (.one (.p (.sl 1 (List.map encI y5))))), (7, .x (.one (.p (.sl 1 (List.map encI y7))))), (9, .x (.one (.p (pi (0 : Int))))), (11, .x (.one (.vw 152))), (12, .x (.one (.p (pi m)))), (13, .x (.one (.p (pi y10)))), (69, .x (.one (.p (pi (y5.length : Int))))), (70, .x (.one (.p (pi v1)))), (71, .x (.one (.p (.val (.bool (decide (v1 < (y5.length : Int))))))))], mkH [(104, .var [.p (.sl 1 (List.map encI y3.Counts))]), (152, .arr 1 (List.map encI w1))]⟩) ?_
                    refine lok_seq ?_
                    refine lok_c (decide (v1 < (y5.length : Int))) ?_ ?_
                    · intro b_19
                      replace H2 := cpos H2 b_19
                      refine lok_skip ?_
                      try simp only [thenL, blockL, ↓reduceIte, reduceCtorEq]
                      refine lok_seq ?_
                      refine lok_block ?_
                      refine lok_rt E0 (⟨118, mkS [(4, .x (.one (.ptr 104 0))), (5, .x (.one (.p (pi (IntKind.i64.wrap ((y3.Counts.length : Int) - (1 : Int))))))), (6, .x (.one (.p (.sl 1 (List.map encI y5))))), (7, .x (.one (.p (.sl 1 (List.map encI y7))))), (9, .x (.one (.p (pi (0 : Int))))), (11, .x (.one (.vw 152))), (12, .x (.one (.p (pi m)))), (13, .x (.one (.p (pi y10)))), (14, .x (.one (.p (pi v1)))), (69, .x (.one (.p (pi (y5.length : Int))))), (70, .x (.one (.p (pi v1))))], mkH [(104, .var [.p (.sl 1 (List.map encI y3.Counts))]), (152, .arr 1 (List.map encI w1))]⟩) ?_
                      replace H2 := req_some H2
                      obtain ⟨q_18, H2⟩ := H2
                      refine lok_rt E0 (⟨118, mkS [(4, .x (.one (.ptr 104 0))), (5, .x (.one (.p (pi (IntKind.i64.wrap ((y3.Counts.length : Int) - (1 : Int))))))), (6, .x (.one (.p (.sl 1 (List.map encI y5))))), (7, .x (.one (.p (.sl 1 (List.map encI y7))))), (9, .x (.one (.p (pi (0 : Int))))), (11, .x (.one (.vw 152))), (12, .x (.one (.p (pi m)))), (13, .x (.one (.p (pi y10)))), (69, .x (.one (.p (pi (y5.length : Int))))), (70, .x (.one (.p (pi v1)))), (82, .x (.one (.p (.val (.bool (!((decide ((ix y5 v1) ≤ m)) == (decide (y10 ≤ v1)))))))))], mkH [(104, .var [.p (.sl 1 (List.map encI y3.Counts))]), (152, .arr 1 (List.map encI w1))]⟩) ?_
                      refine lok_c (!((decide ((ix y5 v1) ≤ m)) == (decide (y10 ≤ v1)))) ?_ ?_
                      · intro b_17
                        replace H2 := cpos H2 b_17
                        refine lok_rt E0 (⟨118, mkS [(2, .x (.one (.p (.val (.bool false)))))], mkH []⟩) ?_
                        refine lok_ret ?_
                        try simp only [thenL, blockL, ↓reduceIte, reduceCtorEq]
                        have e_2 := k_2 _ (Option.some.inj H2).symm
                        subst e_2
                        try dsimp only at H1
                        try simp only [thenL, blockL, ↓reduceIte, reduceCtorEq]
                        have e_1 := k_1 _ (Option.some.inj H1).symm
                        subst e_1
                        try dsimp only at H0
                        obtain rfl := Option.some.inj H0
                        try simp only [thenL, blockL]
                        exact fin_au _ (.inr rfl) [] (⟨118, mkS [(2, .x (.one (.p (.val (.bool false)))))], mkH []⟩) rfl rfl imp_au
                      · intro b_17
                        replace H2 := cneg H2 b_17
                        refine lok_skip ?_
                        try simp only [thenL, blockL, ↓reduceIte, reduceCtorEq]
                        refine lok_rl E0 (⟨118, mkS [(4, .x (.one (.ptr 104 0))), (5, .x (.one (.p (pi (IntKind.i64.wrap ((y3.Counts.length : Int) - (1 : Int))))))), (6, .x (.one (.p (.sl 1 (List.map encI y5))))), (7, .x (.one (.p (.sl 1 (List.map encI y7))))), (9, .x (.one (.p (pi (0 : Int))))), (11, .x (.one (.vw 152))), (12, .x (.one (.p (pi m)))), (13, .x (.one (.p (pi y10)))), (69, .x (.one (.p (pi (y5.length : Int))))), (70, .x (.one (.p (pi (IntKind.i64.wrap (v1 + (1 : Int)))))))], mkH [(104, .var [.p (.sl 1 (List.map encI y3.Counts))]), (152, .arr 1 (List.map encI w1))]⟩) ?_
                        try simp only [thenL, blockL, ↓reduceIte, reduceCtorEq]
                        exact ⟨(IntKind.i64.wrap (v1 + (1 : Int))), (Option.some.inj H2).symm, imp_au⟩
                    · intro b_19
                      replace H2 := cneg H2 b_19
                      refine lok_exit ?_
                      try simp only [thenL, blockL, ↓reduceIte, reduceCtorEq]
                      have e_2 := k_2 _ (Option.some.inj H2).symm
                      subst e_2
                      try dsimp only at H1
                      try simp only [thenL, blockL, ↓reduceIte, reduceCtorEq]
                      exact ⟨(), H1, imp_au⟩
          · intro b_21
            replace H1 := cneg H1 b_21
            refine lok_exit ?_
            try simp only [thenL, blockL, ↓reduceIte, reduceCtorEq]
            have e_1 := k_1 _ (Option.some.inj H1).symm
            subst e_1
            try dsimp only at H0
            try simp only [thenL, blockL, ↓reduceIte, reduceCtorEq]
            exact ⟨w1, H0, imp_au⟩
theorem ok_law35_BoundaryInterpolates (high : Int) (low : Int) (steps : Int) (r_ : Bool) (H0 : law35_BoundaryInterpolates high low steps = some r_) : CallOK Try.prog 4 [.one (.p (.val (.int .u8 high))), .one (.p (.val (.int .u8 low))), .one (.p (.val (.int .u8 steps)))] [] [.one (.p (.val (.bool r_)))] [] := by
  refine callOK (n := 98) (rs := [.tmp 6]) (nb := 0) (V := []) Try.func4 rfl (by kernel_rfl) rfl rfl rfl rfl (Nat.le_of_ble_eq_true rfl) rfl (by decide) ?_
  unfold law35_BoundaryInterpolates at H0
  refine lok_rt E0 (⟨98, mkS [(0, .x (.one (.p (.val (.int .u8 high))))), (1, .x (.one (.p (.val (.int .u8 low))))), (2, .x (.one (.p (.val (.int .u8 steps)))))], mkH []⟩) ?_
  replace H0 := bindV_some H0
  obtain ⟨n, a_0, H0⟩ := H0
  refine lok_rtg E0 a_0 (⟨98, mkS [(0, .x (.one (.p (.val (.int .u8 high))))), (7, .x (.one (.p (pi (Int.tmod (IntKind.i64.wrap low) (100 : Int)))))), (8, .x (.one (.p (pi n))))], mkH []⟩) ?_
  replace H0 := bindV_some H0
  obtain ⟨hi, a_1, H0⟩ := H0
  refine lok_rtg E0 a_1 (⟨98, mkS [(7, .x (.one (.p (pi (Int.tmod (IntKind.i64.wrap low) (100 : Int)))))), (8, .x (.one (.p (pi n)))), (9, .x (.one (.p (pi hi))))], mkH []⟩) ?_
  replace H0 := bind_some H0
  obtain ⟨⟨y, y1⟩, h_2, H0⟩ := H0
  try dsimp only at H0
  refine lok_rt (Env.of E0 [⟨some 31, 17, [.one (.p (pi hi)), .one (.p (pi (Int.tmod (IntKind.i64.wrap low) (100 : Int)))), .one (.p (pi n))], [], [.one (.p (.sl 1 (List.map encI y))), .one (.p (pi y1))], [], True, fun _ => ok_boundary_Interpolate hi (Int.tmod (IntKind.i64.wrap low) (100 : Int)) n (y, y1) h_2⟩]) (⟨98, mkS [(7, .x (.one (.p (pi (Int.tmod (IntKind.i64.wrap low) (100 : Int)))))), (8, .x (.one (.p (pi n)))), (9, .x (.one (.p (pi hi)))), (10, .x (.one (.p (.sl 1 (List.map encI y))))), (11, .x (.one (.p (pi y1))))], mkH []⟩) ?_
  refine lok_seq ?_
  replace H0 := req_some H0
  obtain ⟨⟨q_11, q_12⟩, H0⟩ := H0
  refine lok_rt E0 (⟨98, mkS [(8, .x (.one (.p (pi n)))), (10, .x (.one (.p (.sl 1 (List.map encI y))))), (57, .x (.one (.p (.val (.bool ((((y1 != (0 : Int)) || ((y.length : Int) != (IntKind.i64.wrap (n + (1 : Int))))) || ((ix y (0 : Int)) != hi)) || ((ix y n) != (Int.tmod (IntKind.i64.wrap low) (100 : Int)))))))))], mkH []⟩) ?_
  refine lok_c ((((y1 != (0 : Int)) || ((y.length : Int) != (IntKind.i64.wrap (n + (1 : Int))))) || ((ix y (0 : Int)) != hi)) || ((ix y n) != (Int.tmod (IntKind.i64.wrap low) (100 : Int)))) ?_ ?_
  · intro b_10
    replace H0 := cpos H0 b_10
    refine lok_rt E0 (⟨98, mkS [(6, .x (.one (.p (.val (.bool false)))))], mkH []⟩) ?_
    refine lok_ret ?_
    obtain rfl := Option.some.inj H0
    try simp only [thenL, blockL]
    exact fin_au _ (.inr rfl) [] (⟨98, mkS [(6, .x (.one (.p (.val (.bool false)))))], mkH []⟩) rfl rfl imp_au
  · intro b_10
    replace H0 := cneg H0 b_10
    refine lok_skip ?_
    try simp only [thenL, blockL, ↓reduceIte, reduceCtorEq]
    refine lok_rt E0 (⟨98, mkS [(8, .x (.one (.p (pi n)))), (10, .x (.one (.p (.sl 1 (List.map encI y))))), (12, .x (.one (.p (pi (200 : Int))))), (13, .x (.one (.p (pi (0 : Int)))))], mkH []⟩) ?_
    refine lok_join (fun x_ : Int × Int => law35_BoundaryInterpolates_j1 x_.1 x_.2 = some r_) (fun x_ => ⟨98, mkS [(12, .x (.one (.p (pi x_.1)))), (13, .x (.one (.p (pi x_.2))))], mkH []⟩) ?hylaw35_BoundaryInterpolates_j1 ?hxlaw35_BoundaryInterpolates_j1
    case hylaw35_BoundaryInterpolates_j1 =>
      rintro ⟨least, most⟩ H0
      try dsimp only at H0 ⊢
      unfold law35_BoundaryInterpolates_j1 at H0
      replace H0 := req_some H0
      obtain ⟨q_3, H0⟩ := H0
      refine lok_rt (Env.of E0 [⟨some 96, 9, [], [], [.one (.p (.val (.bool ((law35_sane).getD default))))], [], (law35_sane).isSome = true, fun h => ok_law35_sane _ (isSome_get h)⟩]) (⟨98, mkS [(6, .x (.one (.p (.val (.bool (((decide ((0 : Int) ≤ least)) && (decide ((IntKind.i64.wrap (most - least)) ≤ (1 : Int)))) && ((law35_sane).getD default)))))))], mkH []⟩) ?_
      refine lok_ret ?_
      obtain rfl := Option.some.inj H0
      try simp only [thenL, blockL]
      exact fin_au _ (.inr rfl) [] (⟨98, mkS [(6, .x (.one (.p (.val (.bool (((decide ((0 : Int) ≤ least)) && (decide ((IntKind.i64.wrap (most - least)) ≤ (1 : Int)))) && ((law35_sane).getD default)))))))], mkH []⟩) rfl rfl imp_au
    case hxlaw35_BoundaryInterpolates_j1 =>
      refine lok_rt E0 (⟨98, mkS [(8, .x (.one (.p (pi n)))), (10, .x (.one (.p (.sl 1 (List.map encI y))))), (12, .x (.one (.p (pi (200 : Int))))), (13, .x (.one (.p (pi (0 : Int))))), (14, .x (.one (.p (pi (1 : Int)))))], mkH []⟩) ?_
      refine lok_block ?_
      replace H0 := bind_some H0
      obtain ⟨v_4, hv_4, H0⟩ := H0
      refine lok_iter (fun x_ => ⟨98, mkS [(8, .x (.one (.p (pi n)))), (10, .x (.one (.p (.sl 1 (List.map encI y))))), (12, .x (.one (.p (pi x_.1)))), (13, .x (.one (.p (pi x_.2.1)))), (14, .x (.one (.p (pi x_.2.2))))], mkH []⟩) hv_4 imp_au ?_
      · rintro ⟨least1, most1, i⟩ o_1 H1 k_1
        unfold law35_BoundaryInterpolates_l2 at H1
        try dsimp only at H1 ⊢
        refine lok_seq ?_
        refine lok_rt E0 (⟨98, mkS [(8, .x (.one (.p (pi n)))), (10, .x (.one (.p (.sl 1 (List.map encI y))))), (12, .x (.one (.p (pi least1)))), (13, .x (.one (.p (pi most1)))), (14, .x (.one (.p (pi i)))), (60, .x (.one (.p (.val (.bool (decide (i ≤ n)))))))], mkH []⟩) ?_
        refine lok_c (decide (i ≤ n)) ?_ ?_
        · intro b_9
          replace H1 := cpos H1 b_9
          refine lok_skip ?_
          try simp only [thenL, blockL, ↓reduceIte, reduceCtorEq]
          refine lok_seq ?_
          refine lok_block ?_
          replace H1 := req_some H1
          obtain ⟨⟨q_7, q_8⟩, H1⟩ := H1
          replace H1 := bindV_some H1
          obtain ⟨most3, a_5, H1⟩ := H1
          replace H1 := bindV_some H1
          obtain ⟨least3, a_6, H1⟩ := H1
          refine lok_dlg E0 25 (And.intro a_5 a_6) (⟨98, mkS [(8, .x (.one (.p (pi n)))), (10, .x (.one (.p (.sl 1 (List.map encI y))))), (12, .x (.one (.p (pi least3)))), (13, .x (.one (.p (pi most3)))), (14, .x (.one (.p (pi i))))], mkH []⟩) (by kernel_rfl) (by kernel_rfl) ?_
          try simp only [thenL, blockL, ↓reduceIte, reduceCtorEq]
          refine lok_rl E0 (⟨98, mkS [(8, .x (.one (.p (pi n)))), (10, .x (.one (.p (.sl 1 (List.map encI y))))), (12, .x (.one (.p (pi least3)))), (13, .x (.one (.p (pi most3)))), (14, .x (.one (.p (pi (IntKind.i64.wrap (i + (1 : Int)))))))], mkH []⟩) ?_
          try simp only [thenL, blockL, ↓reduceIte, reduceCtorEq]
          exact ⟨(least3, most3, (IntKind.i64.wrap (i + (1 : Int)))), (Option.some.inj H1).symm, imp_au⟩
        · intro b_9
          replace H1 := cneg H1 b_9
          refine lok_exit ?_
          try simp only [thenL, blockL, ↓reduceIte, reduceCtorEq]
          have e_1 := k_1 _ (Option.some.inj H1).symm
          subst e_1
          try dsimp only at H0
          try simp only [thenL, blockL, ↓reduceIte, reduceCtorEq]
          exact ⟨(least1, most1), H0, imp_au⟩
theorem ok_boundary_nearest (d : api_Distribution) (share : api_Ratio) (r_ : Int) (H0 : boundary_nearest d share = some r_) : CallOK Try.prog 38 [.agg [.p (.sl 1 (List.map encI d.Counts))], .agg [.p (pi share.Num), .p (pi share.Den)]] [] [.one (.p (pi r_))] [] := by
  refine callOK (n := 42) (rs := [.tmp 4]) (nb := 0) (V := []) Try.func38 rfl (by kernel_rfl) rfl rfl rfl rfl (Nat.le_of_ble_eq_true rfl) rfl (by decide) ?_
  unfold boundary_nearest at H0
  refine lok_rt E0 (⟨42, mkS [(2, .x (.one (.ptr 102 0))), (3, .x (.one (.ptr 103 0)))], mkH [(102, .var [.p (.sl 1 (List.map encI d.Counts))]), (103, .var [.p (pi share.Num), .p (pi share.Den)])]⟩) ?_
  replace H0 := bind_some H0
  obtain ⟨y, h_0, H0⟩ := H0
  refine lok_rt (Env.of E0 [⟨some 10, 36, [.agg [.p (.sl 1 (List.map encI d.Counts))]], [], [.one (.p (.sl 1 (List.map encI y)))], [], True, fun _ => ok_boundary_reaching d y h_0⟩]) (⟨42, mkS [(3, .x (.one (.ptr 103 0))), (5, .x (.one (.p (.sl 1 (List.map encI y)))))], mkH [(103, .var [.p (pi share.Num), .p (pi share.Den)])]⟩) ?_
  refine lok_rt E0 (⟨42, mkS [(3, .x (.one (.ptr 103 0))), (5, .x (.one (.p (.sl 1 (List.map encI y))))), (6, .x (.one (.p (pi (0 : Int)))))], mkH [(103, .var [.p (pi share.Num), .p (pi share.Den)])]⟩) ?_
  refine lok_join (fun x_ : Int => boundary_nearest_j1 x_ = some r_) (fun x_ => ⟨42, mkS [(6, .x (.one (.p (pi x_))))], mkH []⟩) ?hyboundary_nearest_j1 ?hxboundary_nearest_j1
  case hyboundary_nearest_j1 =>
    rintro best H0
    try dsimp only at H0 ⊢
    unfold boundary_nearest_j1 at H0
    refine lok_rt E0 (⟨42, mkS [(4, .x (.one (.p (pi best))))], mkH []⟩) ?_
    refine lok_ret ?_
    obtain rfl := Option.some.inj H0
    try simp only [thenL, blockL]
    exact fin_au _ (.inr rfl) [] (⟨42, mkS [(4, .x (.one (.p (pi best))))], mkH []⟩) rfl rfl imp_au
  case hxboundary_nearest_j1 =>
    refine lok_rt E0 (⟨42, mkS [(3, .x (.one (.ptr 103 0))), (5, .x (.one (.p (.sl 1 (List.map encI y))))), (6, .x (.one (.p (pi (0 : Int))))), (11, .x (.one (.p (.sl 1 (List.map encI y))))), (12, .x (.one (.p (pi (y.length : Int))))), (13, .x (.one (.p (pi (0 : Int)))))], mkH [(103, .var [.p (pi share.Num), .p (pi share.Den)])]⟩) ?_
    refine lok_block ?_
    replace H0 := bind_some H0
    obtain ⟨v_1, hv_1, H0⟩ := H0
    refine lok_iter (fun x_ => ⟨42, mkS [(3, .x (.one (.ptr 103 0))), (5, .x (.one (.p (.sl 1 (List.map encI y))))), (6, .x (.one (.p (pi x_.1)))), (11, .x (.one (.p (.sl 1 (List.map encI y))))), (12, .x (.one (.p (pi (y.length : Int))))), (13, .x (.one (.p (pi x_.2))))], mkH [(103, .var [.p (pi share.Num), .p (pi share.Den)])]⟩) hv_1 imp_au ?_
    · rintro ⟨best1, v⟩ o_1 H1 k_1
      unfold boundary_nearest_l3 at H1
      try dsimp only at H1 ⊢
      refine lok_rt E0 (⟨42, mkS [(3, .x (.one (.ptr 103 0))), (5, .x (.one (.p (.sl 1 (List.map encI y))))), (6, .x (.one (.p (pi best1)))), (11, .x (.one (.p (.sl 1 (List.map encI y))))), (12, .x (.one (.p (pi (y.length : Int))))), (13, .x (.one (.p (pi v)))), (14, .x (.one (.p (.val (.bool (decide (v < (y.length : Int))))))))], mkH [(103, .var [.p (pi share.Num), .p (pi share.Den)])]⟩) ?_
      refine lok_seq ?_
      refine lok_c (decide (v < (y.length : Int))) ?_ ?_
      · intro b_8
        replace H1 := cpos H1 b_8
        refine lok_skip ?_
        try simp only [thenL, blockL, ↓reduceIte, reduceCtorEq]
        refine lok_join (fun x_ : Int => boundary_nearest_j2 v x_ = some o_1) (fun x_ => ⟨42, mkS [(3, .x (.one (.ptr 103 0))), (5, .x (.one (.p (.sl 1 (List.map encI y))))), (6, .x (.one (.p (pi x_)))), (11, .x (.one (.p (.sl 1 (List.map encI y))))), (12, .x (.one (.p (pi (y.length : Int))))), (13, .x (.one (.p (pi v))))], mkH [(103, .var [.p (pi share.Num), .p (pi share.Den)])]⟩) ?hyboundary_nearest_j2 ?hxboundary_nearest_j2
        case hyboundary_nearest_j2 =>
          rintro best3 H1
          try dsimp only at H1 ⊢
          unfold boundary_nearest_j2 at H1
          refine lok_rl E0 (⟨42, mkS [(3, .x (.one (.ptr 103 0))), (5, .x (.one (.p (.sl 1 (List.map encI y))))), (6, .x (.one (.p (pi best3)))), (11, .x (.one (.p (.sl 1 (List.map encI y))))), (12, .x (.one (.p (pi (y.length : Int))))), (13, .x (.one (.p (pi (IntKind.i64.wrap (v + (1 : Int)))))))], mkH [(103, .var [.p (pi share.Num), .p (pi share.Den)])]⟩) ?_
          try simp only [thenL, blockL, ↓reduceIte, reduceCtorEq]
          exact ⟨(best3, (IntKind.i64.wrap (v + (1 : Int)))), (Option.some.inj H1).symm, imp_au⟩
        case hxboundary_nearest_j2 =>
          refine lok_block ?_
          replace H1 := req_some H1
          obtain ⟨q_7, H1⟩ := H1
          refine lok_rt E0 (⟨42, mkS [(3, .x (.one (.ptr 103 0))), (5, .x (.one (.p (.sl 1 (List.map encI y))))), (6, .x (.one (.p (pi best1)))), (7, .x (.one (.p (pi v)))), (8, .x (.one (.p (pi (ix y v))))), (11, .x (.one (.p (.sl 1 (List.map encI y))))), (12, .x (.one (.p (pi (y.length : Int))))), (13, .x (.one (.p (pi v))))], mkH [(103, .var [.p (pi share.Num), .p (pi share.Den)])]⟩) ?_
          replace H1 := req_some H1
          obtain ⟨⟨q_3, q_4, q_5, q_6⟩, H1⟩ := H1
          refine lok_dt (Env.of E0 [⟨some 36, 37, [.one (.p (pi (IntKind.i64.wrap ((ix y v) + (ix y best1))))), .one (.p (pi (IntKind.i64.wrap ((2 : Int) * (ix y (0 : Int)))))), .agg [.p (pi share.Num), .p (pi share.Den)]], [], [.one (.p (pi ((boundary_compareShare (IntKind.i64.wrap ((ix y v) + (ix y best1))) (IntKind.i64.wrap ((2 : Int) * (ix y (0 : Int)))) share).getD default)))], [], (boundary_compareShare (IntKind.i64.wrap ((ix y v) + (ix y best1))) (IntKind.i64.wrap ((2 : Int) * (ix y (0 : Int)))) share).isSome = true, fun h => ok_boundary_compareShare (IntKind.i64.wrap ((ix y v) + (ix y best1))) (IntKind.i64.wrap ((2 : Int) * (ix y (0 : Int)))) share _ (isSome_get h)⟩]) 18 (⟨42, mkS [(3, .x (.one (.ptr 103 0))), (5, .x (.one (.p (.sl 1 (List.map encI y))))), (6, .x (.one (.p (pi best1)))), (7, .x (.one (.p (pi v)))), (11, .x (.one (.p (.sl 1 (List.map encI y))))), (12, .x (.one (.p (pi (y.length : Int))))), (13, .x (.one (.p (pi v)))), (38, .x (.one (.p (.val (.bool ((decide ((ix y v) < (ix y best1))) && (decide ((0 : Int) < ((boundary_compareShare (IntKind.i64.wrap ((ix y v) + (ix y best1))) (IntKind.i64.wrap ((2 : Int) * (ix y (0 : Int)))) share).getD default)))))))))], mkH [(103, .var [.p (pi share.Num), .p (pi share.Den)])]⟩) (by kernel_rfl) (by kernel_rfl) ?_
          refine lok_c ((decide ((ix y v) < (ix y best1))) && (decide ((0 : Int) < ((boundary_compareShare (IntKind.i64.wrap ((ix y v) + (ix y best1))) (IntKind.i64.wrap ((2 : Int) * (ix y (0 : Int)))) share).getD default)))) ?_ ?_
          · intro b_2
            replace H1 := cpos H1 b_2
            refine lok_rl E0 (⟨42, mkS [(3, .x (.one (.ptr 103 0))), (5, .x (.one (.p (.sl 1 (List.map encI y))))), (6, .x (.one (.p (pi v)))), (11, .x (.one (.p (.sl 1 (List.map encI y))))), (12, .x (.one (.p (pi (y.length : Int))))), (13, .x (.one (.p (pi v))))], mkH [(103, .var [.p (pi share.Num), .p (pi share.Den)])]⟩) ?_
            try simp only [thenL, blockL, ↓reduceIte, reduceCtorEq]
            exact ⟨v, H1, imp_au⟩
          · intro b_2
            replace H1 := cneg H1 b_2
            refine lok_skip ?_
            try simp only [thenL, blockL, ↓reduceIte, reduceCtorEq]
            exact ⟨best1, H1, imp_au⟩
      · intro b_8
        replace H1 := cneg H1 b_8
        refine lok_exit ?_
        try simp only [thenL, blockL, ↓reduceIte, reduceCtorEq]
        have e_1 := k_1 _ (Option.some.inj H1).symm
        subst e_1
        try dsimp only at H0
        try simp only [thenL, blockL, ↓reduceIte, reduceCtorEq]
        exact ⟨best1, H0, imp_au⟩
theorem ok_boundary_Reference (d : api_Distribution) (reference : api_Distribution) (b : List Int) (r_ : (List Int) × Int) (H0 : boundary_Reference d reference b = some r_) : CallOK Try.prog 24 [.agg [.p (.sl 1 (List.map encI d.Counts))], .agg [.p (.sl 1 (List.map encI reference.Counts))], .one (.p (.sl 1 (List.map encI b)))] [] [.one (.p (.sl 1 (List.map encI r_.1))), .one (.p (pi r_.2))] [] := by
  refine callOK (n := 87) (rs := [.tmp 6, .tmp 7]) (nb := 0) (V := []) Try.func24 rfl (by kernel_rfl) rfl rfl rfl rfl (Nat.le_of_ble_eq_true rfl) rfl (by decide) ?_
  unfold boundary_Reference at H0
  refine lok_rt E0 (⟨87, mkS [(2, .x (.one (.p (.sl 1 (List.map encI b))))), (3, .x (.one (.ptr 103 0))), (4, .x (.one (.ptr 104 0)))], mkH [(103, .var [.p (.sl 1 (List.map encI d.Counts))]), (104, .var [.p (.sl 1 (List.map encI reference.Counts))])]⟩) ?_
  refine lok_seq ?_
  replace H0 := bind_some H0
  obtain ⟨y, h_0, H0⟩ := H0
  replace H0 := req_some H0
  obtain ⟨q_23, H0⟩ := H0
  refine lok_rt (Env.of E0 [⟨some 16, 31, [.agg [.p (.sl 1 (List.map encI d.Counts))]], [], [.one (.p (.val (.bool y)))], [], True, fun _ => ok_distribution_Valid d y h_0⟩,
      ⟨some 20, 31, [.agg [.p (.sl 1 (List.map encI reference.Counts))]], [], [.one (.p (.val (.bool ((distribution_Valid reference).getD default))))], [], (distribution_Valid reference).isSome = true, fun h => ok_distribution_Valid reference _ (isSome_get h)⟩]) (⟨87, mkS [(2, .x (.one (.p (.sl 1 (List.map encI b))))), (3, .x (.one (.ptr 103 0))), (4, .x (.one (.ptr 104 0))), (22, .x (.one (.p (.val (.bool ((!y) || (!((distribution_Valid reference).getD default))))))))], mkH [(103, .var [.p (.sl 1 (List.map encI d.Counts))]), (104, .var [.p (.sl 1 (List.map encI reference.Counts))])]⟩) ?_
  refine lok_c ((!y) || (!((distribution_Valid reference).getD default))) ?_ ?_
  · intro b_22
    replace H0 := cpos H0 b_22
    refine lok_rt E0 (⟨87, mkS [(6, .x (.one (.vw 106))), (7, .x (.one (.p (pi (1 : Int)))))], mkH [(106, .arr 1 (List.map encI ([] : List Int)))]⟩) ?_
    refine lok_ret ?_
    obtain rfl := Option.some.inj H0
    try simp only [thenL, blockL]
    exact fin_au _ (.inr rfl) [] (⟨87, mkS [(6, .x (.one (.p (.sl 1 (List.map encI ([] : List Int)))))), (7, .x (.one (.p (pi (1 : Int)))))], mkH []⟩) rfl rfl (Imp.trans (imp_frz 106 1 (List.map encI ([] : List Int))) imp_au)
  · intro b_22
    replace H0 := cneg H0 b_22
    refine lok_skip ?_
    try simp only [thenL, blockL, ↓reduceIte, reduceCtorEq]
    refine lok_seq ?_
    replace H0 := bind_some H0
    obtain ⟨y1, h_1, H0⟩ := H0
    replace H0 := req_some H0
    obtain ⟨q_21, H0⟩ := H0
    refine lok_rt (Env.of E0 [⟨some 24, 40, [.agg [.p (.sl 1 (List.map encI d.Counts))]], [], [.one (.p (pi y1))], [], True, fun _ => ok_distribution_Count d y1 h_1⟩,
      ⟨some 28, 40, [.agg [.p (.sl 1 (List.map encI reference.Counts))]], [], [.one (.p (pi ((distribution_Count reference).getD default)))], [], (distribution_Count reference).isSome = true, fun h => ok_distribution_Count reference _ (isSome_get h)⟩]) (⟨87, mkS [(2, .x (.one (.p (.sl 1 (List.map encI b))))), (3, .x (.one (.ptr 103 0))), (4, .x (.one (.ptr 104 0))), (30, .x (.one (.p (.val (.bool ((y1 == (0 : Int)) || (((distribution_Count reference).getD default) == (0 : Int))))))))], mkH [(103, .var [.p (.sl 1 (List.map encI d.Counts))]), (104, .var [.p (.sl 1 (List.map encI reference.Counts))])]⟩) ?_
    refine lok_c ((y1 == (0 : Int)) || (((distribution_Count reference).getD default) == (0 : Int))) ?_ ?_
    · intro b_20
      replace H0 := cpos H0 b_20
      refine lok_rt E0 (⟨87, mkS [(6, .x (.one (.vw 106))), (7, .x (.one (.p (pi (10 : Int)))))], mkH [(106, .arr 1 (List.map encI ([] : List Int)))]⟩) ?_
      refine lok_ret ?_
      obtain rfl := Option.some.inj H0
      try simp only [thenL, blockL]
      exact fin_au _ (.inr rfl) [] (⟨87, mkS [(6, .x (.one (.p (.sl 1 (List.map encI ([] : List Int)))))), (7, .x (.one (.p (pi (10 : Int)))))], mkH []⟩) rfl rfl (Imp.trans (imp_frz 106 1 (List.map encI ([] : List Int))) imp_au)
    · intro b_20
      replace H0 := cneg H0 b_20
      refine lok_skip ?_
      try simp only [thenL, blockL, ↓reduceIte, reduceCtorEq]
      refine lok_seq ?_
      replace H0 := bind_some H0
      obtain ⟨y2, h_2, H0⟩ := H0
      replace H0 := bind_some H0
      obtain ⟨y3, h_3, H0⟩ := H0
      refine lok_rt (Env.of E0 [⟨some 33, 32, [.agg [.p (.sl 1 (List.map encI reference.Counts))]], [], [.one (.p (pi y2))], [], True, fun _ => ok_boundary_greatest reference y2 h_2⟩,
      ⟨some 34, 27, [.one (.p (.sl 1 (List.map encI b))), .one (.p (pi y2))], [], [.one (.p (pi y3))], [], True, fun _ => ok_boundary_Check b y2 y3 h_3⟩]) (⟨87, mkS [(2, .x (.one (.p (.sl 1 (List.map encI b))))), (3, .x (.one (.ptr 103 0))), (4, .x (.one (.ptr 104 0))), (8, .x (.one (.p (pi y3))))], mkH [(103, .var [.p (.sl 1 (List.map encI d.Counts))]), (104, .var [.p (.sl 1 (List.map encI reference.Counts))])]⟩) ?_
      refine lok_rt E0 (⟨87, mkS [(2, .x (.one (.p (.sl 1 (List.map encI b))))), (3, .x (.one (.ptr 103 0))), (4, .x (.one (.ptr 104 0))), (8, .x (.one (.p (pi y3)))), (36, .x (.one (.p (.val (.bool (y3 != (0 : Int)))))))], mkH [(103, .var [.p (.sl 1 (List.map encI d.Counts))]), (104, .var [.p (.sl 1 (List.map encI reference.Counts))])]⟩) ?_
      refine lok_c (y3 != (0 : Int)) ?_ ?_
      · intro b_19
        replace H0 := cpos H0 b_19
        refine lok_rt E0 (⟨87, mkS [(6, .x (.one (.vw 106))), (7, .x (.one (.p (pi y3))))], mkH [(106, .arr 1 (List.map encI ([] : List Int)))]⟩) ?_
        refine lok_ret ?_
        obtain rfl := Option.some.inj H0
        try simp only [thenL, blockL]
        exact fin_au _ (.inr rfl) [] (⟨87, mkS [(6, .x (.one (.p (.sl 1 (List.map encI ([] : List Int)))))), (7, .x (.one (.p (pi y3))))], mkH []⟩) rfl rfl (Imp.trans (imp_frz 106 1 (List.map encI ([] : List Int))) imp_au)
      · intro b_19
        replace H0 := cneg H0 b_19
        refine lok_skip ?_
        try simp only [thenL, blockL, ↓reduceIte, reduceCtorEq]
        replace H0 := bind_some H0
        obtain ⟨y4, h_4, H0⟩ := H0
        refine lok_rt (Env.of E0 [⟨some 39, 36, [.agg [.p (.sl 1 (List.map encI reference.Counts))]], [], [.one (.p (.sl 1 (List.map encI y4)))], [], True, fun _ => ok_boundary_reaching reference y4 h_4⟩]) (⟨87, mkS [(2, .x (.one (.p (.sl 1 (List.map encI b))))), (3, .x (.one (.ptr 103 0))), (9, .x (.one (.p (.sl 1 (List.map encI y4)))))], mkH [(103, .var [.p (.sl 1 (List.map encI d.Counts))])]⟩) ?_
        replace H0 := req_some H0
        obtain ⟨q_18, H0⟩ := H0
        refine lok_rt E0 (⟨87, mkS [(2, .x (.one (.p (.sl 1 (List.map encI b))))), (3, .x (.one (.ptr 103 0))), (9, .x (.one (.p (.sl 1 (List.map encI y4))))), (10, .x (.one (.vw 142)))], mkH [(103, .var [.p (.sl 1 (List.map encI d.Counts))]), (142, .arr 1 (List.map encI (rep (b.length : Int) (0 : Int))))]⟩) ?_
        refine lok_join (fun x_ : (List Int) => boundary_Reference_j1 x_ = some r_) (fun x_ => ⟨87, mkS [(10, .x (.one (.vw 142)))], mkH [(142, .arr 1 (List.map encI x_))]⟩) ?hyboundary_Reference_j1 ?hxboundary_Reference_j1
        case hyboundary_Reference_j1 =>
          rintro w H0
          try dsimp only at H0 ⊢
          unfold boundary_Reference_j1 at H0
          refine lok_rt E0 (⟨87, mkS [(6, .x (.one (.vw 142))), (7, .x (.one (.p (pi (0 : Int)))))], mkH [(142, .arr 1 (List.map encI w))]⟩) ?_
          refine lok_ret ?_
          obtain rfl := Option.some.inj H0
          try simp only [thenL, blockL]
          exact fin_au _ (.inr rfl) [] (⟨87, mkS [(6, .x (.one (.p (.sl 1 (List.map encI w))))), (7, .x (.one (.p (pi (0 : Int)))))], mkH []⟩) rfl rfl (Imp.trans (imp_frz 142 1 (List.map encI w)) imp_au)
        case hxboundary_Reference_j1 =>
          refine lok_rt E0 (⟨87, mkS [(3, .x (.one (.ptr 103 0))), (9, .x (.one (.p (.sl 1 (List.map encI y4))))), (10, .x (.one (.vw 142))), (43, .x (.one (.p (.sl 1 (List.map encI b))))), (44, .x (.one (.p (pi (b.length : Int))))), (45, .x (.one (.p (pi (0 : Int)))))], mkH [(103, .var [.p (.sl 1 (List.map encI d.Counts))]), (142, .arr 1 (List.map encI (rep (b.length : Int) (0 : Int))))]⟩) ?_
          refine lok_block ?_
          replace H0 := bind_some H0
          obtain ⟨v_5, hv_5, H0⟩ := H0
          refine lok_iter (fun x_ => ⟨87, mkS [(3, .x (.one (.ptr 103 0))), (9, .x (.one (.p (.sl 1 (List.map encI y4))))), (10, .x (.one (.vw 142))), (43, .x (.one (.p (.sl 1 (List.map encI b))))), (44, .x (.one (.p (pi (b.length : Int))))), (45, .x (.one (.p (pi x_.1))))], mkH [(103, .var [.p (.sl 1 (List.map encI d.Counts))]), (142, .arr 1 (List.map encI x_.2))]⟩) hv_5 imp_au ?_
          · rintro ⟨v, w1⟩ o_1 H1 k_1
            unfold boundary_Reference_l3 at H1
            try dsimp only at H1 ⊢
            refine lok_rt E0 (⟨87, mkS [(3, .x (.one (.ptr 103 0))), (9, .x (.one (.p (.sl 1 (List.map encI y4))))), (10, .x (.one (.vw 142))), (43, .x (.one (.p (.sl 1 (List.map encI b))))), (44, .x (.one (.p (pi (b.length : Int))))), (45, .x (.one (.p (pi v)))), (46, .x (.one (.p (.val (.bool (decide (v < (b.length : Int))))))))], mkH [(103, .var [.p (.sl 1 (List.map encI d.Counts))]), (142, .arr 1 (List.map encI w1))]⟩) ?_
            refine lok_seq ?_
            refine lok_c (decide (v < (b.length : Int))) ?_ ?_
            · intro b_17
              replace H1 := cpos H1 b_17
              refine lok_skip ?_
              try simp only [thenL, blockL, ↓reduceIte, reduceCtorEq]
              refine lok_join (fun x_ : (List Int) => boundary_Reference_j2 v x_ = some o_1) (fun x_ => ⟨87, mkS [(3, .x (.one (.ptr 103 0))), (9, .x (.one (.p (.sl 1 (List.map encI y4))))), (10, .x (.one (.vw 142))), (43, .x (.one (.p (.sl 1 (List.map encI b))))), (44, .x (.one (.p (pi (b.length : Int))))), (45, .x (.one (.p (pi v))))], mkH [(103, .var [.p (.sl 1 (List.map encI d.Counts))]), (142, .arr 1 (List.map encI x_))]⟩) ?hyboundary_Reference_j2 ?hxboundary_Reference_j2
              case hyboundary_Reference_j2 =>
                rintro w3 H1
                try dsimp only at H1 ⊢
                unfold boundary_Reference_j2 at H1
                refine lok_rl E0 (⟨87, mkS [(3, .x (.one (.ptr 103 0))), (9, .x (.one (.p (.sl 1 (List.map encI y4))))), (10, .x (.one (.vw 142))), (43, .x (.one (.p (.sl 1 (List.map encI b))))), (44, .x (.one (.p (pi (b.length : Int))))), (45, .x (.one (.p (pi (IntKind.i64.wrap (v + (1 : Int)))))))], mkH [(103, .var [.p (.sl 1 (List.map encI d.Counts))]), (142, .arr 1 (List.map encI w3))]⟩) ?_
                try simp only [thenL, blockL, ↓reduceIte, reduceCtorEq]
                exact ⟨((IntKind.i64.wrap (v + (1 : Int))), w3), (Option.some.inj H1).symm, imp_au⟩
              case hxboundary_Reference_j2 =>
                refine lok_block ?_
                replace H1 := req_some H1
                obtain ⟨q_16, H1⟩ := H1
                refine lok_rt E0 (⟨87, mkS [(3, .x (.one (.ptr 103 0))), (9, .x (.one (.p (.sl 1 (List.map encI y4))))), (10, .x (.one (.vw 142))), (11, .x (.one (.p (pi v)))), (12, .x (.one (.p (pi (ix b v))))), (43, .x (.one (.p (.sl 1 (List.map encI b))))), (44, .x (.one (.p (pi (b.length : Int))))), (45, .x (.one (.p (pi v))))], mkH [(103, .var [.p (.sl 1 (List.map encI d.Counts))]), (142, .arr 1 (List.map encI w1))]⟩) ?_
                replace H1 := req_some H1
                obtain ⟨⟨q_14, q_15⟩, H1⟩ := H1
                replace H1 := bind_some H1
                obtain ⟨⟨y5, y6⟩, h_6, H1⟩ := H1
                try dsimp only at H1
                refine lok_et (Env.of E0 [⟨some 58, 41, [.one (.p (pi (ix y4 (ix b v)))), .one (.p (pi (ix y4 (0 : Int))))], [], [.agg [.p (pi y5.Num), .p (pi y5.Den)], .one (.p (pi y6))], [], True, fun _ => ok_ratio_New (ix y4 (ix b v)) (ix y4 (0 : Int)) (y5, y6) h_6⟩]) 87 [⟨[(9, .x (.one (.p (.sl 1 (List.map encI y4)))))], [], [(51, .x (.one (.p (.sl 1 (List.map encI y4)))))], [], none⟩,
      ⟨[(12, .x (.one (.p (pi (ix b v)))))], [], [(52, .x (.one (.p (pi (ix b v)))))], [], none⟩,
      ⟨[(51, .x (.one (.p (.sl 1 (List.map encI y4))))), (52, .x (.one (.p (pi (ix b v)))))], [], [(53, .x (.one (.ep [pi (ix y4 (ix b v))])))], [], none⟩,
      ⟨[(53, .x (.one (.ep [pi (ix y4 (ix b v))])))], [], [(54, .x (.one (.p (pi (ix y4 (ix b v))))))], [], none⟩,
      ⟨[(9, .x (.one (.p (.sl 1 (List.map encI y4)))))], [], [(55, .x (.one (.p (.sl 1 (List.map encI y4)))))], [], none⟩,
      ⟨[(55, .x (.one (.p (.sl 1 (List.map encI y4)))))], [], [(56, .x (.one (.ep [pi (ix y4 (0 : Int))])))], [], none⟩,
      ⟨[(56, .x (.one (.ep [pi (ix y4 (0 : Int))])))], [], [(57, .x (.one (.p (pi (ix y4 (0 : Int))))))], [], none⟩,
      ⟨[(54, .x (.one (.p (pi (ix y4 (ix b v)))))), (57, .x (.one (.p (pi (ix y4 (0 : Int))))))], [], [(58, .tup [.agg [.p (pi y5.Num), .p (pi y5.Den)], .one (.p (pi y6))])], [], none⟩,
      ⟨[(58, .tup [.agg [.p (pi y5.Num), .p (pi y5.Den)], .one (.p (pi y6))])], [], [(50, .tup [.agg [.p (pi y5.Num), .p (pi y5.Den)], .one (.p (pi y6))])], [], none⟩,
      ⟨[(50, .tup [.agg [.p (pi y5.Num), .p (pi y5.Den)], .one (.p (pi y6))])], [], [(59, .x (.agg [.p (pi y5.Num), .p (pi y5.Den)]))], [], none⟩,
      ⟨[(50, .tup [.agg [.p (pi y5.Num), .p (pi y5.Den)], .one (.p (pi y6))])], [], [(60, .x (.one (.p (pi y6))))], [], none⟩,
      ⟨[], [(113, none)], [(13, .x (.one (.ptr 113 0)))], [(113, some (.var [.p (pi (0 : Int)), .p (pi (0 : Int))]))], some 113⟩,
      ⟨[(13, .x (.one (.ptr 113 0))), (59, .x (.agg [.p (pi y5.Num), .p (pi y5.Den)]))], [(113, some (.var [.p (pi (0 : Int)), .p (pi (0 : Int))]))], [], [(113, some (.var [.p (pi y5.Num), .p (pi y5.Den)]))], none⟩] (⟨87, mkS [(3, .x (.one (.ptr 103 0))), (9, .x (.one (.p (.sl 1 (List.map encI y4))))), (10, .x (.one (.vw 142))), (11, .x (.one (.p (pi v)))), (13, .x (.one (.ptr 113 0))), (14, .x (.one (.p (pi y6)))), (43, .x (.one (.p (.sl 1 (List.map encI b))))), (44, .x (.one (.p (pi (b.length : Int))))), (45, .x (.one (.p (pi v))))], mkH [(103, .var [.p (.sl 1 (List.map encI d.Counts))]), (113, .var [.p (pi y5.Num), .p (pi y5.Den)]), (142, .arr 1 (List.map encI w1))]⟩) (by kernel_rfl) (by kernel_rfl) (by kernel_rfl) rfl rfl rfl ?_
                refine lok_seq ?_
                refine lok_rt E0 (⟨87, mkS [(3, .x (.one (.ptr 103 0))), (9, .x (.one (.p (.sl 1 (List.map encI y4))))), (10, .x (.one (.vw 142))), (11, .x (.one (.p (pi v)))), (13, .x (.one (.ptr 113 0))), (14, .x (.one (.p (pi y6)))), (43, .x (.one (.p (.sl 1 (List.map encI b))))), (44, .x (.one (.p (pi (b.length : Int))))), (45, .x (.one (.p (pi v)))), (62, .x (.one (.p (.val (.bool (y6 != (0 : Int)))))))], mkH [(103, .var [.p (.sl 1 (List.map encI d.Counts))]), (113, .var [.p (pi y5.Num), .p (pi y5.Den)]), (142, .arr 1 (List.map encI w1))]⟩) ?_
                refine lok_c (y6 != (0 : Int)) ?_ ?_
                · intro b_13
                  replace H1 := cpos H1 b_13
                  refine lok_rt E0 (⟨87, mkS [(6, .x (.one (.vw 106))), (7, .x (.one (.p (pi y6))))], mkH [(106, .arr 1 (List.map encI ([] : List Int)))]⟩) ?_
                  refine lok_ret ?_
                  try simp only [thenL, blockL, ↓reduceIte, reduceCtorEq]
                  have e_1 := k_1 _ (Option.some.inj H1).symm
                  subst e_1
                  try dsimp only at H0
                  obtain rfl := Option.some.inj H0
                  try simp only [thenL, blockL]
                  exact fin_au _ (.inr rfl) [] (⟨87, mkS [(6, .x (.one (.p (.sl 1 (List.map encI ([] : List Int)))))), (7, .x (.one (.p (pi y6))))], mkH []⟩) rfl rfl (Imp.trans (imp_frz 106 1 (List.map encI ([] : List Int))) imp_au)
                · intro b_13
                  replace H1 := cneg H1 b_13
                  refine lok_skip ?_
                  try simp only [thenL, blockL, ↓reduceIte, reduceCtorEq]
                  replace H1 := bind_some H1
                  obtain ⟨y7, h_7, H1⟩ := H1
                  replace H1 := req_some H1
                  obtain ⟨q_12, H1⟩ := H1
                  refine lok_rt (Env.of E0 [⟨some 68, 38, [.agg [.p (.sl 1 (List.map encI d.Counts))], .agg [.p (pi y5.Num), .p (pi y5.Den)]], [], [.one (.p (pi y7))], [], True, fun _ => ok_boundary_nearest d y5 y7 h_7⟩]) (⟨87, mkS [(3, .x (.one (.ptr 103 0))), (9, .x (.one (.p (.sl 1 (List.map encI y4))))), (10, .x (.one (.vw 142))), (11, .x (.one (.p (pi v)))), (43, .x (.one (.p (.sl 1 (List.map encI b))))), (44, .x (.one (.p (pi (b.length : Int))))), (45, .x (.one (.p (pi v))))], mkH [(103, .var [.p (.sl 1 (List.map encI d.Counts))]), (142, .arr 1 (List.map encI (setI w1 v y7)))]⟩) ?_
                  refine lok_rt E0 (⟨87, mkS [(3, .x (.one (.ptr 103 0))), (9, .x (.one (.p (.sl 1 (List.map encI y4))))), (10, .x (.one (.vw 142))), (11, .x (.one (.p (pi v)))), (43, .x (.one (.p (.sl 1 (List.map encI b))))), (44, .x (.one (.p (pi (b.length : Int))))), (45, .x (.one (.p (pi v)))), (71, .x (.one (.p (.val (.bool (decide ((0 : Int) < v)))))))], mkH [(103, .var [.p (.sl 1 (List.map encI d.Counts))]), (142, .arr 1 (List.map encI (setI w1 v y7)))]⟩) ?_
                  refine lok_c (decide ((0 : Int) < v)) ?_ ?_
                  · intro b_11
                    replace H1 := cpos H1 b_11
                    replace H1 := req_some H1
                    obtain ⟨⟨q_9, q_10⟩, H1⟩ := H1
                    replace H1 := bindV_some H1
                    obtain ⟨w4, a_8, H1⟩ := H1
                    refine lok_dlg E0 12 a_8 (⟨87, mkS [(3, .x (.one (.ptr 103 0))), (9, .x (.one (.p (.sl 1 (List.map encI y4))))), (10, .x (.one (.vw 142))), (43, .x (.one (.p (.sl 1 (List.map encI b))))), (44, .x (.one (.p (pi (b.length : Int))))), (45, .x (.one (.p (pi v))))], mkH [(103, .var [.p (.sl 1 (List.map encI d.Counts))]), (142, .arr 1 (List.map encI w4))]⟩) (by kernel_rfl) (by kernel_rfl) ?_
                    try simp only [thenL, blockL, ↓reduceIte, reduceCtorEq]
                    exact ⟨w4, H1, imp_au⟩
                  · intro b_11
                    replace H1 := cneg H1 b_11
                    refine lok_skip ?_
                    try simp only [thenL, blockL, ↓reduceIte, reduceCtorEq]
                    exact ⟨(setI w1 v y7), H1, imp_au⟩
            · intro b_17
              replace H1 := cneg H1 b_17
              refine lok_exit ?_
              try simp only [thenL, blockL, ↓reduceIte, reduceCtorEq]
              have e_1 := k_1 _ (Option.some.inj H1).symm
              subst e_1
              try dsimp only at H0
              try simp only [thenL, blockL, ↓reduceIte, reduceCtorEq]
              exact ⟨w1, H0, imp_au⟩
theorem ok_law35_BoundaryReference (t : List Int) (times : Int) (r_ : Bool) (H0 : law35_BoundaryReference t times = some r_) : CallOK Try.prog 6 [.one (.p (.sl 1 (List.map encI t))), .one (.p (.val (.int .u8 times)))] [] [.one (.p (.val (.bool r_)))] [] := by
  refine callOK (n := 185) (rs := [.tmp 4]) (nb := 0) (V := []) Try.func6 rfl (by kernel_rfl) rfl rfl rfl rfl (Nat.le_of_ble_eq_true rfl) rfl (by decide) ?_
  unfold law35_BoundaryReference at H0
  refine lok_rt E0 (⟨185, mkS [(0, .x (.one (.p (.sl 1 (List.map encI t))))), (1, .x (.one (.p (.val (.int .u8 times)))))], mkH []⟩) ?_
  refine lok_seq ?_
  replace H0 := bind_some H0
  obtain ⟨y, h_0, H0⟩ := H0
  refine lok_rt (Env.of E0 [⟨some 30, 8, [.one (.p (.sl 1 (List.map encI t)))], [], [.one (.p (.val (.bool y)))], [], True, fun _ => ok_mark_Light t y h_0⟩]) (⟨185, mkS [(0, .x (.one (.p (.sl 1 (List.map encI t))))), (1, .x (.one (.p (.val (.int .u8 times))))), (31, .x (.one (.p (.val (.bool (!y))))))], mkH []⟩) ?_
  refine lok_c (!y) ?_ ?_
  · intro b_35
    replace H0 := cpos H0 b_35
    replace H0 := bind_some H0
    obtain ⟨y1, h_1, H0⟩ := H0
    refine lok_rt (Env.of E0 [⟨some 32, 9, [], [], [.one (.p (.val (.bool y1)))], [], True, fun _ => ok_law35_sane y1 h_1⟩]) (⟨185, mkS [(4, .x (.one (.p (.val (.bool y1)))))], mkH []⟩) ?_
    refine lok_ret ?_
    obtain rfl := Option.some.inj H0
    try simp only [thenL, blockL]
    exact fin_au _ (.inr rfl) [] (⟨185, mkS [(4, .x (.one (.p (.val (.bool y1)))))], mkH []⟩) rfl rfl imp_au
  · intro b_35
    replace H0 := cneg H0 b_35
    refine lok_skip ?_
    try simp only [thenL, blockL, ↓reduceIte, reduceCtorEq]
    replace H0 := bind_some H0
    obtain ⟨y2, h_2, H0⟩ := H0
    refine lok_rt (Env.of E0 [⟨some 34, 10, [.one (.p (.sl 1 (List.map encI t)))], [], [.one (.ptr 0 0)], [some (.var [.p (.sl 1 (List.map encI y2.L)), .p (pi y2.At)])], True, fun _ => ok_mark_Roll t y2 h_2⟩]) (⟨185, mkS [(1, .x (.one (.p (.val (.int .u8 times))))), (5, .x (.one (.ptr 1034 0)))], mkH [(1034, .var [.p (.sl 1 (List.map encI y2.L)), .p (pi y2.At)])]⟩) ?_
    replace H0 := bind_some H0
    obtain ⟨⟨y3, y4⟩, h_3, H0⟩ := H0
    try dsimp only at H0
    replace H0 := bind_some H0
    obtain ⟨⟨y5, y6⟩, h_4, H0⟩ := H0
    try dsimp only at H0
    refine lok_rt (Env.of E0 [⟨some 36, 11, [.one (.ptr 0 0), .one (.p (pi (9 : Int))), .one (.p (.val (.bool false)))], [.var [.p (.sl 1 (List.map encI y2.L)), .p (pi y2.At)]], [.agg [.p (.sl 1 (List.map encI y3.Counts))]], [some (.var [.p (.sl 1 (List.map encI y4.L)), .p (pi y4.At)])], True, fun _ => ok_mark_Dice_Distribution y2 (9 : Int) false (y3, y4) h_3⟩,
      ⟨some 38, 11, [.one (.ptr 0 0), .one (.p (pi (9 : Int))), .one (.p (.val (.bool false)))], [.var [.p (.sl 1 (List.map encI y4.L)), .p (pi y4.At)]], [.agg [.p (.sl 1 (List.map encI y5.Counts))]], [some (.var [.p (.sl 1 (List.map encI y6.L)), .p (pi y6.At)])], True, fun _ => ok_mark_Dice_Distribution y4 (9 : Int) false (y5, y6) h_4⟩]) (⟨185, mkS [(1, .x (.one (.p (.val (.int .u8 times))))), (5, .x (.one (.ptr 1034 0))), (6, .x (.one (.ptr 106 0))), (7, .x (.one (.ptr 107 0)))], mkH [(106, .var [.p (.sl 1 (List.map encI y3.Counts))]), (107, .var [.p (.sl 1 (List.map encI y5.Counts))]), (1034, .var [.p (.sl 1 (List.map encI y6.L)), .p (pi y6.At)])]⟩) ?_
    refine lok_seq ?_
    replace H0 := bind_some H0
    obtain ⟨y7, h_5, H0⟩ := H0
    replace H0 := req_some H0
    obtain ⟨q_34, H0⟩ := H0
    refine lok_rt (Env.of E0 [⟨some 40, 16, [.agg [.p (.sl 1 (List.map encI y3.Counts))]], [], [.one (.p (pi y7))], [], True, fun _ => ok_ref32_Count y3 y7 h_5⟩,
      ⟨some 44, 16, [.agg [.p (.sl 1 (List.map encI y5.Counts))]], [], [.one (.p (pi ((ref32_Count y5).getD default)))], [], (ref32_Count y5).isSome = true, fun h => ok_ref32_Count y5 _ (isSome_get h)⟩]) (⟨185, mkS [(1, .x (.one (.p (.val (.int .u8 times))))), (5, .x (.one (.ptr 1034 0))), (6, .x (.one (.ptr 106 0))), (7, .x (.one (.ptr 107 0))), (46, .x (.one (.p (.val (.bool ((y7 == (0 : Int)) || (((ref32_Count y5).getD default) == (0 : Int))))))))], mkH [(106, .var [.p (.sl 1 (List.map encI y3.Counts))]), (107, .var [.p (.sl 1 (List.map encI y5.Counts))]), (1034, .var [.p (.sl 1 (List.map encI y6.L)), .p (pi y6.At)])]⟩) ?_
    refine lok_c ((y7 == (0 : Int)) || (((ref32_Count y5).getD default) == (0 : Int))) ?_ ?_
    · intro b_33
      replace H0 := cpos H0 b_33
      replace H0 := bind_some H0
      obtain ⟨y8, h_6, H0⟩ := H0
      refine lok_rt (Env.of E0 [⟨some 47, 9, [], [], [.one (.p (.val (.bool y8)))], [], True, fun _ => ok_law35_sane y8 h_6⟩]) (⟨185, mkS [(4, .x (.one (.p (.val (.bool y8)))))], mkH []⟩) ?_
      refine lok_ret ?_
      obtain rfl := Option.some.inj H0
      try simp only [thenL, blockL]
      exact fin_au _ (.inr rfl) [] (⟨185, mkS [(4, .x (.one (.p (.val (.bool y8)))))], mkH []⟩) rfl rfl imp_au
    · intro b_33
      replace H0 := cneg H0 b_33
      refine lok_skip ?_
      try simp only [thenL, blockL, ↓reduceIte, reduceCtorEq]
      replace H0 := bind_some H0
      obtain ⟨⟨y9, y10⟩, h_7, H0⟩ := H0
      try dsimp only at H0
      refine lok_rt (Env.of E0 [⟨some 53, 12, [.one (.ptr 0 0), .one (.p (pi (IntKind.i64.wrap ((y5.Counts.length : Int) - (1 : Int)))))], [.var [.p (.sl 1 (List.map encI y6.L)), .p (pi y6.At)]], [.one (.p (.sl 1 (List.map encI y9)))], [some (.var [.p (.sl 1 (List.map encI y10.L)), .p (pi y10.At)])], True, fun _ => ok_mark_Dice_Bounds y6 (IntKind.i64.wrap ((y5.Counts.length : Int) - (1 : Int))) (y9, y10) h_7⟩]) (⟨185, mkS [(1, .x (.one (.p (.val (.int .u8 times))))), (6, .x (.one (.ptr 106 0))), (7, .x (.one (.ptr 107 0))), (8, .x (.one (.p (.sl 1 (List.map encI y9)))))], mkH [(106, .var [.p (.sl 1 (List.map encI y3.Counts))]), (107, .var [.p (.sl 1 (List.map encI y5.Counts))])]⟩) ?_
      replace H0 := bind_some H0
      obtain ⟨⟨y11, y12⟩, h_8, H0⟩ := H0
      try dsimp only at H0
      refine lok_rt (Env.of E0 [⟨some 58, 24, [.agg [.p (.sl 1 (List.map encI y5.Counts))], .agg [.p (.sl 1 (List.map encI y5.Counts))], .one (.p (.sl 1 (List.map encI y9)))], [], [.one (.p (.sl 1 (List.map encI y11))), .one (.p (pi y12))], [], True, fun _ => ok_boundary_Reference y5 y5 y9 (y11, y12) h_8⟩]) (⟨185, mkS [(1, .x (.one (.p (.val (.int .u8 times))))), (6, .x (.one (.ptr 106 0))), (7, .x (.one (.ptr 107 0))), (8, .x (.one (.p (.sl 1 (List.map encI y9))))), (9, .x (.one (.p (.sl 1 (List.map encI y11))))), (10, .x (.one (.p (pi y12))))], mkH [(106, .var [.p (.sl 1 (List.map encI y3.Counts))]), (107, .var [.p (.sl 1 (List.map encI y5.Counts))])]⟩) ?_
      replace H0 := bind_some H0
      obtain ⟨⟨y13, y14⟩, h_9, H0⟩ := H0
      try dsimp only at H0
      refine lok_rt (Env.of E0 [⟨some 64, 13, [.agg [.p (.sl 1 (List.map encI y5.Counts))], .one (.p (.sl 1 (List.map encI y11)))], [], [.one (.p (.sl 1 (List.map encI y13))), .one (.p (pi y14))], [], True, fun _ => ok_boundary_Tally y5 y11 (y13, y14) h_9⟩]) (⟨185, mkS [(1, .x (.one (.p (.val (.int .u8 times))))), (6, .x (.one (.ptr 106 0))), (7, .x (.one (.ptr 107 0))), (8, .x (.one (.p (.sl 1 (List.map encI y9))))), (10, .x (.one (.p (pi y12)))), (11, .x (.one (.p (.sl 1 (List.map encI y13))))), (12, .x (.one (.p (pi y14))))], mkH [(106, .var [.p (.sl 1 (List.map encI y3.Counts))]), (107, .var [.p (.sl 1 (List.map encI y5.Counts))])]⟩) ?_
      replace H0 := bind_some H0
      obtain ⟨⟨y15, y16⟩, h_10, H0⟩ := H0
      try dsimp only at H0
      refine lok_rt (Env.of E0 [⟨some 70, 13, [.agg [.p (.sl 1 (List.map encI y5.Counts))], .one (.p (.sl 1 (List.map encI y9)))], [], [.one (.p (.sl 1 (List.map encI y15))), .one (.p (pi y16))], [], True, fun _ => ok_boundary_Tally y5 y9 (y15, y16) h_10⟩]) (⟨185, mkS [(1, .x (.one (.p (.val (.int .u8 times))))), (6, .x (.one (.ptr 106 0))), (7, .x (.one (.ptr 107 0))), (8, .x (.one (.p (.sl 1 (List.map encI y9))))), (10, .x (.one (.p (pi y12)))), (11, .x (.one (.p (.sl 1 (List.map encI y13))))), (12, .x (.one (.p (pi y14)))), (13, .x (.one (.p (.sl 1 (List.map encI y15))))), (14, .x (.one (.p (pi y16))))], mkH [(106, .var [.p (.sl 1 (List.map encI y3.Counts))]), (107, .var [.p (.sl 1 (List.map encI y5.Counts))])]⟩) ?_
      replace H0 := bind_some H0
      obtain ⟨⟨y17, y18⟩, h_11, H0⟩ := H0
      try dsimp only at H0
      refine lok_rt (Env.of E0 [⟨some 77, 24, [.agg [.p (.sl 1 (List.map encI y3.Counts))], .agg [.p (.sl 1 (List.map encI y5.Counts))], .one (.p (.sl 1 (List.map encI y9)))], [], [.one (.p (.sl 1 (List.map encI y17))), .one (.p (pi y18))], [], True, fun _ => ok_boundary_Reference y3 y5 y9 (y17, y18) h_11⟩]) (⟨185, mkS [(1, .x (.one (.p (.val (.int .u8 times))))), (6, .x (.one (.ptr 106 0))), (7, .x (.one (.ptr 107 0))), (8, .x (.one (.p (.sl 1 (List.map encI y9))))), (10, .x (.one (.p (pi y12)))), (11, .x (.one (.p (.sl 1 (List.map encI y13))))), (12, .x (.one (.p (pi y14)))), (13, .x (.one (.p (.sl 1 (List.map encI y15))))), (14, .x (.one (.p (pi y16)))), (15, .x (.one (.p (.sl 1 (List.map encI y17))))), (16, .x (.one (.p (pi y18))))], mkH [(106, .var [.p (.sl 1 (List.map encI y3.Counts))]), (107, .var [.p (.sl 1 (List.map encI y5.Counts))])]⟩) ?_
      refine lok_seq ?_
      replace H0 := req_some H0
      obtain ⟨q_32, H0⟩ := H0
      refine lok_rt (Env.of E0 [⟨some 97, 15, [.one (.p (.sl 1 (List.map encI y13))), .one (.p (.sl 1 (List.map encI y15)))], [], [.one (.p (.val (.bool ((law35_same y13 y15).getD default))))], [], (law35_same y13 y15).isSome = true, fun h => ok_law35_same y13 y15 _ (isSome_get h)⟩]) (⟨185, mkS [(1, .x (.one (.p (.val (.int .u8 times))))), (6, .x (.one (.ptr 106 0))), (7, .x (.one (.ptr 107 0))), (8, .x (.one (.p (.sl 1 (List.map encI y9))))), (15, .x (.one (.p (.sl 1 (List.map encI y17))))), (99, .x (.one (.p (.val (.bool (((((y12 != (0 : Int)) || (y14 != (0 : Int))) || (y16 != (0 : Int))) || (y18 != (0 : Int))) || (!((law35_same y13 y15).getD default))))))))], mkH [(106, .var [.p (.sl 1 (List.map encI y3.Counts))]), (107, .var [.p (.sl 1 (List.map encI y5.Counts))])]⟩) ?_
      refine lok_c (((((y12 != (0 : Int)) || (y14 != (0 : Int))) || (y16 != (0 : Int))) || (y18 != (0 : Int))) || (!((law35_same y13 y15).getD default))) ?_ ?_
      · intro b_31
        replace H0 := cpos H0 b_31
        refine lok_rt E0 (⟨185, mkS [(4, .x (.one (.p (.val (.bool false)))))], mkH []⟩) ?_
        refine lok_ret ?_
        obtain rfl := Option.some.inj H0
        try simp only [thenL, blockL]
        exact fin_au _ (.inr rfl) [] (⟨185, mkS [(4, .x (.one (.p (.val (.bool false)))))], mkH []⟩) rfl rfl imp_au
      · intro b_31
        replace H0 := cneg H0 b_31
        refine lok_skip ?_
        try simp only [thenL, blockL, ↓reduceIte, reduceCtorEq]
        refine lok_join (fun x_ : Unit => law35_BoundaryReference_j5 times y3 y5 y9 y17 = some r_) (fun x_ => ⟨185, mkS [(1, .x (.one (.p (.val (.int .u8 times))))), (6, .x (.one (.ptr 106 0))), (7, .x (.one (.ptr 107 0))), (8, .x (.one (.p (.sl 1 (List.map encI y9))))), (15, .x (.one (.p (.sl 1 (List.map encI y17)))))], mkH [(106, .var [.p (.sl 1 (List.map encI y3.Counts))]), (107, .var [.p (.sl 1 (List.map encI y5.Counts))])]⟩) ?hylaw35_BoundaryReference_j5 ?hxlaw35_BoundaryReference_j5
        case hylaw35_BoundaryReference_j5 =>
          rintro _ H0
          try dsimp only at H0 ⊢
          unfold law35_BoundaryReference_j5 at H0
          replace H0 := bindV_some H0
          obtain ⟨k, a_12, H0⟩ := H0
          refine lok_rtg E0 a_12 (⟨185, mkS [(6, .x (.one (.ptr 106 0))), (7, .x (.one (.ptr 107 0))), (8, .x (.one (.p (.sl 1 (List.map encI y9))))), (15, .x (.one (.p (.sl 1 (List.map encI y17))))), (18, .x (.one (.p (pi k))))], mkH [(106, .var [.p (.sl 1 (List.map encI y3.Counts))]), (107, .var [.p (.sl 1 (List.map encI y5.Counts))])]⟩) ?_
          refine lok_rt E0 (⟨185, mkS [(6, .x (.one (.ptr 106 0))), (7, .x (.one (.ptr 107 0))), (8, .x (.one (.p (.sl 1 (List.map encI y9))))), (15, .x (.one (.p (.sl 1 (List.map encI y17))))), (18, .x (.one (.p (pi k)))), (19, .x (.one (.ptr 119 0))), (20, .x (.one (.ptr 120 0)))], mkH [(106, .var [.p (.sl 1 (List.map encI y3.Counts))]), (107, .var [.p (.sl 1 (List.map encI y5.Counts))]), (119, .var [.p .nil]), (120, .var [.p .nil])]⟩) ?_
          refine lok_join (fun x_ : (List Int) => law35_BoundaryReference_j3 y3 y5 y9 y17 k x_ = some r_) (fun x_ => ⟨185, mkS [(6, .x (.one (.ptr 106 0))), (7, .x (.one (.ptr 107 0))), (8, .x (.one (.p (.sl 1 (List.map encI y9))))), (15, .x (.one (.p (.sl 1 (List.map encI y17))))), (18, .x (.one (.p (pi k)))), (19, .x (.one (.ptr 119 0))), (20, .x (.one (.ptr 120 0)))], mkH [(106, .var [.p (.sl 1 (List.map encI y3.Counts))]), (107, .var [.p (.sl 1 (List.map encI y5.Counts))]), (119, .var [.vw 233]), (120, .var [.p .nil]), (233, .arr 1 (List.map encI x_))]⟩) ?hylaw35_BoundaryReference_j3 ?hxlaw35_BoundaryReference_j3
          case hylaw35_BoundaryReference_j3 =>
            rintro w H0
            try dsimp only at H0 ⊢
            unfold law35_BoundaryReference_j3 at H0
            refine lok_join (fun x_ : (List Int) => law35_BoundaryReference_j1 y3 y5 y9 y17 w x_ = some r_) (fun x_ => ⟨185, mkS [(6, .x (.one (.ptr 106 0))), (7, .x (.one (.ptr 107 0))), (8, .x (.one (.p (.sl 1 (List.map encI y9))))), (15, .x (.one (.p (.sl 1 (List.map encI y17))))), (19, .x (.one (.ptr 119 0))), (20, .x (.one (.ptr 120 0)))], mkH [(106, .var [.p (.sl 1 (List.map encI y3.Counts))]), (107, .var [.p (.sl 1 (List.map encI y5.Counts))]), (119, .var [.vw 233]), (120, .var [.vw 249]), (233, .arr 1 (List.map encI w)), (249, .arr 1 (List.map encI x_))]⟩) ?hylaw35_BoundaryReference_j1 ?hxlaw35_BoundaryReference_j1
            case hylaw35_BoundaryReference_j1 =>
              rintro w1 H0
              try dsimp only at H0 ⊢
              unfold law35_BoundaryReference_j1 at H0
              refine lok_imp (st' := ⟨185, mkS [(6, .x (.one (.ptr 106 0))), (7, .x (.one (.ptr 107 0))), (8, .x (.one (.p (.sl 1 (List.map encI y9))))), (15, .x (.one (.p (.sl 1 (List.map encI y17))))), (19, .x (.one (.ptr 119 0))), (20, .x (.one (.ptr 120 0)))], mkH [(106, .var [.p (.sl 1 (List.map encI y3.Counts))]), (107, .var [.p (.sl 1 (List.map encI y5.Counts))]), (119, .var [.p (.sl 1 (List.map encI w))]), (120, .var [.vw 249]), (249, .arr 1 (List.map encI w1))]⟩) (Imp.trans (imp_frz 233 1 (List.map encI w)) imp_au) ?_
              replace H0 := bind_some H0
              obtain ⟨⟨y19, y20⟩, h_13, H0⟩ := H0
              try dsimp only at H0
              refine lok_rt (Env.of E0 [⟨some 156, 24, [.agg [.p (.sl 1 (List.map encI w))], .agg [.p (.sl 1 (List.map encI y5.Counts))], .one (.p (.sl 1 (List.map encI y9)))], [], [.one (.p (.sl 1 (List.map encI y19))), .one (.p (pi y20))], [], True, fun _ => ok_boundary_Reference (api_Distribution.mk w) y5 y9 (y19, y20) h_13⟩]) (⟨185, mkS [(6, .x (.one (.ptr 106 0))), (8, .x (.one (.p (.sl 1 (List.map encI y9))))), (15, .x (.one (.p (.sl 1 (List.map encI y17))))), (20, .x (.one (.ptr 120 0))), (25, .x (.one (.p (.sl 1 (List.map encI y19))))), (26, .x (.one (.p (pi y20))))], mkH [(106, .var [.p (.sl 1 (List.map encI y3.Counts))]), (120, .var [.vw 249]), (249, .arr 1 (List.map encI w1))]⟩) ?_
              refine lok_imp (st' := ⟨185, mkS [(6, .x (.one (.ptr 106 0))), (8, .x (.one (.p (.sl 1 (List.map encI y9))))), (15, .x (.one (.p (.sl 1 (List.map encI y17))))), (20, .x (.one (.ptr 120 0))), (25, .x (.one (.p (.sl 1 (List.map encI y19))))), (26, .x (.one (.p (pi y20))))], mkH [(106, .var [.p (.sl 1 (List.map encI y3.Counts))]), (120, .var [.p (.sl 1 (List.map encI w1))])]⟩) (Imp.trans (imp_frz 249 1 (List.map encI w1)) imp_au) ?_
              replace H0 := bind_some H0
              obtain ⟨⟨y21, y22⟩, h_14, H0⟩ := H0
              try dsimp only at H0
              refine lok_rt (Env.of E0 [⟨some 163, 24, [.agg [.p (.sl 1 (List.map encI y3.Counts))], .agg [.p (.sl 1 (List.map encI w1))], .one (.p (.sl 1 (List.map encI y9)))], [], [.one (.p (.sl 1 (List.map encI y21))), .one (.p (pi y22))], [], True, fun _ => ok_boundary_Reference y3 (api_Distribution.mk w1) y9 (y21, y22) h_14⟩]) (⟨185, mkS [(15, .x (.one (.p (.sl 1 (List.map encI y17))))), (25, .x (.one (.p (.sl 1 (List.map encI y19))))), (26, .x (.one (.p (pi y20)))), (27, .x (.one (.p (.sl 1 (List.map encI y21))))), (28, .x (.one (.p (pi y22))))], mkH []⟩) ?_
              replace H0 := req_some H0
              obtain ⟨⟨q_15, q_16, q_17⟩, H0⟩ := H0
              refine lok_rt (Env.of E0 [⟨some 175, 15, [.one (.p (.sl 1 (List.map encI y19))), .one (.p (.sl 1 (List.map encI y17)))], [], [.one (.p (.val (.bool ((law35_same y19 y17).getD default))))], [], (law35_same y19 y17).isSome = true, fun h => ok_law35_same y19 y17 _ (isSome_get h)⟩,
      ⟨some 180, 15, [.one (.p (.sl 1 (List.map encI y21))), .one (.p (.sl 1 (List.map encI y17)))], [], [.one (.p (.val (.bool ((law35_same y21 y17).getD default))))], [], (law35_same y21 y17).isSome = true, fun h => ok_law35_same y21 y17 _ (isSome_get h)⟩,
      ⟨some 183, 9, [], [], [.one (.p (.val (.bool ((law35_sane).getD default))))], [], (law35_sane).isSome = true, fun h => ok_law35_sane _ (isSome_get h)⟩]) (⟨185, mkS [(4, .x (.one (.p (.val (.bool (((((y20 == (0 : Int)) && (y22 == (0 : Int))) && ((law35_same y19 y17).getD default)) && ((law35_same y21 y17).getD default)) && ((law35_sane).getD default)))))))], mkH []⟩) ?_
              refine lok_ret ?_
              obtain rfl := Option.some.inj H0
              try simp only [thenL, blockL]
              exact fin_au _ (.inr rfl) [] (⟨185, mkS [(4, .x (.one (.p (.val (.bool (((((y20 == (0 : Int)) && (y22 == (0 : Int))) && ((law35_same y19 y17).getD default)) && ((law35_same y21 y17).getD default)) && ((law35_sane).getD default)))))))], mkH []⟩) rfl rfl imp_au
            case hxlaw35_BoundaryReference_j1 =>
              refine lok_rt E0 (⟨185, mkS [(6, .x (.one (.ptr 106 0))), (7, .x (.one (.ptr 107 0))), (8, .x (.one (.p (.sl 1 (List.map encI y9))))), (15, .x (.one (.p (.sl 1 (List.map encI y17))))), (18, .x (.one (.p (pi k)))), (19, .x (.one (.ptr 119 0))), (20, .x (.one (.ptr 120 0))), (137, .x (.one (.p (.sl 1 (List.map encI y5.Counts))))), (138, .x (.one (.p (pi (y5.Counts.length : Int))))), (139, .x (.one (.p (pi (0 : Int)))))], mkH [(106, .var [.p (.sl 1 (List.map encI y3.Counts))]), (107, .var [.p (.sl 1 (List.map encI y5.Counts))]), (119, .var [.vw 233]), (120, .var [.p .nil]), (233, .arr 1 (List.map encI w))]⟩) ?_
              refine lok_block ?_
              replace H0 := bind_some H0
              obtain ⟨v_18, hv_18, H0⟩ := H0
              refine lok_iter (fun x_ => ⟨185, mkS [(6, .x (.one (.ptr 106 0))), (7, .x (.one (.ptr 107 0))), (8, .x (.one (.p (.sl 1 (List.map encI y9))))), (15, .x (.one (.p (.sl 1 (List.map encI y17))))), (18, .x (.one (.p (pi k)))), (19, .x (.one (.ptr 119 0))), (20, .x (.one (.ptr 120 0))), (137, .x (.one (.p (.sl 1 (List.map encI y5.Counts))))), (138, .x (.one (.p (pi (y5.Counts.length : Int))))), (139, .x (.one (.p (pi x_.1))))], mkH [(106, .var [.p (.sl 1 (List.map encI y3.Counts))]), (107, .var [.p (.sl 1 (List.map encI y5.Counts))]), (119, .var [.vw 233]), (120, .var [.vw 249]), (233, .arr 1 (List.map encI w)), (249, .arr 1 (List.map encI x_.2))]⟩) hv_18 imp_au ?_
              · rintro ⟨v, w2⟩ o_1 H1 k_1
                unfold law35_BoundaryReference_l2 at H1
                try dsimp only at H1 ⊢
                refine lok_rt E0 (⟨185, mkS [(6, .x (.one (.ptr 106 0))), (7, .x (.one (.ptr 107 0))), (8, .x (.one (.p (.sl 1 (List.map encI y9))))), (15, .x (.one (.p (.sl 1 (List.map encI y17))))), (18, .x (.one (.p (pi k)))), (19, .x (.one (.ptr 119 0))), (20, .x (.one (.ptr 120 0))), (137, .x (.one (.p (.sl 1 (List.map encI y5.Counts))))), (138, .x (.one (.p (pi (y5.Counts.length : Int))))), (139, .x (.one (.p (pi v)))), (140, .x (.one (.p (.val (.bool (decide (v < (y5.Counts.length : Int))))))))], mkH [(106, .var [.p (.sl 1 (List.map encI y3.Counts))]), (107, .var [.p (.sl 1 (List.map encI y5.Counts))]), (119, .var [.vw 233]), (120, .var [.vw 249]), (233, .arr 1 (List.map encI w)), (249, .arr 1 (List.map encI w2))]⟩) ?_
                refine lok_seq ?_
                refine lok_c (decide (v < (y5.Counts.length : Int))) ?_ ?_
                · intro b_21
                  replace H1 := cpos H1 b_21
                  refine lok_skip ?_
                  try simp only [thenL, blockL, ↓reduceIte, reduceCtorEq]
                  refine lok_seq ?_
                  refine lok_block ?_
                  replace H1 := req_some H1
                  obtain ⟨q_20, H1⟩ := H1
                  refine lok_rt E0 (⟨185, mkS [(6, .x (.one (.ptr 106 0))), (7, .x (.one (.ptr 107 0))), (8, .x (.one (.p (.sl 1 (List.map encI y9))))), (15, .x (.one (.p (.sl 1 (List.map encI y17))))), (18, .x (.one (.p (pi k)))), (19, .x (.one (.ptr 119 0))), (20, .x (.one (.ptr 120 0))), (24, .x (.one (.p (pi (ix y5.Counts v))))), (137, .x (.one (.p (.sl 1 (List.map encI y5.Counts))))), (138, .x (.one (.p (pi (y5.Counts.length : Int))))), (139, .x (.one (.p (pi v))))], mkH [(106, .var [.p (.sl 1 (List.map encI y3.Counts))]), (107, .var [.p (.sl 1 (List.map encI y5.Counts))]), (119, .var [.vw 233]), (120, .var [.vw 249]), (233, .arr 1 (List.map encI w)), (249, .arr 1 (List.map encI w2))]⟩) ?_
                  replace H1 := req_some H1
                  obtain ⟨q_19, H1⟩ := H1
                  refine lok_rl E0 (⟨185, mkS [(6, .x (.one (.ptr 106 0))), (7, .x (.one (.ptr 107 0))), (8, .x (.one (.p (.sl 1 (List.map encI y9))))), (15, .x (.one (.p (.sl 1 (List.map encI y17))))), (18, .x (.one (.p (pi k)))), (19, .x (.one (.ptr 119 0))), (20, .x (.one (.ptr 120 0))), (137, .x (.one (.p (.sl 1 (List.map encI y5.Counts))))), (138, .x (.one (.p (pi (y5.Counts.length : Int))))), (139, .x (.one (.p (pi v))))], mkH [(106, .var [.p (.sl 1 (List.map encI y3.Counts))]), (107, .var [.p (.sl 1 (List.map encI y5.Counts))]), (119, .var [.vw 233]), (120, .var [.vw 249]), (233, .arr 1 (List.map encI w)), (249, .arr 1 (List.map encI (w2 ++ [(IntKind.i64.wrap ((ix y5.Counts v) * k))])))]⟩) ?_
                  try simp only [thenL, blockL, ↓reduceIte, reduceCtorEq]
                  refine lok_rl E0 (⟨185, mkS [(6, .x (.one (.ptr 106 0))), (7, .x (.one (.ptr 107 0))), (8, .x (.one (.p (.sl 1 (List.map encI y9))))), (15, .x (.one (.p (.sl 1 (List.map encI y17))))), (18, .x (.one (.p (pi k)))), (19, .x (.one (.ptr 119 0))), (20, .x (.one (.ptr 120 0))), (137, .x (.one (.p (.sl 1 (List.map encI y5.Counts))))), (138, .x (.one (.p (pi (y5.Counts.length : Int))))), (139, .x (.one (.p (pi (IntKind.i64.wrap (v + (1 : Int)))))))], mkH [(106, .var [.p (.sl 1 (List.map encI y3.Counts))]), (107, .var [.p (.sl 1 (List.map encI y5.Counts))]), (119, .var [.vw 233]), (120, .var [.vw 249]), (233, .arr 1 (List.map encI w)), (249, .arr 1 (List.map encI (w2 ++ [(IntKind.i64.wrap ((ix y5.Counts v) * k))])))]⟩) ?_
                  try simp only [thenL, blockL, ↓reduceIte, reduceCtorEq]
                  exact ⟨((IntKind.i64.wrap (v + (1 : Int))), (w2 ++ [(IntKind.i64.wrap ((ix y5.Counts v) * k))])), (Option.some.inj H1).symm, imp_au⟩
                · intro b_21
                  replace H1 := cneg H1 b_21
                  refine lok_exit ?_
                  try simp only [thenL, blockL, ↓reduceIte, reduceCtorEq]
                  have e_1 := k_1 _ (Option.some.inj H1).symm
                  subst e_1
                  try dsimp only at H0
                  try simp only [thenL, blockL, ↓reduceIte, reduceCtorEq]
                  exact ⟨w2, H0, imp_au⟩
          case hxlaw35_BoundaryReference_j3 =>
            refine lok_rt E0 (⟨185, mkS [(6, .x (.one (.ptr 106 0))), (7, .x (.one (.ptr 107 0))), (8, .x (.one (.p (.sl 1 (List.map encI y9))))), (15, .x (.one (.p (.sl 1 (List.map encI y17))))), (18, .x (.one (.p (pi k)))), (19, .x (.one (.ptr 119 0))), (20, .x (.one (.ptr 120 0))), (121, .x (.one (.p (.sl 1 (List.map encI y3.Counts))))), (122, .x (.one (.p (pi (y3.Counts.length : Int))))), (123, .x (.one (.p (pi (0 : Int)))))], mkH [(106, .var [.p (.sl 1 (List.map encI y3.Counts))]), (107, .var [.p (.sl 1 (List.map encI y5.Counts))]), (119, .var [.p .nil]), (120, .var [.p .nil])]⟩) ?_
            refine lok_block ?_
            replace H0 := bind_some H0
            obtain ⟨v_22, hv_22, H0⟩ := H0
            refine lok_iter (fun x_ => ⟨185, mkS [(6, .x (.one (.ptr 106 0))), (7, .x (.one (.ptr 107 0))), (8, .x (.one (.p (.sl 1 (List.map encI y9))))), (15, .x (.one (.p (.sl 1 (List.map encI y17))))), (18, .x (.one (.p (pi k)))), (19, .x (.one (.ptr 119 0))), (20, .x (.one (.ptr 120 0))), (121, .x (.one (.p (.sl 1 (List.map encI y3.Counts))))), (122, .x (.one (.p (pi (y3.Counts.length : Int))))), (123, .x (.one (.p (pi x_.1))))], mkH [(106, .var [.p (.sl 1 (List.map encI y3.Counts))]), (107, .var [.p (.sl 1 (List.map encI y5.Counts))]), (119, .var [.vw 233]), (120, .var [.p .nil]), (233, .arr 1 (List.map encI x_.2))]⟩) hv_22 imp_au ?_
            · rintro ⟨v1, w4⟩ o_1 H1 k_1
              unfold law35_BoundaryReference_l4 at H1
              try dsimp only at H1 ⊢
              refine lok_rt E0 (⟨185, mkS [(6, .x (.one (.ptr 106 0))), (7, .x (.one (.ptr 107 0))), (8, .x (.one (.p (.sl 1 (List.map encI y9))))), (15, .x (.one (.p (.sl 1 (List.map encI y17))))), (18, .x (.one (.p (pi k)))), (19, .x (.one (.ptr 119 0))), (20, .x (.one (.ptr 120 0))), (121, .x (.one (.p (.sl 1 (List.map encI y3.Counts))))), (122, .x (.one (.p (pi (y3.Counts.length : Int))))), (123, .x (.one (.p (pi v1)))), (124, .x (.one (.p (.val (.bool (decide (v1 < (y3.Counts.length : Int))))))))], mkH [(106, .var [.p (.sl 1 (List.map encI y3.Counts))]), (107, .var [.p (.sl 1 (List.map encI y5.Counts))]), (119, .var [.vw 233]), (120, .var [.p .nil]), (233, .arr 1 (List.map encI w4))]⟩) ?_
              refine lok_seq ?_
              refine lok_c (decide (v1 < (y3.Counts.length : Int))) ?_ ?_
              · intro b_25
                replace H1 := cpos H1 b_25
                refine lok_skip ?_
                try simp only [thenL, blockL, ↓reduceIte, reduceCtorEq]
                refine lok_seq ?_
                refine lok_block ?_
                replace H1 := req_some H1
                obtain ⟨q_24, H1⟩ := H1
                refine lok_rt E0 (⟨185, mkS [(6, .x (.one (.ptr 106 0))), (7, .x (.one (.ptr 107 0))), (8, .x (.one (.p (.sl 1 (List.map encI y9))))), (15, .x (.one (.p (.sl 1 (List.map encI y17))))), (18, .x (.one (.p (pi k)))), (19, .x (.one (.ptr 119 0))), (20, .x (.one (.ptr 120 0))), (22, .x (.one (.p (pi (ix y3.Counts v1))))), (121, .x (.one (.p (.sl 1 (List.map encI y3.Counts))))), (122, .x (.one (.p (pi (y3.Counts.length : Int))))), (123, .x (.one (.p (pi v1))))], mkH [(106, .var [.p (.sl 1 (List.map encI y3.Counts))]), (107, .var [.p (.sl 1 (List.map encI y5.Counts))]), (119, .var [.vw 233]), (120, .var [.p .nil]), (233, .arr 1 (List.map encI w4))]⟩) ?_
                replace H1 := req_some H1
                obtain ⟨q_23, H1⟩ := H1
                refine lok_rl E0 (⟨185, mkS [(6, .x (.one (.ptr 106 0))), (7, .x (.one (.ptr 107 0))), (8, .x (.one (.p (.sl 1 (List.map encI y9))))), (15, .x (.one (.p (.sl 1 (List.map encI y17))))), (18, .x (.one (.p (pi k)))), (19, .x (.one (.ptr 119 0))), (20, .x (.one (.ptr 120 0))), (121, .x (.one (.p (.sl 1 (List.map encI y3.Counts))))), (122, .x (.one (.p (pi (y3.Counts.length : Int))))), (123, .x (.one (.p (pi v1))))], mkH [(106, .var [.p (.sl 1 (List.map encI y3.Counts))]), (107, .var [.p (.sl 1 (List.map encI y5.Counts))]), (119, .var [.vw 233]), (120, .var [.p .nil]), (233, .arr 1 (List.map encI (w4 ++ [(IntKind.i64.wrap ((ix y3.Counts v1) * k))])))]⟩) ?_
                try simp only [thenL, blockL, ↓reduceIte, reduceCtorEq]
                refine lok_rl E0 (⟨185, mkS [(6, .x (.one (.ptr 106 0))), (7, .x (.one (.ptr 107 0))), (8, .x (.one (.p (.sl 1 (List.map encI y9))))), (15, .x (.one (.p (.sl 1 (List.map encI y17))))), (18, .x (.one (.p (pi k)))), (19, .x (.one (.ptr 119 0))), (20, .x (.one (.ptr 120 0))), (121, .x (.one (.p (.sl 1 (List.map encI y3.Counts))))), (122, .x (.one (.p (pi (y3.Counts.length : Int))))), (123, .x (.one (.p (pi (IntKind.i64.wrap (v1 + (1 : Int)))))))], mkH [(106, .var [.p (.sl 1 (List.map encI y3.Counts))]), (107, .var [.p (.sl 1 (List.map encI y5.Counts))]), (119, .var [.vw 233]), (120, .var [.p .nil]), (233, .arr 1 (List.map encI (w4 ++ [(IntKind.i64.wrap ((ix y3.Counts v1) * k))])))]⟩) ?_
                try simp only [thenL, blockL, ↓reduceIte, reduceCtorEq]
                exact ⟨((IntKind.i64.wrap (v1 + (1 : Int))), (w4 ++ [(IntKind.i64.wrap ((ix y3.Counts v1) * k))])), (Option.some.inj H1).symm, imp_au⟩
              · intro b_25
                replace H1 := cneg H1 b_25
                refine lok_exit ?_
                try simp only [thenL, blockL, ↓reduceIte, reduceCtorEq]
                have e_1 := k_1 _ (Option.some.inj H1).symm
                subst e_1
                try dsimp only at H0
                try simp only [thenL, blockL, ↓reduceIte, reduceCtorEq]
                exact ⟨w4, H0, imp_au⟩
        case hxlaw35_BoundaryReference_j5 =>
          refine lok_rt E0 (⟨185, mkS [(1, .x (.one (.p (.val (.int .u8 times))))), (6, .x (.one (.ptr 106 0))), (7, .x (.one (.ptr 107 0))), (8, .x (.one (.p (.sl 1 (List.map encI y9))))), (15, .x (.one (.p (.sl 1 (List.map encI y17))))), (17, .x (.one (.p (pi (1 : Int)))))], mkH [(106, .var [.p (.sl 1 (List.map encI y3.Counts))]), (107, .var [.p (.sl 1 (List.map encI y5.Counts))])]⟩) ?_
          refine lok_block ?_
          replace H0 := bind_some H0
          obtain ⟨v_26, hv_26, H0⟩ := H0
          refine lok_iter (fun x_ => ⟨185, mkS [(1, .x (.one (.p (.val (.int .u8 times))))), (6, .x (.one (.ptr 106 0))), (7, .x (.one (.ptr 107 0))), (8, .x (.one (.p (.sl 1 (List.map encI y9))))), (15, .x (.one (.p (.sl 1 (List.map encI y17))))), (17, .x (.one (.p (pi x_))))], mkH [(106, .var [.p (.sl 1 (List.map encI y3.Counts))]), (107, .var [.p (.sl 1 (List.map encI y5.Counts))])]⟩) hv_26 imp_au ?_
          · rintro i o_1 H1 k_1
            unfold law35_BoundaryReference_l6 at H1
            try dsimp only at H1 ⊢
            refine lok_seq ?_
            refine lok_rt E0 (⟨185, mkS [(1, .x (.one (.p (.val (.int .u8 times))))), (6, .x (.one (.ptr 106 0))), (7, .x (.one (.ptr 107 0))), (8, .x (.one (.p (.sl 1 (List.map encI y9))))), (15, .x (.one (.p (.sl 1 (List.map encI y17))))), (17, .x (.one (.p (pi i)))), (103, .x (.one (.p (.val (.bool (decide (i < (y17.length : Int))))))))], mkH [(106, .var [.p (.sl 1 (List.map encI y3.Counts))]), (107, .var [.p (.sl 1 (List.map encI y5.Counts))])]⟩) ?_
            refine lok_c (decide (i < (y17.length : Int))) ?_ ?_
            · intro b_30
              replace H1 := cpos H1 b_30
              refine lok_skip ?_
              try simp only [thenL, blockL, ↓reduceIte, reduceCtorEq]
              refine lok_seq ?_
              refine lok_block ?_
              replace H1 := req_some H1
              obtain ⟨⟨q_28, q_29⟩, H1⟩ := H1
              refine lok_dt E0 9 (⟨185, mkS [(1, .x (.one (.p (.val (.int .u8 times))))), (6, .x (.one (.ptr 106 0))), (7, .x (.one (.ptr 107 0))), (8, .x (.one (.p (.sl 1 (List.map encI y9))))), (15, .x (.one (.p (.sl 1 (List.map encI y17))))), (17, .x (.one (.p (pi i)))), (115, .x (.one (.p (.val (.bool (decide ((ix y17 (IntKind.i64.wrap (i - (1 : Int)))) < (ix y17 i))))))))], mkH [(106, .var [.p (.sl 1 (List.map encI y3.Counts))]), (107, .var [.p (.sl 1 (List.map encI y5.Counts))])]⟩) (by kernel_rfl) (by kernel_rfl) ?_
              refine lok_c (decide ((ix y17 (IntKind.i64.wrap (i - (1 : Int)))) < (ix y17 i))) ?_ ?_
              · intro b_27
                replace H1 := cpos H1 b_27
                refine lok_rt E0 (⟨185, mkS [(4, .x (.one (.p (.val (.bool false)))))], mkH []⟩) ?_
                refine lok_ret ?_
                try simp only [thenL, blockL, ↓reduceIte, reduceCtorEq]
                have e_1 := k_1 _ (Option.some.inj H1).symm
                subst e_1
                try dsimp only at H0
                obtain rfl := Option.some.inj H0
                try simp only [thenL, blockL]
                exact fin_au _ (.inr rfl) [] (⟨185, mkS [(4, .x (.one (.p (.val (.bool false)))))], mkH []⟩) rfl rfl imp_au
              · intro b_27
                replace H1 := cneg H1 b_27
                refine lok_skip ?_
                try simp only [thenL, blockL, ↓reduceIte, reduceCtorEq]
                refine lok_rl E0 (⟨185, mkS [(1, .x (.one (.p (.val (.int .u8 times))))), (6, .x (.one (.ptr 106 0))), (7, .x (.one (.ptr 107 0))), (8, .x (.one (.p (.sl 1 (List.map encI y9))))), (15, .x (.one (.p (.sl 1 (List.map encI y17))))), (17, .x (.one (.p (pi (IntKind.i64.wrap (i + (1 : Int)))))))], mkH [(106, .var [.p (.sl 1 (List.map encI y3.Counts))]), (107, .var [.p (.sl 1 (List.map encI y5.Counts))])]⟩) ?_
                try simp only [thenL, blockL, ↓reduceIte, reduceCtorEq]
                exact ⟨(IntKind.i64.wrap (i + (1 : Int))), (Option.some.inj H1).symm, imp_au⟩
            · intro b_30
              replace H1 := cneg H1 b_30
              refine lok_exit ?_
              try simp only [thenL, blockL, ↓reduceIte, reduceCtorEq]
              have e_1 := k_1 _ (Option.some.inj H1).symm
              subst e_1
              try dsimp only at H0
              try simp only [thenL, blockL, ↓reduceIte, reduceCtorEq]
              exact ⟨(), H0, imp_au⟩
end Go.LS
