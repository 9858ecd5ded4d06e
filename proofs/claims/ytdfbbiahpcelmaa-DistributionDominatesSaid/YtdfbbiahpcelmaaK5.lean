/-
  The walks: the functions compute what the plain ones say. Condition: the plain function has a value.
-/
import Derived.Test.YtdfbbiahpcelmaaK4
import Derived.Test.YtdfbbiahpcelmaaD5
namespace Go.LS
open Go.Proofs
set_option linter.all false
set_option linter.unusedSimpArgs false
set_option linter.unusedVariables false
set_option maxRecDepth 20000

theorem ok_law32_DistributionSmooth (t : List Int) (r_ : Bool) (H0 : law32_DistributionSmooth t = some r_) : CallOK Try.prog 7 [.one (.p (.sl 1 (List.map encI t)))] [] [.one (.p (.val (.bool r_)))] [] := by
  refine callOK (n := 110) (rs := [.tmp 2]) (nb := 0) (V := []) Try.func7 rfl (by kernel_rfl) rfl rfl rfl rfl (Nat.le_of_ble_eq_true rfl) rfl (by decide) ?_
  unfold law32_DistributionSmooth at H0
  refine lok_rt E0 (⟨110, mkS [(0, .x (.one (.p (.sl 1 (List.map encI t)))))], mkH []⟩) ?_
  refine lok_seq ?_
  replace H0 := bind_some H0
  obtain ⟨y, h_0, H0⟩ := H0
  refine lok_rt (Env.of E0 [⟨some 14, 9, [.one (.p (.sl 1 (List.map encI t)))], [], [.one (.p (.val (.bool y)))], [], True, fun _ => ok_mark_Light t y h_0⟩]) (⟨110, mkS [(0, .x (.one (.p (.sl 1 (List.map encI t))))), (15, .x (.one (.p (.val (.bool (!y))))))], mkH []⟩) ?_
  refine lok_c (!y) ?_ ?_
  · intro b_22
    replace H0 := cpos H0 b_22
    replace H0 := bind_some H0
    obtain ⟨y1, h_1, H0⟩ := H0
    refine lok_rt (Env.of E0 [⟨some 16, 10, [], [], [.one (.p (.val (.bool y1)))], [], True, fun _ => ok_law32_sane y1 h_1⟩]) (⟨110, mkS [(2, .x (.one (.p (.val (.bool y1)))))], mkH []⟩) ?_
    refine lok_ret ?_
    obtain rfl := Option.some.inj H0
    try simp only [thenL, blockL]
    exact fin_au _ (.inr rfl) [] (⟨110, mkS [(2, .x (.one (.p (.val (.bool y1)))))], mkH []⟩) rfl rfl imp_au
  · intro b_22
    replace H0 := cneg H0 b_22
    refine lok_skip ?_
    try simp only [thenL, blockL, ↓reduceIte, reduceCtorEq]
    replace H0 := bind_some H0
    obtain ⟨y2, h_2, H0⟩ := H0
    replace H0 := bind_some H0
    obtain ⟨⟨y3, y4⟩, h_3, H0⟩ := H0
    try dsimp only at H0
    refine lok_rt (Env.of E0 [⟨some 18, 11, [.one (.p (.sl 1 (List.map encI t)))], [], [.one (.ptr 0 0)], [some (.var [.p (.sl 1 (List.map encI y2.L)), .p (pi y2.At)])], True, fun _ => ok_mark_Roll t y2 h_2⟩,
      ⟨some 19, 12, [.one (.ptr 0 0), .one (.p (pi (8 : Int))), .one (.p (.val (.bool false)))], [.var [.p (.sl 1 (List.map encI y2.L)), .p (pi y2.At)]], [.agg [.p (.sl 1 (List.map encI y3.Counts))]], [some (.var [.p (.sl 1 (List.map encI y4.L)), .p (pi y4.At)])], True, fun _ => ok_mark_Dice_Distribution y2 (8 : Int) false (y3, y4) h_3⟩]) (⟨110, mkS [(3, .x (.one (.ptr 103 0)))], mkH [(103, .var [.p (.sl 1 (List.map encI y3.Counts))])]⟩) ?_
    replace H0 := bind_some H0
    obtain ⟨⟨y5, y6⟩, h_4, H0⟩ := H0
    try dsimp only at H0
    refine lok_rt (Env.of E0 [⟨some 22, 24, [.agg [.p (.sl 1 (List.map encI y3.Counts))]], [], [.agg [.p (.sl 1 (List.map encI y5.Counts))], .one (.p (pi y6))], [], True, fun _ => ok_distribution_Smooth y3 (y5, y6) h_4⟩]) (⟨110, mkS [(3, .x (.one (.ptr 103 0))), (4, .x (.one (.ptr 104 0))), (5, .x (.one (.p (pi y6))))], mkH [(103, .var [.p (.sl 1 (List.map encI y3.Counts))]), (104, .var [.p (.sl 1 (List.map encI y5.Counts))])]⟩) ?_
    refine lok_seq ?_
    refine lok_rt E0 (⟨110, mkS [(3, .x (.one (.ptr 103 0))), (4, .x (.one (.ptr 104 0))), (35, .x (.one (.p (.val (.bool ((y6 != (0 : Int)) || ((y5.Counts.length : Int) != (y3.Counts.length : Int))))))))], mkH [(103, .var [.p (.sl 1 (List.map encI y3.Counts))]), (104, .var [.p (.sl 1 (List.map encI y5.Counts))])]⟩) ?_
    refine lok_c ((y6 != (0 : Int)) || ((y5.Counts.length : Int) != (y3.Counts.length : Int))) ?_ ?_
    · intro b_21
      replace H0 := cpos H0 b_21
      refine lok_rt E0 (⟨110, mkS [(2, .x (.one (.p (.val (.bool false)))))], mkH []⟩) ?_
      refine lok_ret ?_
      obtain rfl := Option.some.inj H0
      try simp only [thenL, blockL]
      exact fin_au _ (.inr rfl) [] (⟨110, mkS [(2, .x (.one (.p (.val (.bool false)))))], mkH []⟩) rfl rfl imp_au
    · intro b_21
      replace H0 := cneg H0 b_21
      refine lok_skip ?_
      try simp only [thenL, blockL, ↓reduceIte, reduceCtorEq]
      refine lok_join (fun x_ : Unit => law32_DistributionSmooth_j1 y3 y5 = some r_) (fun x_ => ⟨110, mkS [(3, .x (.one (.ptr 103 0))), (4, .x (.one (.ptr 104 0)))], mkH [(103, .var [.p (.sl 1 (List.map encI y3.Counts))]), (104, .var [.p (.sl 1 (List.map encI y5.Counts))])]⟩) ?hylaw32_DistributionSmooth_j1 ?hxlaw32_DistributionSmooth_j1
      case hylaw32_DistributionSmooth_j1 =>
        rintro _ H0
        try dsimp only at H0 ⊢
        unfold law32_DistributionSmooth_j1 at H0
        replace H0 := bind_some H0
        obtain ⟨⟨y7, y8⟩, h_5, H0⟩ := H0
        try dsimp only at H0
        refine lok_rt (Env.of E0 [⟨some 60, 13, [.one (.p (pi (IntKind.i64.wrap ((y3.Counts.length : Int) - (1 : Int))))), .one (.p (pi (2 : Int)))], [], [.agg [.p (pi y7.Num), .p (pi y7.Den)], .one (.p (pi y8))], [], True, fun _ => ok_ref01_New (IntKind.i64.wrap ((y3.Counts.length : Int) - (1 : Int))) (2 : Int) (y7, y8) h_5⟩]) (⟨110, mkS [(3, .x (.one (.ptr 103 0))), (4, .x (.one (.ptr 104 0))), (7, .x (.one (.ptr 107 0))), (8, .x (.one (.p (pi y8))))], mkH [(103, .var [.p (.sl 1 (List.map encI y3.Counts))]), (104, .var [.p (.sl 1 (List.map encI y5.Counts))]), (107, .var [.p (pi y7.Num), .p (pi y7.Den)])]⟩) ?_
        replace H0 := bind_some H0
        obtain ⟨⟨y9, y10⟩, h_6, H0⟩ := H0
        try dsimp only at H0
        refine lok_rt (Env.of E0 [⟨some 65, 19, [.agg [.p (.sl 1 (List.map encI y3.Counts))]], [], [.agg [.p (pi y9.Num), .p (pi y9.Den)], .one (.p (pi y10))], [], True, fun _ => ok_distribution_Mean y3 (y9, y10) h_6⟩]) (⟨110, mkS [(4, .x (.one (.ptr 104 0))), (7, .x (.one (.ptr 107 0))), (8, .x (.one (.p (pi y8)))), (9, .x (.one (.ptr 109 0))), (10, .x (.one (.p (pi y10))))], mkH [(104, .var [.p (.sl 1 (List.map encI y5.Counts))]), (107, .var [.p (pi y7.Num), .p (pi y7.Den)]), (109, .var [.p (pi y9.Num), .p (pi y9.Den)])]⟩) ?_
        replace H0 := bind_some H0
        obtain ⟨⟨y11, y12⟩, h_7, H0⟩ := H0
        try dsimp only at H0
        refine lok_rt (Env.of E0 [⟨some 70, 19, [.agg [.p (.sl 1 (List.map encI y5.Counts))]], [], [.agg [.p (pi y11.Num), .p (pi y11.Den)], .one (.p (pi y12))], [], True, fun _ => ok_distribution_Mean y5 (y11, y12) h_7⟩]) (⟨110, mkS [(7, .x (.one (.ptr 107 0))), (8, .x (.one (.p (pi y8)))), (9, .x (.one (.ptr 109 0))), (10, .x (.one (.p (pi y10)))), (11, .x (.one (.ptr 111 0))), (12, .x (.one (.p (pi y12))))], mkH [(107, .var [.p (pi y7.Num), .p (pi y7.Den)]), (109, .var [.p (pi y9.Num), .p (pi y9.Den)]), (111, .var [.p (pi y11.Num), .p (pi y11.Den)])]⟩) ?_
        refine lok_seq ?_
        refine lok_rt E0 (⟨110, mkS [(7, .x (.one (.ptr 107 0))), (9, .x (.one (.ptr 109 0))), (10, .x (.one (.p (pi y10)))), (11, .x (.one (.ptr 111 0))), (78, .x (.one (.p (.val (.bool ((y8 != (0 : Int)) || (y12 != (0 : Int))))))))], mkH [(107, .var [.p (pi y7.Num), .p (pi y7.Den)]), (109, .var [.p (pi y9.Num), .p (pi y9.Den)]), (111, .var [.p (pi y11.Num), .p (pi y11.Den)])]⟩) ?_
        refine lok_c ((y8 != (0 : Int)) || (y12 != (0 : Int))) ?_ ?_
        · intro b_15
          replace H0 := cpos H0 b_15
          refine lok_rt E0 (⟨110, mkS [(2, .x (.one (.p (.val (.bool false)))))], mkH []⟩) ?_
          refine lok_ret ?_
          obtain rfl := Option.some.inj H0
          try simp only [thenL, blockL]
          exact fin_au _ (.inr rfl) [] (⟨110, mkS [(2, .x (.one (.p (.val (.bool false)))))], mkH []⟩) rfl rfl imp_au
        · intro b_15
          replace H0 := cneg H0 b_15
          refine lok_skip ?_
          try simp only [thenL, blockL, ↓reduceIte, reduceCtorEq]
          refine lok_seq ?_
          refine lok_rt E0 (⟨110, mkS [(7, .x (.one (.ptr 107 0))), (9, .x (.one (.ptr 109 0))), (11, .x (.one (.ptr 111 0))), (80, .x (.one (.p (.val (.bool (y10 != (0 : Int)))))))], mkH [(107, .var [.p (pi y7.Num), .p (pi y7.Den)]), (109, .var [.p (pi y9.Num), .p (pi y9.Den)]), (111, .var [.p (pi y11.Num), .p (pi y11.Den)])]⟩) ?_
          refine lok_c (y10 != (0 : Int)) ?_ ?_
          · intro b_14
            replace H0 := cpos H0 b_14
            replace H0 := req_some H0
            obtain ⟨q_8, H0⟩ := H0
            refine lok_rt (Env.of E0 [⟨some 85, 10, [], [], [.one (.p (.val (.bool ((law32_sane).getD default))))], [], (law32_sane).isSome = true, fun h => ok_law32_sane _ (isSome_get h)⟩]) (⟨110, mkS [(2, .x (.one (.p (.val (.bool (((y11.Num == y7.Num) && (y11.Den == y7.Den)) && ((law32_sane).getD default)))))))], mkH []⟩) ?_
            refine lok_ret ?_
            obtain rfl := Option.some.inj H0
            try simp only [thenL, blockL]
            exact fin_au _ (.inr rfl) [] (⟨110, mkS [(2, .x (.one (.p (.val (.bool (((y11.Num == y7.Num) && (y11.Den == y7.Den)) && ((law32_sane).getD default)))))))], mkH []⟩) rfl rfl imp_au
          · intro b_14
            replace H0 := cneg H0 b_14
            refine lok_skip ?_
            try simp only [thenL, blockL, ↓reduceIte, reduceCtorEq]
            replace H0 := bind_some H0
            obtain ⟨y13, h_9, H0⟩ := H0
            replace H0 := req_some H0
            obtain ⟨⟨q_10, q_11, q_12, q_13⟩, H0⟩ := H0
            refine lok_rt (Env.of E0 [⟨some 89, 22, [.agg [.p (pi y11.Num), .p (pi y11.Den)], .agg [.p (pi y9.Num), .p (pi y9.Den)]], [], [.one (.p (.val (.bool y13)))], [], True, fun _ => ok_ref01_Less y11 y9 y13 h_9⟩,
      ⟨some 93, 22, [.agg [.p (pi y11.Num), .p (pi y11.Den)], .agg [.p (pi y7.Num), .p (pi y7.Den)]], [], [.one (.p (.val (.bool ((ref01_Less y11 y7).getD default))))], [], (ref01_Less y11 y7).isSome = true, fun h => ok_ref01_Less y11 y7 _ (isSome_get h)⟩,
      ⟨some 99, 22, [.agg [.p (pi y9.Num), .p (pi y9.Den)], .agg [.p (pi y11.Num), .p (pi y11.Den)]], [], [.one (.p (.val (.bool ((ref01_Less y9 y11).getD default))))], [], (ref01_Less y9 y11).isSome = true, fun h => ok_ref01_Less y9 y11 _ (isSome_get h)⟩,
      ⟨some 103, 22, [.agg [.p (pi y7.Num), .p (pi y7.Den)], .agg [.p (pi y11.Num), .p (pi y11.Den)]], [], [.one (.p (.val (.bool ((ref01_Less y7 y11).getD default))))], [], (ref01_Less y7 y11).isSome = true, fun h => ok_ref01_Less y7 y11 _ (isSome_get h)⟩,
      ⟨some 108, 10, [], [], [.one (.p (.val (.bool ((law32_sane).getD default))))], [], (law32_sane).isSome = true, fun h => ok_law32_sane _ (isSome_get h)⟩]) (⟨110, mkS [(2, .x (.one (.p (.val (.bool (((!(y13 && ((ref01_Less y11 y7).getD default))) && (!(((ref01_Less y9 y11).getD default) && ((ref01_Less y7 y11).getD default)))) && ((law32_sane).getD default)))))))], mkH []⟩) ?_
            refine lok_ret ?_
            obtain rfl := Option.some.inj H0
            try simp only [thenL, blockL]
            exact fin_au _ (.inr rfl) [] (⟨110, mkS [(2, .x (.one (.p (.val (.bool (((!(y13 && ((ref01_Less y11 y7).getD default))) && (!(((ref01_Less y9 y11).getD default) && ((ref01_Less y7 y11).getD default)))) && ((law32_sane).getD default)))))))], mkH []⟩) rfl rfl imp_au
      case hxlaw32_DistributionSmooth_j1 =>
        refine lok_rt E0 (⟨110, mkS [(3, .x (.one (.ptr 103 0))), (4, .x (.one (.ptr 104 0))), (38, .x (.one (.p (pi (y5.Counts.length : Int))))), (39, .x (.one (.p (pi (0 : Int)))))], mkH [(103, .var [.p (.sl 1 (List.map encI y3.Counts))]), (104, .var [.p (.sl 1 (List.map encI y5.Counts))])]⟩) ?_
        refine lok_block ?_
        replace H0 := bind_some H0
        obtain ⟨v_16, hv_16, H0⟩ := H0
        refine lok_iter (fun x_ => ⟨110, mkS [(3, .x (.one (.ptr 103 0))), (4, .x (.one (.ptr 104 0))), (38, .x (.one (.p (pi (y5.Counts.length : Int))))), (39, .x (.one (.p (pi x_))))], mkH [(103, .var [.p (.sl 1 (List.map encI y3.Counts))]), (104, .var [.p (.sl 1 (List.map encI y5.Counts))])]⟩) hv_16 imp_au ?_
        · rintro v o_1 H1 k_1
          unfold law32_DistributionSmooth_l2 at H1
          try dsimp only at H1 ⊢
          refine lok_rt E0 (⟨110, mkS [(3, .x (.one (.ptr 103 0))), (4, .x (.one (.ptr 104 0))), (38, .x (.one (.p (pi (y5.Counts.length : Int))))), (39, .x (.one (.p (pi v)))), (40, .x (.one (.p (.val (.bool (decide (v < (y5.Counts.length : Int))))))))], mkH [(103, .var [.p (.sl 1 (List.map encI y3.Counts))]), (104, .var [.p (.sl 1 (List.map encI y5.Counts))])]⟩) ?_
          refine lok_seq ?_
          refine lok_c (decide (v < (y5.Counts.length : Int))) ?_ ?_
          · intro b_20
            replace H1 := cpos H1 b_20
            refine lok_skip ?_
            try simp only [thenL, blockL, ↓reduceIte, reduceCtorEq]
            refine lok_seq ?_
            refine lok_block ?_
            refine lok_rt E0 (⟨110, mkS [(3, .x (.one (.ptr 103 0))), (4, .x (.one (.ptr 104 0))), (6, .x (.one (.p (pi v)))), (38, .x (.one (.p (pi (y5.Counts.length : Int))))), (39, .x (.one (.p (pi v))))], mkH [(103, .var [.p (.sl 1 (List.map encI y3.Counts))]), (104, .var [.p (.sl 1 (List.map encI y5.Counts))])]⟩) ?_
            replace H1 := req_some H1
            obtain ⟨⟨q_18, q_19⟩, H1⟩ := H1
            refine lok_dt E0 11 (⟨110, mkS [(3, .x (.one (.ptr 103 0))), (4, .x (.one (.ptr 104 0))), (38, .x (.one (.p (pi (y5.Counts.length : Int))))), (39, .x (.one (.p (pi v)))), (53, .x (.one (.p (.val (.bool ((ix y5.Counts v) != (IntKind.i64.wrap ((ix y3.Counts v) + (1 : Int)))))))))], mkH [(103, .var [.p (.sl 1 (List.map encI y3.Counts))]), (104, .var [.p (.sl 1 (List.map encI y5.Counts))])]⟩) (by kernel_rfl) (by kernel_rfl) ?_
            refine lok_c ((ix y5.Counts v) != (IntKind.i64.wrap ((ix y3.Counts v) + (1 : Int)))) ?_ ?_
            · intro b_17
              replace H1 := cpos H1 b_17
              refine lok_rt E0 (⟨110, mkS [(2, .x (.one (.p (.val (.bool false)))))], mkH []⟩) ?_
              refine lok_ret ?_
              try simp only [thenL, blockL, ↓reduceIte, reduceCtorEq]
              have e_1 := k_1 _ (Option.some.inj H1).symm
              subst e_1
              try dsimp only at H0
              obtain rfl := Option.some.inj H0
              try simp only [thenL, blockL]
              exact fin_au _ (.inr rfl) [] (⟨110, mkS [(2, .x (.one (.p (.val (.bool false)))))], mkH []⟩) rfl rfl imp_au
            · intro b_17
              replace H1 := cneg H1 b_17
              refine lok_skip ?_
              try simp only [thenL, blockL, ↓reduceIte, reduceCtorEq]
              refine lok_rl E0 (⟨110, mkS [(3, .x (.one (.ptr 103 0))), (4, .x (.one (.ptr 104 0))), (38, .x (.one (.p (pi (y5.Counts.length : Int))))), (39, .x (.one (.p (pi (IntKind.i64.wrap (v + (1 : Int)))))))], mkH [(103, .var [.p (.sl 1 (List.map encI y3.Counts))]), (104, .var [.p (.sl 1 (List.map encI y5.Counts))])]⟩) ?_
              try simp only [thenL, blockL, ↓reduceIte, reduceCtorEq]
              exact ⟨(IntKind.i64.wrap (v + (1 : Int))), (Option.some.inj H1).symm, imp_au⟩
          · intro b_20
            replace H1 := cneg H1 b_20
            refine lok_exit ?_
            try simp only [thenL, blockL, ↓reduceIte, reduceCtorEq]
            have e_1 := k_1 _ (Option.some.inj H1).symm
            subst e_1
            try dsimp only at H0
            try simp only [thenL, blockL, ↓reduceIte, reduceCtorEq]
            exact ⟨(), H0, imp_au⟩
end Go.LS
