/-
  The walks: the functions compute what the plain ones say. Condition: the plain function has a value.
-/
import Derived.Test.YtfioceejanpjfaaDoorK2
import Derived.Test.YtfioceejanpjfaaDoorD3
namespace Go.LS
open Go.Proofs
set_option linter.all false
set_option linter.unusedSimpArgs false
set_option linter.unusedVariables false
set_option maxRecDepth 20000

theorem ok_ratio_Sub (a : api_Ratio) (b : api_Ratio) (r_ : api_Ratio × Int) (H0 : ratio_Sub a b = some r_) : CallOK Tryd.prog 17 [.agg [.p (pi a.Num), .p (pi a.Den)], .agg [.p (pi b.Num), .p (pi b.Den)]] [] [.agg [.p (pi r_.1.Num), .p (pi r_.1.Den)], .one (.p (pi r_.2))] [] := by
  refine callOK (n := 25) (rs := [.cell 4 24, .tmp 5]) (nb := 0) (V := []) Tryd.func17 rfl (by kernel_rfl) rfl rfl rfl rfl (Nat.le_of_ble_eq_true rfl) (by decide) ?_
  unfold ratio_Sub at H0
  refine lok_rt E0 (⟨25, mkS [(2, .x (.one (.ptr 102 0))), (3, .x (.one (.ptr 103 0))), (4, .x (.one (.ptr 104 0)))], mkH [(102, .var [.p (pi a.Num), .p (pi a.Den)]), (103, .var [.p (pi b.Num), .p (pi b.Den)]), (104, .var [.p (pi (0 : Int)), .p (pi (0 : Int))])]⟩) ?_
  refine lok_seq ?_
  replace H0 := bind_some H0
  obtain ⟨y, h_0, H0⟩ := H0
  replace H0 := req_some H0
  obtain ⟨q_3, H0⟩ := H0
  refine lok_rt (Env.of E0 [⟨some 7, 23, [.agg [.p (pi a.Num), .p (pi a.Den)]], [], [.one (.p (.val (.bool y)))], [], True, fun _ => ok_ratio_Valid a y h_0, []⟩,
      ⟨some 11, 23, [.agg [.p (pi b.Num), .p (pi b.Den)]], [], [.one (.p (.val (.bool ((ratio_Valid b).getD default))))], [], (ratio_Valid b).isSome = true, fun h => ok_ratio_Valid b _ (isSome_get h), []⟩]) (⟨25, mkS [(2, .x (.one (.ptr 102 0))), (3, .x (.one (.ptr 103 0))), (4, .x (.one (.ptr 104 0))), (13, .x (.one (.p (.val (.bool ((!y) || (!((ratio_Valid b).getD default))))))))], mkH [(102, .var [.p (pi a.Num), .p (pi a.Den)]), (103, .var [.p (pi b.Num), .p (pi b.Den)]), (104, .var [.p (pi (0 : Int)), .p (pi (0 : Int))])]⟩) ?_
  refine lok_c ((!y) || (!((ratio_Valid b).getD default))) ?_ ?_
  · intro b_2
    replace H0 := cpos H0 b_2
    refine lok_rt E0 (⟨25, mkS [(4, .x (.one (.ptr 104 0))), (5, .x (.one (.p (pi (1 : Int)))))], mkH [(104, .var [.p (pi (0 : Int)), .p (pi (0 : Int))])]⟩) ?_
    refine lok_ret ?_
    obtain rfl := Option.some.inj H0
    try simp only [thenL, blockL]
    exact fin_au _ (.inr rfl) [] (⟨25, mkS [(4, .x (.one (.ptr 104 0))), (5, .x (.one (.p (pi (1 : Int)))))], mkH [(104, .var [.p (pi (0 : Int)), .p (pi (0 : Int))])]⟩) rfl rfl imp_au
  · intro b_2
    replace H0 := cneg H0 b_2
    refine lok_skip ?_
    try simp only [thenL, blockL, ↓reduceIte, reduceCtorEq]
    replace H0 := bind_some H0
    obtain ⟨⟨y1, y2⟩, h_1, H0⟩ := H0
    try dsimp only at H0
    refine lok_rt (Env.of E0 [⟨some 22, 45, [.agg [.p (pi a.Num), .p (pi a.Den)], .agg [.p (pi (IntKind.i64.wrap (0 - b.Num))), .p (pi b.Den)]], [], [.agg [.p (pi y1.Num), .p (pi y1.Den)], .one (.p (pi y2))], [], True, fun _ => ok_ratio_Add a (api_Ratio.mk (IntKind.i64.wrap (0 - b.Num)) b.Den) (y1, y2) h_1, []⟩]) (⟨25, mkS [(4, .x (.one (.ptr 104 0))), (5, .x (.one (.p (pi y2))))], mkH [(104, .var [.p (pi y1.Num), .p (pi y1.Den)])]⟩) ?_
    refine lok_ret ?_
    obtain rfl := Option.some.inj H0
    try simp only [thenL, blockL]
    exact fin_au _ (.inr rfl) [] (⟨25, mkS [(4, .x (.one (.ptr 104 0))), (5, .x (.one (.p (pi y2))))], mkH [(104, .var [.p (pi y1.Num), .p (pi y1.Den)])]⟩) rfl rfl imp_au
set_option maxHeartbeats 4000000 in
theorem ok_ratio_Compare (a : api_Ratio) (b : api_Ratio) (r_ : Int) (H0 : ratio_Compare a b = some r_) : CallOK Tryd.prog 46 [.agg [.p (pi a.Num), .p (pi a.Den)], .agg [.p (pi b.Num), .p (pi b.Den)]] [] [.one (.p (pi r_))] [] := by
  refine callOK (n := 50) (rs := [.tmp 4]) (nb := 0) (V := []) Tryd.func46 rfl (by kernel_rfl) rfl rfl rfl rfl (Nat.le_of_ble_eq_true rfl) (by decide) ?_
  unfold ratio_Compare at H0
  refine lok_rt E0 (⟨50, mkS [(2, .x (.one (.ptr 102 0))), (3, .x (.one (.ptr 103 0)))], mkH [(102, .var [.p (pi a.Num), .p (pi a.Den)]), (103, .var [.p (pi b.Num), .p (pi b.Den)])]⟩) ?_
  refine lok_seq ?_
  replace H0 := bind_some H0
  obtain ⟨y, h_0, H0⟩ := H0
  replace H0 := req_some H0
  obtain ⟨q_9, H0⟩ := H0
  refine lok_rt (Env.of E0 [⟨some 8, 23, [.agg [.p (pi a.Num), .p (pi a.Den)]], [], [.one (.p (.val (.bool y)))], [], True, fun _ => ok_ratio_Valid a y h_0, []⟩,
      ⟨some 12, 23, [.agg [.p (pi b.Num), .p (pi b.Den)]], [], [.one (.p (.val (.bool ((ratio_Valid b).getD default))))], [], (ratio_Valid b).isSome = true, fun h => ok_ratio_Valid b _ (isSome_get h), []⟩]) (⟨50, mkS [(2, .x (.one (.ptr 102 0))), (3, .x (.one (.ptr 103 0))), (14, .x (.one (.p (.val (.bool ((!y) || (!((ratio_Valid b).getD default))))))))], mkH [(102, .var [.p (pi a.Num), .p (pi a.Den)]), (103, .var [.p (pi b.Num), .p (pi b.Den)])]⟩) ?_
  refine lok_c ((!y) || (!((ratio_Valid b).getD default))) ?_ ?_
  · intro b_8
    replace H0 := cpos H0 b_8
    refine lok_rt E0 (⟨50, mkS [(4, .x (.one (.p (pi (0 : Int)))))], mkH []⟩) ?_
    refine lok_ret ?_
    obtain rfl := Option.some.inj H0
    try simp only [thenL, blockL]
    exact fin_au _ (.inr rfl) [] (⟨50, mkS [(4, .x (.one (.p (pi (0 : Int)))))], mkH []⟩) rfl rfl imp_au
  · intro b_8
    replace H0 := cneg H0 b_8
    refine lok_skip ?_
    try simp only [thenL, blockL, ↓reduceIte, reduceCtorEq]
    replace H0 := bind_some H0
    obtain ⟨y1, h_1, H0⟩ := H0
    replace H0 := bind_some H0
    obtain ⟨y2, h_2, H0⟩ := H0
    refine lok_et (Env.of E0 [⟨some 20, 63, [.one (.p (pi a.Num)), .one (.p (.val (.int .u64 (IntKind.u64.wrap b.Den))))], [], [.agg [.p (.val (.bool y1.neg)), .p (.val (.int .u64 y1.abs.hi)), .p (.val (.int .u64 y1.abs.lo))]], [], True, fun _ => ok_ratio_signedProduct a.Num (IntKind.u64.wrap b.Den) y1 h_1, []⟩,
      ⟨some 26, 63, [.one (.p (pi b.Num)), .one (.p (.val (.int .u64 (IntKind.u64.wrap a.Den))))], [], [.agg [.p (.val (.bool y2.neg)), .p (.val (.int .u64 y2.abs.hi)), .p (.val (.int .u64 y2.abs.lo))]], [], True, fun _ => ok_ratio_signedProduct b.Num (IntKind.u64.wrap a.Den) y2 h_2, []⟩]) 50 [⟨[(2, .x (.one (.ptr 102 0)))], [], [(15, .x (.one (.ptr 102 0)))], [], none⟩,
      ⟨[(15, .x (.one (.ptr 102 0)))], [(102, some (.var [.p (pi a.Num), .p (pi a.Den)]))], [(16, .x (.one (.p (pi a.Num))))], [], none⟩,
      ⟨[(3, .x (.one (.ptr 103 0)))], [], [(17, .x (.one (.ptr 103 1)))], [], none⟩,
      ⟨[(17, .x (.one (.ptr 103 1)))], [(103, some (.var [.p (pi b.Num), .p (pi b.Den)]))], [(18, .x (.one (.p (pi b.Den))))], [], none⟩,
      ⟨[(18, .x (.one (.p (pi b.Den))))], [], [(19, .x (.one (.p (.val (.int .u64 (IntKind.u64.wrap b.Den))))))], [], none⟩,
      ⟨[(16, .x (.one (.p (pi a.Num)))), (19, .x (.one (.p (.val (.int .u64 (IntKind.u64.wrap b.Den))))))], [], [(20, .x (.agg [.p (.val (.bool y1.neg)), .p (.val (.int .u64 y1.abs.hi)), .p (.val (.int .u64 y1.abs.lo))]))], [], none⟩,
      ⟨[(3, .x (.one (.ptr 103 0)))], [], [(21, .x (.one (.ptr 103 0)))], [], none⟩,
      ⟨[(21, .x (.one (.ptr 103 0)))], [(103, some (.var [.p (pi b.Num), .p (pi b.Den)]))], [(22, .x (.one (.p (pi b.Num))))], [], none⟩,
      ⟨[(2, .x (.one (.ptr 102 0)))], [], [(23, .x (.one (.ptr 102 1)))], [], none⟩,
      ⟨[(23, .x (.one (.ptr 102 1)))], [(102, some (.var [.p (pi a.Num), .p (pi a.Den)]))], [(24, .x (.one (.p (pi a.Den))))], [], none⟩,
      ⟨[(24, .x (.one (.p (pi a.Den))))], [], [(25, .x (.one (.p (.val (.int .u64 (IntKind.u64.wrap a.Den))))))], [], none⟩,
      ⟨[(22, .x (.one (.p (pi b.Num)))), (25, .x (.one (.p (.val (.int .u64 (IntKind.u64.wrap a.Den))))))], [], [(26, .x (.agg [.p (.val (.bool y2.neg)), .p (.val (.int .u64 y2.abs.hi)), .p (.val (.int .u64 y2.abs.lo))]))], [], none⟩,
      ⟨[], [(105, none)], [(5, .x (.one (.ptr 105 0)))], [(105, some (.var [.p (.val (.bool false)), .p (.val (.int .u64 (0 : Int))), .p (.val (.int .u64 (0 : Int)))]))], some 105⟩,
      ⟨[], [(106, none)], [(6, .x (.one (.ptr 106 0)))], [(106, some (.var [.p (.val (.bool false)), .p (.val (.int .u64 (0 : Int))), .p (.val (.int .u64 (0 : Int)))]))], some 106⟩] (⟨50, mkS [(5, .x (.one (.ptr 105 0))), (6, .x (.one (.ptr 106 0)))], mkH [(105, .var [.p (.val (.bool y1.neg)), .p (.val (.int .u64 y1.abs.hi)), .p (.val (.int .u64 y1.abs.lo))]), (106, .var [.p (.val (.bool y2.neg)), .p (.val (.int .u64 y2.abs.hi)), .p (.val (.int .u64 y2.abs.lo))])]⟩) (by kernel_rfl) (by kernel_rfl) (by kernel_rfl) rfl rfl rfl ?_
    refine lok_seq ?_
    refine lok_block ?_
    refine lok_rt E0 (⟨50, mkS [(5, .x (.one (.ptr 105 0))), (6, .x (.one (.ptr 106 0))), (27, .x (.one (.p (.val (.bool (y1.neg && y2.neg))))))], mkH [(105, .var [.p (.val (.bool y1.neg)), .p (.val (.int .u64 y1.abs.hi)), .p (.val (.int .u64 y1.abs.lo))]), (106, .var [.p (.val (.bool y2.neg)), .p (.val (.int .u64 y2.abs.hi)), .p (.val (.int .u64 y2.abs.lo))])]⟩) ?_
    refine lok_c (y1.neg && y2.neg) ?_ ?_
    · intro b_7
      replace H0 := cpos H0 b_7
      replace H0 := bind_some H0
      obtain ⟨y3, h_3, H0⟩ := H0
      refine lok_rt (Env.of E0 [⟨some 38, 65, [.agg [.p (.val (.int .u64 y2.abs.hi)), .p (.val (.int .u64 y2.abs.lo))], .agg [.p (.val (.int .u64 y1.abs.hi)), .p (.val (.int .u64 y1.abs.lo))]], [], [.one (.p (pi y3))], [], True, fun _ => ok_ratio_wide_compare y2.abs y1.abs y3 h_3, []⟩]) (⟨50, mkS [(4, .x (.one (.p (pi y3))))], mkH []⟩) ?_
      refine lok_ret ?_
      obtain rfl := Option.some.inj H0
      try simp only [thenL, blockL]
      exact fin_au _ (.inr rfl) [] (⟨50, mkS [(4, .x (.one (.p (pi y3))))], mkH []⟩) rfl rfl imp_au
    · intro b_7
      replace H0 := cneg H0 b_7
      refine lok_rt E0 (⟨50, mkS [(5, .x (.one (.ptr 105 0))), (6, .x (.one (.ptr 106 0))), (39, .x (.one (.p (.val (.bool y1.neg)))))], mkH [(105, .var [.p (.val (.bool y1.neg)), .p (.val (.int .u64 y1.abs.hi)), .p (.val (.int .u64 y1.abs.lo))]), (106, .var [.p (.val (.bool y2.neg)), .p (.val (.int .u64 y2.abs.hi)), .p (.val (.int .u64 y2.abs.lo))])]⟩) ?_
      refine lok_c y1.neg ?_ ?_
      · intro b_6
        replace H0 := cpos H0 b_6
        refine lok_rt E0 (⟨50, mkS [(4, .x (.one (.p (pi (-1 : Int)))))], mkH []⟩) ?_
        refine lok_ret ?_
        obtain rfl := Option.some.inj H0
        try simp only [thenL, blockL]
        exact fin_au _ (.inr rfl) [] (⟨50, mkS [(4, .x (.one (.p (pi (-1 : Int)))))], mkH []⟩) rfl rfl imp_au
      · intro b_6
        replace H0 := cneg H0 b_6
        refine lok_rt E0 (⟨50, mkS [(5, .x (.one (.ptr 105 0))), (6, .x (.one (.ptr 106 0))), (42, .x (.one (.p (.val (.bool y2.neg)))))], mkH [(105, .var [.p (.val (.bool y1.neg)), .p (.val (.int .u64 y1.abs.hi)), .p (.val (.int .u64 y1.abs.lo))]), (106, .var [.p (.val (.bool y2.neg)), .p (.val (.int .u64 y2.abs.hi)), .p (.val (.int .u64 y2.abs.lo))])]⟩) ?_
        refine lok_c y2.neg ?_ ?_
        · intro b_5
          replace H0 := cpos H0 b_5
          refine lok_rt E0 (⟨50, mkS [(4, .x (.one (.p (pi (1 : Int)))))], mkH []⟩) ?_
          refine lok_ret ?_
          obtain rfl := Option.some.inj H0
          try simp only [thenL, blockL]
          exact fin_au _ (.inr rfl) [] (⟨50, mkS [(4, .x (.one (.p (pi (1 : Int)))))], mkH []⟩) rfl rfl imp_au
        · intro b_5
          replace H0 := cneg H0 b_5
          refine lok_skip ?_
          try simp only [thenL, blockL, ↓reduceIte, reduceCtorEq]
          replace H0 := bind_some H0
          obtain ⟨y4, h_4, H0⟩ := H0
          refine lok_rt (Env.of E0 [⟨some 49, 65, [.agg [.p (.val (.int .u64 y1.abs.hi)), .p (.val (.int .u64 y1.abs.lo))], .agg [.p (.val (.int .u64 y2.abs.hi)), .p (.val (.int .u64 y2.abs.lo))]], [], [.one (.p (pi y4))], [], True, fun _ => ok_ratio_wide_compare y1.abs y2.abs y4 h_4, []⟩]) (⟨50, mkS [(4, .x (.one (.p (pi y4))))], mkH []⟩) ?_
          refine lok_ret ?_
          obtain rfl := Option.some.inj H0
          try simp only [thenL, blockL]
          exact fin_au _ (.inr rfl) [] (⟨50, mkS [(4, .x (.one (.p (pi y4))))], mkH []⟩) rfl rfl imp_au
theorem ok_ratio_Less (a : api_Ratio) (b : api_Ratio) (r_ : Bool) (H0 : ratio_Less a b = some r_) : CallOK Tryd.prog 18 [.agg [.p (pi a.Num), .p (pi a.Den)], .agg [.p (pi b.Num), .p (pi b.Den)]] [] [.one (.p (.val (.bool r_)))] [] := by
  refine callOK (n := 9) (rs := [.tmp 4]) (nb := 0) (V := []) Tryd.func18 rfl (by kernel_rfl) rfl rfl rfl rfl (Nat.le_of_ble_eq_true rfl) (by decide) ?_
  unfold ratio_Less at H0
  refine lok_rt E0 (⟨9, mkS [(2, .x (.one (.ptr 102 0))), (3, .x (.one (.ptr 103 0)))], mkH [(102, .var [.p (pi a.Num), .p (pi a.Den)]), (103, .var [.p (pi b.Num), .p (pi b.Den)])]⟩) ?_
  replace H0 := bind_some H0
  obtain ⟨y, h_0, H0⟩ := H0
  refine lok_rt (Env.of E0 [⟨some 7, 46, [.agg [.p (pi a.Num), .p (pi a.Den)], .agg [.p (pi b.Num), .p (pi b.Den)]], [], [.one (.p (pi y))], [], True, fun _ => ok_ratio_Compare a b y h_0, []⟩]) (⟨9, mkS [(4, .x (.one (.p (.val (.bool (y == (-1 : Int)))))))], mkH []⟩) ?_
  refine lok_ret ?_
  obtain rfl := Option.some.inj H0
  try simp only [thenL, blockL]
  exact fin_au _ (.inr rfl) [] (⟨9, mkS [(4, .x (.one (.p (.val (.bool (y == (-1 : Int)))))))], mkH []⟩) rfl rfl imp_au
set_option maxHeartbeats 4000000 in
theorem ok_law01_RatioDecimalNear (t : List Int) (digits : Int) (r_ : Bool) (H0 : law01_RatioDecimalNear t digits = some r_) : CallOK Tryd.prog 5 [.one (.p (.sl 1 (List.map encI t))), .one (.p (pi digits))] [] [.one (.p (.val (.bool r_)))] [] := by
  refine callOK (n := 93) (rs := [.tmp 4]) (nb := 0) (V := []) Tryd.func5 rfl (by kernel_rfl) rfl rfl rfl rfl (Nat.le_of_ble_eq_true rfl) (by decide) ?_
  unfold law01_RatioDecimalNear at H0
  refine lok_rt E0 (⟨93, mkS [(0, .x (.one (.p (.sl 1 (List.map encI t))))), (1, .x (.one (.p (pi digits))))], mkH []⟩) ?_
  replace H0 := bind_some H0
  obtain ⟨y, h_0, H0⟩ := H0
  refine lok_rt (Env.of E0 [⟨some 19, 6, [.one (.p (.sl 1 (List.map encI t)))], [], [.one (.ptr 0 0)], [some (.var [.p (.sl 1 (List.map encI y.L)), .p (pi y.At)])], True, fun _ => ok_make_New t y h_0, []⟩]) (⟨93, mkS [(1, .x (.one (.p (pi digits)))), (5, .x (.one (.ptr 1019 0)))], mkH [(1019, .var [.p (.sl 1 (List.map encI y.L)), .p (pi y.At)])]⟩) ?_
  replace H0 := bind_some H0
  obtain ⟨⟨y1, y2⟩, h_1, H0⟩ := H0
  try dsimp only at H0
  replace H0 := bind_some H0
  obtain ⟨⟨y3, y4⟩, h_2, H0⟩ := H0
  try dsimp only at H0
  refine lok_rt (Env.of E0 [⟨some 21, 16, [.one (.ptr 0 0)], [.var [.p (.sl 1 (List.map encI y.L)), .p (pi y.At)]], [.agg [.p (pi y1.Num), .p (pi y1.Den)]], [some (.var [.p (.sl 1 (List.map encI y2.L)), .p (pi y2.At)])], True, fun _ => ok_make_Tape_Small y (y1, y2) h_1, []⟩,
      ⟨some 23, 16, [.one (.ptr 0 0)], [.var [.p (.sl 1 (List.map encI y2.L)), .p (pi y2.At)]], [.agg [.p (pi y3.Num), .p (pi y3.Den)]], [some (.var [.p (.sl 1 (List.map encI y4.L)), .p (pi y4.At)])], True, fun _ => ok_make_Tape_Small y2 (y3, y4) h_2, []⟩]) (⟨93, mkS [(1, .x (.one (.p (pi digits)))), (6, .x (.one (.ptr 106 0))), (7, .x (.one (.ptr 107 0)))], mkH [(106, .var [.p (pi y1.Num), .p (pi y1.Den)]), (107, .var [.p (pi y3.Num), .p (pi y3.Den)])]⟩) ?_
  replace H0 := bind_some H0
  obtain ⟨y5, h_3, H0⟩ := H0
  refine lok_rt (Env.of E0 [⟨some 25, 8, [.one (.p (pi digits)), .one (.p (pi (6 : Int)))], [], [.one (.p (pi y5))], [], True, fun _ => ok_make_Cut digits (6 : Int) y5 h_3, []⟩]) (⟨93, mkS [(1, .x (.one (.p (pi (IntKind.i64.wrap ((1 : Int) + y5)))))), (6, .x (.one (.ptr 106 0))), (7, .x (.one (.ptr 107 0)))], mkH [(106, .var [.p (pi y1.Num), .p (pi y1.Den)]), (107, .var [.p (pi y3.Num), .p (pi y3.Den)])]⟩) ?_
  replace H0 := bind_some H0
  obtain ⟨y6, h_4, H0⟩ := H0
  replace H0 := bind_some H0
  obtain ⟨⟨y7, y8⟩, h_5, H0⟩ := H0
  try dsimp only at H0
  refine lok_rt (Env.of E0 [⟨some 30, 9, [.agg [.p (pi y1.Num), .p (pi y1.Den)], .one (.p (pi (IntKind.i64.wrap ((1 : Int) + y5))))], [], [.one (.p (.val (.string (bs y6))))], [], True, fun _ => ok_ratio_Decimal y1 (IntKind.i64.wrap ((1 : Int) + y5)) y6 h_4, []⟩,
      ⟨some 31, 14, [.one (.p (.val (.string (bs y6))))], [], [.agg [.p (pi y7.Num), .p (pi y7.Den)], .one (.p (pi y8))], [], True, fun _ => ok_ratio_Parse y6 (y7, y8) h_5, []⟩]) (⟨93, mkS [(1, .x (.one (.p (pi (IntKind.i64.wrap ((1 : Int) + y5)))))), (6, .x (.one (.ptr 106 0))), (7, .x (.one (.ptr 107 0))), (8, .x (.one (.ptr 108 0))), (9, .x (.one (.p (pi y8))))], mkH [(106, .var [.p (pi y1.Num), .p (pi y1.Den)]), (107, .var [.p (pi y3.Num), .p (pi y3.Den)]), (108, .var [.p (pi y7.Num), .p (pi y7.Den)])]⟩) ?_
  replace H0 := bind_some H0
  obtain ⟨y9, h_6, H0⟩ := H0
  replace H0 := bind_some H0
  obtain ⟨⟨y10, y11⟩, h_7, H0⟩ := H0
  try dsimp only at H0
  refine lok_rt (Env.of E0 [⟨some 37, 9, [.agg [.p (pi y3.Num), .p (pi y3.Den)], .one (.p (pi (IntKind.i64.wrap ((1 : Int) + y5))))], [], [.one (.p (.val (.string (bs y9))))], [], True, fun _ => ok_ratio_Decimal y3 (IntKind.i64.wrap ((1 : Int) + y5)) y9 h_6, []⟩,
      ⟨some 38, 14, [.one (.p (.val (.string (bs y9))))], [], [.agg [.p (pi y10.Num), .p (pi y10.Den)], .one (.p (pi y11))], [], True, fun _ => ok_ratio_Parse y9 (y10, y11) h_7, []⟩]) (⟨93, mkS [(1, .x (.one (.p (pi (IntKind.i64.wrap ((1 : Int) + y5)))))), (6, .x (.one (.ptr 106 0))), (7, .x (.one (.ptr 107 0))), (8, .x (.one (.ptr 108 0))), (9, .x (.one (.p (pi y8)))), (10, .x (.one (.ptr 110 0))), (11, .x (.one (.p (pi y11))))], mkH [(106, .var [.p (pi y1.Num), .p (pi y1.Den)]), (107, .var [.p (pi y3.Num), .p (pi y3.Den)]), (108, .var [.p (pi y7.Num), .p (pi y7.Den)]), (110, .var [.p (pi y10.Num), .p (pi y10.Den)])]⟩) ?_
  replace H0 := bind_some H0
  obtain ⟨⟨y12, y13⟩, h_8, H0⟩ := H0
  try dsimp only at H0
  refine lok_rt (Env.of E0 [⟨some 44, 17, [.agg [.p (pi y7.Num), .p (pi y7.Den)], .agg [.p (pi y1.Num), .p (pi y1.Den)]], [], [.agg [.p (pi y12.Num), .p (pi y12.Den)], .one (.p (pi y13))], [], True, fun _ => ok_ratio_Sub y7 y1 (y12, y13) h_8, []⟩]) (⟨93, mkS [(1, .x (.one (.p (pi (IntKind.i64.wrap ((1 : Int) + y5)))))), (6, .x (.one (.ptr 106 0))), (7, .x (.one (.ptr 107 0))), (8, .x (.one (.ptr 108 0))), (9, .x (.one (.p (pi y8)))), (10, .x (.one (.ptr 110 0))), (11, .x (.one (.p (pi y11)))), (12, .x (.one (.ptr 112 0))), (13, .x (.one (.p (pi y13))))], mkH [(106, .var [.p (pi y1.Num), .p (pi y1.Den)]), (107, .var [.p (pi y3.Num), .p (pi y3.Den)]), (108, .var [.p (pi y7.Num), .p (pi y7.Den)]), (110, .var [.p (pi y10.Num), .p (pi y10.Den)]), (112, .var [.p (pi y12.Num), .p (pi y12.Den)])]⟩) ?_
  refine lok_rt E0 (⟨93, mkS [(1, .x (.one (.p (pi (IntKind.i64.wrap ((1 : Int) + y5)))))), (6, .x (.one (.ptr 106 0))), (7, .x (.one (.ptr 107 0))), (8, .x (.one (.ptr 108 0))), (9, .x (.one (.p (pi y8)))), (10, .x (.one (.ptr 110 0))), (11, .x (.one (.p (pi y11)))), (12, .x (.one (.ptr 112 0))), (13, .x (.one (.p (pi y13)))), (14, .x (.one (.p (pi (2 : Int)))))], mkH [(106, .var [.p (pi y1.Num), .p (pi y1.Den)]), (107, .var [.p (pi y3.Num), .p (pi y3.Den)]), (108, .var [.p (pi y7.Num), .p (pi y7.Den)]), (110, .var [.p (pi y10.Num), .p (pi y10.Den)]), (112, .var [.p (pi y12.Num), .p (pi y12.Den)])]⟩) ?_
  refine lok_join (fun x_ : Int => law01_RatioDecimalNear_j1 y1 y3 y7 y8 y10 y11 y12 y13 x_ = some r_) (fun x_ => ⟨93, mkS [(6, .x (.one (.ptr 106 0))), (7, .x (.one (.ptr 107 0))), (8, .x (.one (.ptr 108 0))), (9, .x (.one (.p (pi y8)))), (10, .x (.one (.ptr 110 0))), (11, .x (.one (.p (pi y11)))), (12, .x (.one (.ptr 112 0))), (13, .x (.one (.p (pi y13)))), (14, .x (.one (.p (pi x_))))], mkH [(106, .var [.p (pi y1.Num), .p (pi y1.Den)]), (107, .var [.p (pi y3.Num), .p (pi y3.Den)]), (108, .var [.p (pi y7.Num), .p (pi y7.Den)]), (110, .var [.p (pi y10.Num), .p (pi y10.Den)]), (112, .var [.p (pi y12.Num), .p (pi y12.Den)])]⟩) ?hylaw01_RatioDecimalNear_j1 ?hxlaw01_RatioDecimalNear_j1
  case hylaw01_RatioDecimalNear_j1 =>
    rintro unit H0
    try dsimp only at H0 ⊢
    unfold law01_RatioDecimalNear_j1 at H0
    refine lok_seq ?_
    refine lok_rt E0 (⟨93, mkS [(6, .x (.one (.ptr 106 0))), (7, .x (.one (.ptr 107 0))), (8, .x (.one (.ptr 108 0))), (10, .x (.one (.ptr 110 0))), (12, .x (.one (.ptr 112 0))), (14, .x (.one (.p (pi unit)))), (63, .x (.one (.p (.val (.bool (((y8 != (0 : Int)) || (y11 != (0 : Int))) || (y13 != (0 : Int))))))))], mkH [(106, .var [.p (pi y1.Num), .p (pi y1.Den)]), (107, .var [.p (pi y3.Num), .p (pi y3.Den)]), (108, .var [.p (pi y7.Num), .p (pi y7.Den)]), (110, .var [.p (pi y10.Num), .p (pi y10.Den)]), (112, .var [.p (pi y12.Num), .p (pi y12.Den)])]⟩) ?_
    refine lok_c (((y8 != (0 : Int)) || (y11 != (0 : Int))) || (y13 != (0 : Int))) ?_ ?_
    · intro b_14
      replace H0 := cpos H0 b_14
      refine lok_rt E0 (⟨93, mkS [(4, .x (.one (.p (.val (.bool false)))))], mkH []⟩) ?_
      refine lok_ret ?_
      obtain rfl := Option.some.inj H0
      try simp only [thenL, blockL]
      exact fin_au _ (.inr rfl) [] (⟨93, mkS [(4, .x (.one (.p (.val (.bool false)))))], mkH []⟩) rfl rfl imp_au
    · intro b_14
      replace H0 := cneg H0 b_14
      refine lok_skip ?_
      try simp only [thenL, blockL, ↓reduceIte, reduceCtorEq]
      refine lok_rt E0 (⟨93, mkS [(6, .x (.one (.ptr 106 0))), (7, .x (.one (.ptr 107 0))), (8, .x (.one (.ptr 108 0))), (10, .x (.one (.ptr 110 0))), (12, .x (.one (.ptr 112 0))), (14, .x (.one (.p (pi unit)))), (16, .x (.one (.ptr 116 0)))], mkH [(106, .var [.p (pi y1.Num), .p (pi y1.Den)]), (107, .var [.p (pi y3.Num), .p (pi y3.Den)]), (108, .var [.p (pi y7.Num), .p (pi y7.Den)]), (110, .var [.p (pi y10.Num), .p (pi y10.Den)]), (112, .var [.p (pi y12.Num), .p (pi y12.Den)]), (116, .var [.p (pi (1 : Int)), .p (pi unit)])]⟩) ?_
      refine lok_rt E0 (⟨93, mkS [(6, .x (.one (.ptr 106 0))), (7, .x (.one (.ptr 107 0))), (8, .x (.one (.ptr 108 0))), (10, .x (.one (.ptr 110 0))), (12, .x (.one (.ptr 112 0))), (16, .x (.one (.ptr 116 0))), (17, .x (.one (.ptr 117 0)))], mkH [(106, .var [.p (pi y1.Num), .p (pi y1.Den)]), (107, .var [.p (pi y3.Num), .p (pi y3.Den)]), (108, .var [.p (pi y7.Num), .p (pi y7.Den)]), (110, .var [.p (pi y10.Num), .p (pi y10.Den)]), (112, .var [.p (pi y12.Num), .p (pi y12.Den)]), (116, .var [.p (pi (1 : Int)), .p (pi unit)]), (117, .var [.p (pi (-1 : Int)), .p (pi unit)])]⟩) ?_
      replace H0 := bind_some H0
      obtain ⟨y14, h_9, H0⟩ := H0
      replace H0 := req_some H0
      obtain ⟨⟨q_10, q_11, q_12, q_13⟩, H0⟩ := H0
      refine lok_rt (Env.of E0 [⟨some 70, 18, [.agg [.p (pi (1 : Int)), .p (pi unit)], .agg [.p (pi y12.Num), .p (pi y12.Den)]], [], [.one (.p (.val (.bool y14)))], [], True, fun _ => ok_ratio_Less (api_Ratio.mk (1 : Int) unit) y12 y14 h_9, []⟩,
      ⟨some 75, 18, [.agg [.p (pi y12.Num), .p (pi y12.Den)], .agg [.p (pi (-1 : Int)), .p (pi unit)]], [], [.one (.p (.val (.bool ((ratio_Less y12 (api_Ratio.mk (-1 : Int) unit)).getD default))))], [], (ratio_Less y12 (api_Ratio.mk (-1 : Int) unit)).isSome = true, fun h => ok_ratio_Less y12 (api_Ratio.mk (-1 : Int) unit) _ (isSome_get h), []⟩,
      ⟨some 81, 18, [.agg [.p (pi y1.Num), .p (pi y1.Den)], .agg [.p (pi y3.Num), .p (pi y3.Den)]], [], [.one (.p (.val (.bool ((ratio_Less y1 y3).getD default))))], [], (ratio_Less y1 y3).isSome = true, fun h => ok_ratio_Less y1 y3 _ (isSome_get h), []⟩,
      ⟨some 86, 18, [.agg [.p (pi y10.Num), .p (pi y10.Den)], .agg [.p (pi y7.Num), .p (pi y7.Den)]], [], [.one (.p (.val (.bool ((ratio_Less y10 y7).getD default))))], [], (ratio_Less y10 y7).isSome = true, fun h => ok_ratio_Less y10 y7 _ (isSome_get h), []⟩,
      ⟨some 91, 11, [], [], [.one (.p (.val (.bool ((law01_awake).getD default))))], [], (law01_awake).isSome = true, fun h => ok_law01_awake _ (isSome_get h), []⟩]) (⟨93, mkS [(4, .x (.one (.p (.val (.bool ((((!y14) && (!((ratio_Less y12 (api_Ratio.mk (-1 : Int) unit)).getD default))) && ((!((ratio_Less y1 y3).getD default)) || (!((ratio_Less y10 y7).getD default)))) && ((law01_awake).getD default)))))))], mkH []⟩) ?_
      refine lok_ret ?_
      obtain rfl := Option.some.inj H0
      try simp only [thenL, blockL]
      exact fin_au _ (.inr rfl) [] (⟨93, mkS [(4, .x (.one (.p (.val (.bool ((((!y14) && (!((ratio_Less y12 (api_Ratio.mk (-1 : Int) unit)).getD default))) && ((!((ratio_Less y1 y3).getD default)) || (!((ratio_Less y10 y7).getD default)))) && ((law01_awake).getD default)))))))], mkH []⟩) rfl rfl imp_au
  case hxlaw01_RatioDecimalNear_j1 =>
    refine lok_rt E0 (⟨93, mkS [(1, .x (.one (.p (pi (IntKind.i64.wrap ((1 : Int) + y5)))))), (6, .x (.one (.ptr 106 0))), (7, .x (.one (.ptr 107 0))), (8, .x (.one (.ptr 108 0))), (9, .x (.one (.p (pi y8)))), (10, .x (.one (.ptr 110 0))), (11, .x (.one (.p (pi y11)))), (12, .x (.one (.ptr 112 0))), (13, .x (.one (.p (pi y13)))), (14, .x (.one (.p (pi (2 : Int))))), (15, .x (.one (.p (pi (0 : Int)))))], mkH [(106, .var [.p (pi y1.Num), .p (pi y1.Den)]), (107, .var [.p (pi y3.Num), .p (pi y3.Den)]), (108, .var [.p (pi y7.Num), .p (pi y7.Den)]), (110, .var [.p (pi y10.Num), .p (pi y10.Den)]), (112, .var [.p (pi y12.Num), .p (pi y12.Den)])]⟩) ?_
    refine lok_block ?_
    replace H0 := bind_some H0
    obtain ⟨v_15, hv_15, H0⟩ := H0
    refine lok_iter (fun x_ => ⟨93, mkS [(1, .x (.one (.p (pi (IntKind.i64.wrap ((1 : Int) + y5)))))), (6, .x (.one (.ptr 106 0))), (7, .x (.one (.ptr 107 0))), (8, .x (.one (.ptr 108 0))), (9, .x (.one (.p (pi y8)))), (10, .x (.one (.ptr 110 0))), (11, .x (.one (.p (pi y11)))), (12, .x (.one (.ptr 112 0))), (13, .x (.one (.p (pi y13)))), (14, .x (.one (.p (pi x_.1)))), (15, .x (.one (.p (pi x_.2))))], mkH [(106, .var [.p (pi y1.Num), .p (pi y1.Den)]), (107, .var [.p (pi y3.Num), .p (pi y3.Den)]), (108, .var [.p (pi y7.Num), .p (pi y7.Den)]), (110, .var [.p (pi y10.Num), .p (pi y10.Den)]), (112, .var [.p (pi y12.Num), .p (pi y12.Den)])]⟩) hv_15 imp_au ?_
    · rintro ⟨unit1, i⟩ o_1 H1 k_1
      unfold law01_RatioDecimalNear_l2 at H1
      try dsimp only at H1 ⊢
      refine lok_seq ?_
      refine lok_rt E0 (⟨93, mkS [(1, .x (.one (.p (pi (IntKind.i64.wrap ((1 : Int) + y5)))))), (6, .x (.one (.ptr 106 0))), (7, .x (.one (.ptr 107 0))), (8, .x (.one (.ptr 108 0))), (9, .x (.one (.p (pi y8)))), (10, .x (.one (.ptr 110 0))), (11, .x (.one (.p (pi y11)))), (12, .x (.one (.ptr 112 0))), (13, .x (.one (.p (pi y13)))), (14, .x (.one (.p (pi unit1)))), (15, .x (.one (.p (pi i)))), (49, .x (.one (.p (.val (.bool (decide (i < (IntKind.i64.wrap ((1 : Int) + y5)))))))))], mkH [(106, .var [.p (pi y1.Num), .p (pi y1.Den)]), (107, .var [.p (pi y3.Num), .p (pi y3.Den)]), (108, .var [.p (pi y7.Num), .p (pi y7.Den)]), (110, .var [.p (pi y10.Num), .p (pi y10.Den)]), (112, .var [.p (pi y12.Num), .p (pi y12.Den)])]⟩) ?_
      refine lok_c (decide (i < (IntKind.i64.wrap ((1 : Int) + y5)))) ?_ ?_
      · intro b_16
        replace H1 := cpos H1 b_16
        refine lok_skip ?_
        try simp only [thenL, blockL, ↓reduceIte, reduceCtorEq]
        refine lok_seq ?_
        refine lok_block ?_
        refine lok_rl E0 (⟨93, mkS [(1, .x (.one (.p (pi (IntKind.i64.wrap ((1 : Int) + y5)))))), (6, .x (.one (.ptr 106 0))), (7, .x (.one (.ptr 107 0))), (8, .x (.one (.ptr 108 0))), (9, .x (.one (.p (pi y8)))), (10, .x (.one (.ptr 110 0))), (11, .x (.one (.p (pi y11)))), (12, .x (.one (.ptr 112 0))), (13, .x (.one (.p (pi y13)))), (14, .x (.one (.p (pi (IntKind.i64.wrap (unit1 * (10 : Int))))))), (15, .x (.one (.p (pi i))))], mkH [(106, .var [.p (pi y1.Num), .p (pi y1.Den)]), (107, .var [.p (pi y3.Num), .p (pi y3.Den)]), (108, .var [.p (pi y7.Num), .p (pi y7.Den)]), (110, .var [.p (pi y10.Num), .p (pi y10.Den)]), (112, .var [.p (pi y12.Num), .p (pi y12.Den)])]⟩) ?_
        try simp only [thenL, blockL, ↓reduceIte, reduceCtorEq]
        refine lok_rl E0 (⟨93, mkS [(1, .x (.one (.p (pi (IntKind.i64.wrap ((1 : Int) + y5)))))), (6, .x (.one (.ptr 106 0))), (7, .x (.one (.ptr 107 0))), (8, .x (.one (.ptr 108 0))), (9, .x (.one (.p (pi y8)))), (10, .x (.one (.ptr 110 0))), (11, .x (.one (.p (pi y11)))), (12, .x (.one (.ptr 112 0))), (13, .x (.one (.p (pi y13)))), (14, .x (.one (.p (pi (IntKind.i64.wrap (unit1 * (10 : Int))))))), (15, .x (.one (.p (pi (IntKind.i64.wrap (i + (1 : Int)))))))], mkH [(106, .var [.p (pi y1.Num), .p (pi y1.Den)]), (107, .var [.p (pi y3.Num), .p (pi y3.Den)]), (108, .var [.p (pi y7.Num), .p (pi y7.Den)]), (110, .var [.p (pi y10.Num), .p (pi y10.Den)]), (112, .var [.p (pi y12.Num), .p (pi y12.Den)])]⟩) ?_
        try simp only [thenL, blockL, ↓reduceIte, reduceCtorEq]
        exact ⟨((IntKind.i64.wrap (unit1 * (10 : Int))), (IntKind.i64.wrap (i + (1 : Int)))), (Option.some.inj H1).symm, imp_au⟩
      · intro b_16
        replace H1 := cneg H1 b_16
        refine lok_exit ?_
        try simp only [thenL, blockL, ↓reduceIte, reduceCtorEq]
        have e_1 := k_1 _ (Option.some.inj H1).symm
        subst e_1
        try dsimp only at H0
        try simp only [thenL, blockL, ↓reduceIte, reduceCtorEq]
        exact ⟨unit1, H0, imp_au⟩
end Go.LS
