/-
  The walks: the functions compute what the plain ones say. Condition: the plain function has a value.
-/
import Derived.Test.YtdfbbiahpcelmaaK1
import Derived.Test.YtdfbbiahpcelmaaD2
namespace Go.LS
open Go.Proofs
set_option linter.all false
set_option linter.unusedSimpArgs false
set_option linter.unusedVariables false
set_option maxRecDepth 20000

theorem ok_ref01_Size (n : Int) (r_ : Int) (H0 : ref01_Size n = some r_) : CallOK Try.prog 42 [.one (.p (pi n))] [] [.one (.p (.val (.int .u64 r_)))] [] := by
  refine callOK (n := 12) (rs := [.tmp 2]) (nb := 0) (V := []) Try.func42 rfl (by kernel_rfl) rfl rfl rfl rfl (Nat.le_of_ble_eq_true rfl) (by decide) ?_
  unfold ref01_Size at H0
  refine lok_rt E0 (⟨12, mkS [(0, .x (.one (.p (pi n))))], mkH []⟩) ?_
  refine lok_seq ?_
  refine lok_rt E0 (⟨12, mkS [(0, .x (.one (.p (pi n)))), (4, .x (.one (.p (.val (.bool (decide (n < (0 : Int))))))))], mkH []⟩) ?_
  refine lok_c (decide (n < (0 : Int))) ?_ ?_
  · intro b_1
    replace H0 := cpos H0 b_1
    replace H0 := bindV_some H0
    obtain ⟨v, a_0, H0⟩ := H0
    refine lok_rtg E0 a_0 (⟨12, mkS [(2, .x (.one (.p (.val (.int .u64 v)))))], mkH []⟩) ?_
    refine lok_ret ?_
    obtain rfl := Option.some.inj H0
    try simp only [thenL, blockL]
    exact fin_au _ (.inr rfl) [] (⟨12, mkS [(2, .x (.one (.p (.val (.int .u64 v)))))], mkH []⟩) rfl rfl imp_au
  · intro b_1
    replace H0 := cneg H0 b_1
    refine lok_skip ?_
    try simp only [thenL, blockL, ↓reduceIte, reduceCtorEq]
    refine lok_rt E0 (⟨12, mkS [(2, .x (.one (.p (.val (.int .u64 (IntKind.u64.wrap n))))))], mkH []⟩) ?_
    refine lok_ret ?_
    obtain rfl := Option.some.inj H0
    try simp only [thenL, blockL]
    exact fin_au _ (.inr rfl) [] (⟨12, mkS [(2, .x (.one (.p (.val (.int .u64 (IntKind.u64.wrap n))))))], mkH []⟩) rfl rfl imp_au
theorem ok_ref01_New (num : Int) (den : Int) (r_ : api_Ratio × Int) (H0 : ref01_New num den = some r_) : CallOK Try.prog 13 [.one (.p (pi num)), .one (.p (pi den))] [] [.agg [.p (pi r_.1.Num), .p (pi r_.1.Den)], .one (.p (pi r_.2))] [] := by
  refine callOK (n := 23) (rs := [.cell 4 31, .tmp 5]) (nb := 0) (V := []) Try.func13 rfl (by kernel_rfl) rfl rfl rfl rfl (Nat.le_of_ble_eq_true rfl) (by decide) ?_
  unfold ref01_New at H0
  refine lok_rt E0 (⟨23, mkS [(0, .x (.one (.p (pi num)))), (1, .x (.one (.p (pi den)))), (4, .x (.one (.ptr 104 0)))], mkH [(104, .var [.p (pi (0 : Int)), .p (pi (0 : Int))])]⟩) ?_
  refine lok_seq ?_
  refine lok_rt E0 (⟨23, mkS [(0, .x (.one (.p (pi num)))), (1, .x (.one (.p (pi den)))), (4, .x (.one (.ptr 104 0))), (7, .x (.one (.p (.val (.bool (den == (0 : Int)))))))], mkH [(104, .var [.p (pi (0 : Int)), .p (pi (0 : Int))])]⟩) ?_
  refine lok_c (den == (0 : Int)) ?_ ?_
  · intro b_3
    replace H0 := cpos H0 b_3
    refine lok_rt E0 (⟨23, mkS [(4, .x (.one (.ptr 104 0))), (5, .x (.one (.p (pi (2 : Int)))))], mkH [(104, .var [.p (pi (0 : Int)), .p (pi (0 : Int))])]⟩) ?_
    refine lok_ret ?_
    obtain rfl := Option.some.inj H0
    try simp only [thenL, blockL]
    exact fin_au _ (.inr rfl) [] (⟨23, mkS [(4, .x (.one (.ptr 104 0))), (5, .x (.one (.p (pi (2 : Int)))))], mkH [(104, .var [.p (pi (0 : Int)), .p (pi (0 : Int))])]⟩) rfl rfl imp_au
  · intro b_3
    replace H0 := cneg H0 b_3
    refine lok_skip ?_
    try simp only [thenL, blockL, ↓reduceIte, reduceCtorEq]
    replace H0 := bind_some H0
    obtain ⟨y, h_0, H0⟩ := H0
    replace H0 := bind_some H0
    obtain ⟨y1, h_1, H0⟩ := H0
    replace H0 := bind_some H0
    obtain ⟨⟨y2, y3⟩, h_2, H0⟩ := H0
    try dsimp only at H0
    refine lok_rt (Env.of E0 [⟨some 15, 42, [.one (.p (pi num))], [], [.one (.p (.val (.int .u64 y)))], [], True, fun _ => ok_ref01_Size num y h_0, []⟩,
      ⟨some 18, 42, [.one (.p (pi den))], [], [.one (.p (.val (.int .u64 y1)))], [], True, fun _ => ok_ref01_Size den y1 h_1, []⟩,
      ⟨some 20, 41, [.one (.p (.val (.bool (!((decide (num < (0 : Int))) == (decide (den < (0 : Int)))))))), .agg [.p (.val (.int .u64 (0 : Int))), .p (.val (.int .u64 y))], .agg [.p (.val (.int .u64 (0 : Int))), .p (.val (.int .u64 y1))]], [], [.agg [.p (pi y2.Num), .p (pi y2.Den)], .one (.p (pi y3))], [], True, fun _ => ok_ref01_Reduce (!((decide (num < (0 : Int))) == (decide (den < (0 : Int))))) (ref01_Wide.mk (0 : Int) y) (ref01_Wide.mk (0 : Int) y1) (y2, y3) h_2, []⟩]) (⟨23, mkS [(4, .x (.one (.ptr 104 0))), (5, .x (.one (.p (pi y3))))], mkH [(104, .var [.p (pi y2.Num), .p (pi y2.Den)])]⟩) ?_
    refine lok_ret ?_
    obtain rfl := Option.some.inj H0
    try simp only [thenL, blockL]
    exact fin_au _ (.inr rfl) [] (⟨23, mkS [(4, .x (.one (.ptr 104 0))), (5, .x (.one (.p (pi y3))))], mkH [(104, .var [.p (pi y2.Num), .p (pi y2.Den)])]⟩) rfl rfl imp_au
theorem ok_mark_Light (l : List Int) (r_ : Bool) (H0 : mark_Light l = some r_) : CallOK Try.prog 9 [.one (.p (.sl 1 (List.map encI l)))] [] [.one (.p (.val (.bool r_)))] [] := by
  refine callOK (n := 6) (rs := [.tmp 2]) (nb := 0) (V := []) Try.func9 rfl (by kernel_rfl) rfl rfl rfl rfl (Nat.le_of_ble_eq_true rfl) (by decide) ?_
  unfold mark_Light at H0
  refine lok_rt E0 (⟨6, mkS [(0, .x (.one (.p (.sl 1 (List.map encI l)))))], mkH []⟩) ?_
  refine lok_rt E0 (⟨6, mkS [(2, .x (.one (.p (.val (.bool (decide ((l.length : Int) ≤ (600 : Int))))))))], mkH []⟩) ?_
  refine lok_ret ?_
  obtain rfl := Option.some.inj H0
  try simp only [thenL, blockL]
  exact fin_au _ (.inr rfl) [] (⟨6, mkS [(2, .x (.one (.p (.val (.bool (decide ((l.length : Int) ≤ (600 : Int))))))))], mkH []⟩) rfl rfl imp_au
theorem ok_law32_DistributionQuantiles (t : List Int) (n : Int) (r_ : Bool) (H0 : law32_DistributionQuantiles t n = some r_) : CallOK Try.prog 3 [.one (.p (.sl 1 (List.map encI t))), .one (.p (.val (.int .u8 n)))] [] [.one (.p (.val (.bool r_)))] [] := by
  refine callOK (n := 91) (rs := [.tmp 4]) (nb := 0) (V := []) Try.func3 rfl (by kernel_rfl) rfl rfl rfl rfl (Nat.le_of_ble_eq_true rfl) (by decide) ?_
  unfold law32_DistributionQuantiles at H0
  refine lok_rt E0 (⟨91, mkS [(0, .x (.one (.p (.sl 1 (List.map encI t))))), (1, .x (.one (.p (.val (.int .u8 n)))))], mkH []⟩) ?_
  refine lok_seq ?_
  replace H0 := bind_some H0
  obtain ⟨y, h_0, H0⟩ := H0
  refine lok_rt (Env.of E0 [⟨some 14, 9, [.one (.p (.sl 1 (List.map encI t)))], [], [.one (.p (.val (.bool y)))], [], True, fun _ => ok_mark_Light t y h_0, []⟩]) (⟨91, mkS [(0, .x (.one (.p (.sl 1 (List.map encI t))))), (1, .x (.one (.p (.val (.int .u8 n))))), (15, .x (.one (.p (.val (.bool (!y))))))], mkH []⟩) ?_
  refine lok_c (!y) ?_ ?_
  · intro b_12
    replace H0 := cpos H0 b_12
    replace H0 := bind_some H0
    obtain ⟨y1, h_1, H0⟩ := H0
    refine lok_rt (Env.of E0 [⟨some 16, 10, [], [], [.one (.p (.val (.bool y1)))], [], True, fun _ => ok_law32_sane y1 h_1, []⟩]) (⟨91, mkS [(4, .x (.one (.p (.val (.bool y1)))))], mkH []⟩) ?_
    refine lok_ret ?_
    obtain rfl := Option.some.inj H0
    try simp only [thenL, blockL]
    exact fin_au _ (.inr rfl) [] (⟨91, mkS [(4, .x (.one (.p (.val (.bool y1)))))], mkH []⟩) rfl rfl imp_au
  · intro b_12
    replace H0 := cneg H0 b_12
    refine lok_skip ?_
    try simp only [thenL, blockL, ↓reduceIte, reduceCtorEq]
    replace H0 := bind_some H0
    obtain ⟨y2, h_2, H0⟩ := H0
    replace H0 := bind_some H0
    obtain ⟨⟨y3, y4⟩, h_3, H0⟩ := H0
    try dsimp only at H0
    refine lok_rt (Env.of E0 [⟨some 18, 11, [.one (.p (.sl 1 (List.map encI t)))], [], [.one (.ptr 0 0)], [some (.var [.p (.sl 1 (List.map encI y2.L)), .p (pi y2.At)])], True, fun _ => ok_mark_Roll t y2 h_2, []⟩,
      ⟨some 19, 12, [.one (.ptr 0 0), .one (.p (pi (8 : Int))), .one (.p (.val (.bool false)))], [.var [.p (.sl 1 (List.map encI y2.L)), .p (pi y2.At)]], [.agg [.p (.sl 1 (List.map encI y3.Counts))]], [some (.var [.p (.sl 1 (List.map encI y4.L)), .p (pi y4.At)])], True, fun _ => ok_mark_Dice_Distribution y2 (8 : Int) false (y3, y4) h_3, []⟩]) (⟨91, mkS [(1, .x (.one (.p (.val (.int .u8 n))))), (5, .x (.one (.ptr 105 0)))], mkH [(105, .var [.p (.sl 1 (List.map encI y3.Counts))])]⟩) ?_
    replace H0 := bind_some H0
    obtain ⟨⟨y5, y6⟩, h_4, H0⟩ := H0
    try dsimp only at H0
    refine lok_rt (Env.of E0 [⟨some 24, 13, [.one (.p (pi (IntKind.i64.wrap (Int.tmod n (13 : Int))))), .one (.p (pi (12 : Int)))], [], [.agg [.p (pi y5.Num), .p (pi y5.Den)], .one (.p (pi y6))], [], True, fun _ => ok_ref01_New (IntKind.i64.wrap (Int.tmod n (13 : Int))) (12 : Int) (y5, y6) h_4, []⟩]) (⟨91, mkS [(5, .x (.one (.ptr 105 0))), (6, .x (.one (.ptr 106 0))), (7, .x (.one (.p (pi y6))))], mkH [(105, .var [.p (.sl 1 (List.map encI y3.Counts))]), (106, .var [.p (pi y5.Num), .p (pi y5.Den)])]⟩) ?_
    replace H0 := bind_some H0
    obtain ⟨⟨y7, y8⟩, h_5, H0⟩ := H0
    try dsimp only at H0
    refine lok_rt (Env.of E0 [⟨some 30, 14, [.agg [.p (.sl 1 (List.map encI y3.Counts))], .agg [.p (pi y5.Num), .p (pi y5.Den)]], [], [.one (.p (pi y7)), .one (.p (pi y8))], [], True, fun _ => ok_distribution_Quantile y3 y5 (y7, y8) h_5, []⟩]) (⟨91, mkS [(5, .x (.one (.ptr 105 0))), (6, .x (.one (.ptr 106 0))), (7, .x (.one (.p (pi y6)))), (8, .x (.one (.p (pi y7)))), (9, .x (.one (.p (pi y8))))], mkH [(105, .var [.p (.sl 1 (List.map encI y3.Counts))]), (106, .var [.p (pi y5.Num), .p (pi y5.Den)])]⟩) ?_
    refine lok_seq ?_
    refine lok_rt E0 (⟨91, mkS [(5, .x (.one (.ptr 105 0))), (6, .x (.one (.ptr 106 0))), (8, .x (.one (.p (pi y7)))), (9, .x (.one (.p (pi y8)))), (45, .x (.one (.p (.val (.bool (((y6 != (0 : Int)) || (decide (y5.Den < y5.Num))) || (y8 != (0 : Int))))))))], mkH [(105, .var [.p (.sl 1 (List.map encI y3.Counts))]), (106, .var [.p (pi y5.Num), .p (pi y5.Den)])]⟩) ?_
    refine lok_c (((y6 != (0 : Int)) || (decide (y5.Den < y5.Num))) || (y8 != (0 : Int))) ?_ ?_
    · intro b_11
      replace H0 := cpos H0 b_11
      replace H0 := req_some H0
      obtain ⟨q_6, H0⟩ := H0
      refine lok_rt (Env.of E0 [⟨some 53, 10, [], [], [.one (.p (.val (.bool ((law32_sane).getD default))))], [], (law32_sane).isSome = true, fun h => ok_law32_sane _ (isSome_get h), []⟩]) (⟨91, mkS [(4, .x (.one (.p (.val (.bool (((y8 == (10 : Int)) || (y8 == (2 : Int))) && ((law32_sane).getD default)))))))], mkH []⟩) ?_
      refine lok_ret ?_
      obtain rfl := Option.some.inj H0
      try simp only [thenL, blockL]
      exact fin_au _ (.inr rfl) [] (⟨91, mkS [(4, .x (.one (.p (.val (.bool (((y8 == (10 : Int)) || (y8 == (2 : Int))) && ((law32_sane).getD default)))))))], mkH []⟩) rfl rfl imp_au
    · intro b_11
      replace H0 := cneg H0 b_11
      refine lok_skip ?_
      try simp only [thenL, blockL, ↓reduceIte, reduceCtorEq]
      replace H0 := bind_some H0
      obtain ⟨y9, h_7, H0⟩ := H0
      refine lok_rt (Env.of E0 [⟨some 56, 15, [.agg [.p (.sl 1 (List.map encI y3.Counts))]], [], [.one (.p (pi y9))], [], True, fun _ => ok_distribution_Count y3 y9 h_7, []⟩]) (⟨91, mkS [(5, .x (.one (.ptr 105 0))), (6, .x (.one (.ptr 106 0))), (8, .x (.one (.p (pi y7)))), (10, .x (.one (.p (pi y9))))], mkH [(105, .var [.p (.sl 1 (List.map encI y3.Counts))]), (106, .var [.p (pi y5.Num), .p (pi y5.Den)])]⟩) ?_
      replace H0 := bind_some H0
      obtain ⟨y10, h_8, H0⟩ := H0
      replace H0 := bind_some H0
      obtain ⟨y11, h_9, H0⟩ := H0
      refine lok_dt (Env.of E0 [⟨some 59, 16, [.agg [.p (.sl 1 (List.map encI y3.Counts))], .one (.p (pi y7))], [], [.one (.p (pi y10))], [], True, fun _ => ok_distribution_Below y3 y7 y10 h_8, []⟩,
      ⟨some 63, 16, [.agg [.p (.sl 1 (List.map encI y3.Counts))], .one (.p (pi (IntKind.i64.wrap (y7 + (1 : Int)))))], [], [.one (.p (pi y11))], [], True, fun _ => ok_distribution_Below y3 (IntKind.i64.wrap (y7 + (1 : Int))) y11 h_9, []⟩]) 6 (⟨91, mkS [(6, .x (.one (.ptr 106 0))), (8, .x (.one (.p (pi y7)))), (10, .x (.one (.p (pi y9)))), (11, .x (.one (.p (pi y10)))), (12, .x (.one (.p (pi y11))))], mkH [(106, .var [.p (pi y5.Num), .p (pi y5.Den)])]⟩) (by kernel_rfl) (by kernel_rfl) ?_
      replace H0 := req_some H0
      obtain ⟨q_10, H0⟩ := H0
      refine lok_rt (Env.of E0 [⟨some 89, 10, [], [], [.one (.p (.val (.bool ((law32_sane).getD default))))], [], (law32_sane).isSome = true, fun h => ok_law32_sane _ (isSome_get h), []⟩]) (⟨91, mkS [(4, .x (.one (.p (.val (.bool (((decide ((IntKind.i64.wrap (y5.Num * y9)) ≤ (IntKind.i64.wrap (y11 * y5.Den)))) && ((y7 == (0 : Int)) || (decide ((IntKind.i64.wrap (y10 * y5.Den)) < (IntKind.i64.wrap (y5.Num * y9)))))) && ((law32_sane).getD default)))))))], mkH []⟩) ?_
      refine lok_ret ?_
      obtain rfl := Option.some.inj H0
      try simp only [thenL, blockL]
      exact fin_au _ (.inr rfl) [] (⟨91, mkS [(4, .x (.one (.p (.val (.bool (((decide ((IntKind.i64.wrap (y5.Num * y9)) ≤ (IntKind.i64.wrap (y11 * y5.Den)))) && ((y7 == (0 : Int)) || (decide ((IntKind.i64.wrap (y10 * y5.Den)) < (IntKind.i64.wrap (y5.Num * y9)))))) && ((law32_sane).getD default)))))))], mkH []⟩) rfl rfl imp_au
theorem ok_distribution_Add (a : api_Distribution) (b : api_Distribution) (r_ : api_Distribution × Int) (H0 : distribution_Add a b = some r_) : CallOK Try.prog 20 [.agg [.p (.sl 1 (List.map encI a.Counts))], .agg [.p (.sl 1 (List.map encI b.Counts))]] [] [.agg [.p (.sl 1 (List.map encI r_.1.Counts))], .one (.p (pi r_.2))] [] := by
  refine callOK (n := 69) (rs := [.cell 4 26, .tmp 5]) (nb := 0) (V := []) Try.func20 rfl (by kernel_rfl) rfl rfl rfl rfl (Nat.le_of_ble_eq_true rfl) (by decide) ?_
  unfold distribution_Add at H0
  refine lok_rt E0 (⟨69, mkS [(2, .x (.one (.ptr 102 0))), (3, .x (.one (.ptr 103 0))), (4, .x (.one (.ptr 104 0)))], mkH [(102, .var [.p (.sl 1 (List.map encI a.Counts))]), (103, .var [.p (.sl 1 (List.map encI b.Counts))]), (104, .var [.p .nil])]⟩) ?_
  refine lok_seq ?_
  replace H0 := bind_some H0
  obtain ⟨y, h_0, H0⟩ := H0
  replace H0 := req_some H0
  obtain ⟨q_14, H0⟩ := H0
  refine lok_rt (Env.of E0 [⟨some 12, 28, [.agg [.p (.sl 1 (List.map encI a.Counts))]], [], [.one (.p (.val (.bool y)))], [], True, fun _ => ok_distribution_Valid a y h_0, []⟩,
      ⟨some 16, 28, [.agg [.p (.sl 1 (List.map encI b.Counts))]], [], [.one (.p (.val (.bool ((distribution_Valid b).getD default))))], [], (distribution_Valid b).isSome = true, fun h => ok_distribution_Valid b _ (isSome_get h), []⟩]) (⟨69, mkS [(2, .x (.one (.ptr 102 0))), (3, .x (.one (.ptr 103 0))), (4, .x (.one (.ptr 104 0))), (18, .x (.one (.p (.val (.bool ((!y) || (!((distribution_Valid b).getD default))))))))], mkH [(102, .var [.p (.sl 1 (List.map encI a.Counts))]), (103, .var [.p (.sl 1 (List.map encI b.Counts))]), (104, .var [.p .nil])]⟩) ?_
  refine lok_c ((!y) || (!((distribution_Valid b).getD default))) ?_ ?_
  · intro b_13
    replace H0 := cpos H0 b_13
    refine lok_rt E0 (⟨69, mkS [(4, .x (.one (.ptr 104 0))), (5, .x (.one (.p (pi (1 : Int)))))], mkH [(104, .var [.p .nil])]⟩) ?_
    refine lok_ret ?_
    obtain rfl := Option.some.inj H0
    try simp only [thenL, blockL]
    exact fin_au _ (.inr rfl) [] (⟨69, mkS [(4, .x (.one (.ptr 104 0))), (5, .x (.one (.p (pi (1 : Int)))))], mkH [(104, .var [.p (.sl 1 (List.map encI ([] : List Int)))])]⟩) rfl rfl imp_au
  · intro b_13
    replace H0 := cneg H0 b_13
    refine lok_skip ?_
    try simp only [thenL, blockL, ↓reduceIte, reduceCtorEq]
    refine lok_seq ?_
    replace H0 := bind_some H0
    obtain ⟨y1, h_1, H0⟩ := H0
    replace H0 := bind_some H0
    obtain ⟨y2, h_2, H0⟩ := H0
    refine lok_dt (Env.of E0 [⟨some 21, 15, [.agg [.p (.sl 1 (List.map encI a.Counts))]], [], [.one (.p (pi y1))], [], True, fun _ => ok_distribution_Count a y1 h_1, []⟩,
      ⟨some 23, 15, [.agg [.p (.sl 1 (List.map encI b.Counts))]], [], [.one (.p (pi y2))], [], True, fun _ => ok_distribution_Count b y2 h_2, []⟩]) 3 (⟨69, mkS [(2, .x (.one (.ptr 102 0))), (3, .x (.one (.ptr 103 0))), (4, .x (.one (.ptr 104 0))), (25, .x (.one (.p (.val (.bool (decide ((1048576 : Int) < (IntKind.i64.wrap (y1 + y2)))))))))], mkH [(102, .var [.p (.sl 1 (List.map encI a.Counts))]), (103, .var [.p (.sl 1 (List.map encI b.Counts))]), (104, .var [.p .nil])]⟩) (by kernel_rfl) (by kernel_rfl) ?_
    refine lok_c (decide ((1048576 : Int) < (IntKind.i64.wrap (y1 + y2)))) ?_ ?_
    · intro b_12
      replace H0 := cpos H0 b_12
      refine lok_rt E0 (⟨69, mkS [(4, .x (.one (.ptr 104 0))), (5, .x (.one (.p (pi (3 : Int)))))], mkH [(104, .var [.p .nil])]⟩) ?_
      refine lok_ret ?_
      obtain rfl := Option.some.inj H0
      try simp only [thenL, blockL]
      exact fin_au _ (.inr rfl) [] (⟨69, mkS [(4, .x (.one (.ptr 104 0))), (5, .x (.one (.p (pi (3 : Int)))))], mkH [(104, .var [.p (.sl 1 (List.map encI ([] : List Int)))])]⟩) rfl rfl imp_au
    · intro b_12
      replace H0 := cneg H0 b_12
      refine lok_skip ?_
      try simp only [thenL, blockL, ↓reduceIte, reduceCtorEq]
      replace H0 := req_some H0
      obtain ⟨q_11, H0⟩ := H0
      refine lok_rt E0 (⟨69, mkS [(2, .x (.one (.ptr 102 0))), (3, .x (.one (.ptr 103 0))), (4, .x (.one (.ptr 104 0))), (6, .x (.one (.vw 134)))], mkH [(102, .var [.p (.sl 1 (List.map encI a.Counts))]), (103, .var [.p (.sl 1 (List.map encI b.Counts))]), (104, .var [.p .nil]), (134, .arr 1 (List.map encI (rep (imax (a.Counts.length : Int) (b.Counts.length : Int)) (0 : Int))))]⟩) ?_
      refine lok_join (fun x_ : (List Int) => distribution_Add_j3 b x_ = some r_) (fun x_ => ⟨69, mkS [(3, .x (.one (.ptr 103 0))), (4, .x (.one (.ptr 104 0))), (6, .x (.one (.vw 134)))], mkH [(103, .var [.p (.sl 1 (List.map encI b.Counts))]), (104, .var [.p .nil]), (134, .arr 1 (List.map encI x_))]⟩) ?hydistribution_Add_j3 ?hxdistribution_Add_j3
      case hydistribution_Add_j3 =>
        rintro w H0
        try dsimp only at H0 ⊢
        unfold distribution_Add_j3 at H0
        refine lok_join (fun x_ : (List Int) => distribution_Add_j1 x_ = some r_) (fun x_ => ⟨69, mkS [(4, .x (.one (.ptr 104 0))), (6, .x (.one (.vw 134)))], mkH [(104, .var [.p .nil]), (134, .arr 1 (List.map encI x_))]⟩) ?hydistribution_Add_j1 ?hxdistribution_Add_j1
        case hydistribution_Add_j1 =>
          rintro w1 H0
          try dsimp only at H0 ⊢
          unfold distribution_Add_j1 at H0
          refine lok_rt E0 (⟨69, mkS [(4, .x (.one (.ptr 104 0))), (5, .x (.one (.p (pi (0 : Int)))))], mkH [(104, .var [.vw 134]), (134, .arr 1 (List.map encI w1))]⟩) ?_
          refine lok_ret ?_
          obtain rfl := Option.some.inj H0
          try simp only [thenL, blockL]
          exact fin_au _ (.inr rfl) [] (⟨69, mkS [(4, .x (.one (.ptr 104 0))), (5, .x (.one (.p (pi (0 : Int)))))], mkH [(104, .var [.p (.sl 1 (List.map encI w1))])]⟩) rfl rfl (Imp.trans (imp_frz 134 1 (List.map encI w1)) imp_au)
        case hxdistribution_Add_j1 =>
          refine lok_rt E0 (⟨69, mkS [(4, .x (.one (.ptr 104 0))), (6, .x (.one (.vw 134))), (52, .x (.one (.p (.sl 1 (List.map encI b.Counts))))), (53, .x (.one (.p (pi (b.Counts.length : Int))))), (54, .x (.one (.p (pi (0 : Int)))))], mkH [(104, .var [.p .nil]), (134, .arr 1 (List.map encI w))]⟩) ?_
          refine lok_block ?_
          replace H0 := bind_some H0
          obtain ⟨v_3, hv_3, H0⟩ := H0
          refine lok_iter (fun x_ => ⟨69, mkS [(4, .x (.one (.ptr 104 0))), (6, .x (.one (.vw 134))), (52, .x (.one (.p (.sl 1 (List.map encI b.Counts))))), (53, .x (.one (.p (pi (b.Counts.length : Int))))), (54, .x (.one (.p (pi x_.1))))], mkH [(104, .var [.p .nil]), (134, .arr 1 (List.map encI x_.2))]⟩) hv_3 imp_au ?_
          · rintro ⟨v, w2⟩ o_1 H1 k_1
            unfold distribution_Add_l2 at H1
            try dsimp only at H1 ⊢
            refine lok_rt E0 (⟨69, mkS [(4, .x (.one (.ptr 104 0))), (6, .x (.one (.vw 134))), (52, .x (.one (.p (.sl 1 (List.map encI b.Counts))))), (53, .x (.one (.p (pi (b.Counts.length : Int))))), (54, .x (.one (.p (pi v)))), (55, .x (.one (.p (.val (.bool (decide (v < (b.Counts.length : Int))))))))], mkH [(104, .var [.p .nil]), (134, .arr 1 (List.map encI w2))]⟩) ?_
            refine lok_seq ?_
            refine lok_c (decide (v < (b.Counts.length : Int))) ?_ ?_
            · intro b_6
              replace H1 := cpos H1 b_6
              refine lok_skip ?_
              try simp only [thenL, blockL, ↓reduceIte, reduceCtorEq]
              refine lok_seq ?_
              refine lok_block ?_
              replace H1 := req_some H1
              obtain ⟨q_5, H1⟩ := H1
              refine lok_rt E0 (⟨69, mkS [(4, .x (.one (.ptr 104 0))), (6, .x (.one (.vw 134))), (9, .x (.one (.p (pi v)))), (10, .x (.one (.p (pi (ix b.Counts v))))), (52, .x (.one (.p (.sl 1 (List.map encI b.Counts))))), (53, .x (.one (.p (pi (b.Counts.length : Int))))), (54, .x (.one (.p (pi v))))], mkH [(104, .var [.p .nil]), (134, .arr 1 (List.map encI w2))]⟩) ?_
              replace H1 := req_some H1
              obtain ⟨q_4, H1⟩ := H1
              refine lok_rl E0 (⟨69, mkS [(4, .x (.one (.ptr 104 0))), (6, .x (.one (.vw 134))), (52, .x (.one (.p (.sl 1 (List.map encI b.Counts))))), (53, .x (.one (.p (pi (b.Counts.length : Int))))), (54, .x (.one (.p (pi v))))], mkH [(104, .var [.p .nil]), (134, .arr 1 (List.map encI (setI w2 v (IntKind.i64.wrap ((ix w2 v) + (ix b.Counts v))))))]⟩) ?_
              try simp only [thenL, blockL, ↓reduceIte, reduceCtorEq]
              refine lok_rl E0 (⟨69, mkS [(4, .x (.one (.ptr 104 0))), (6, .x (.one (.vw 134))), (52, .x (.one (.p (.sl 1 (List.map encI b.Counts))))), (53, .x (.one (.p (pi (b.Counts.length : Int))))), (54, .x (.one (.p (pi (IntKind.i64.wrap (v + (1 : Int)))))))], mkH [(104, .var [.p .nil]), (134, .arr 1 (List.map encI (setI w2 v (IntKind.i64.wrap ((ix w2 v) + (ix b.Counts v))))))]⟩) ?_
              try simp only [thenL, blockL, ↓reduceIte, reduceCtorEq]
              exact ⟨((IntKind.i64.wrap (v + (1 : Int))), (setI w2 v (IntKind.i64.wrap ((ix w2 v) + (ix b.Counts v))))), (Option.some.inj H1).symm, imp_au⟩
            · intro b_6
              replace H1 := cneg H1 b_6
              refine lok_exit ?_
              try simp only [thenL, blockL, ↓reduceIte, reduceCtorEq]
              have e_1 := k_1 _ (Option.some.inj H1).symm
              subst e_1
              try dsimp only at H0
              try simp only [thenL, blockL, ↓reduceIte, reduceCtorEq]
              exact ⟨w2, H0, imp_au⟩
      case hxdistribution_Add_j3 =>
        refine lok_rt E0 (⟨69, mkS [(3, .x (.one (.ptr 103 0))), (4, .x (.one (.ptr 104 0))), (6, .x (.one (.vw 134))), (36, .x (.one (.p (.sl 1 (List.map encI a.Counts))))), (37, .x (.one (.p (pi (a.Counts.length : Int))))), (38, .x (.one (.p (pi (0 : Int)))))], mkH [(103, .var [.p (.sl 1 (List.map encI b.Counts))]), (104, .var [.p .nil]), (134, .arr 1 (List.map encI (rep (imax (a.Counts.length : Int) (b.Counts.length : Int)) (0 : Int))))]⟩) ?_
        refine lok_block ?_
        replace H0 := bind_some H0
        obtain ⟨v_7, hv_7, H0⟩ := H0
        refine lok_iter (fun x_ => ⟨69, mkS [(3, .x (.one (.ptr 103 0))), (4, .x (.one (.ptr 104 0))), (6, .x (.one (.vw 134))), (36, .x (.one (.p (.sl 1 (List.map encI a.Counts))))), (37, .x (.one (.p (pi (a.Counts.length : Int))))), (38, .x (.one (.p (pi x_.1))))], mkH [(103, .var [.p (.sl 1 (List.map encI b.Counts))]), (104, .var [.p .nil]), (134, .arr 1 (List.map encI x_.2))]⟩) hv_7 imp_au ?_
        · rintro ⟨v1, w4⟩ o_1 H1 k_1
          unfold distribution_Add_l4 at H1
          try dsimp only at H1 ⊢
          refine lok_rt E0 (⟨69, mkS [(3, .x (.one (.ptr 103 0))), (4, .x (.one (.ptr 104 0))), (6, .x (.one (.vw 134))), (36, .x (.one (.p (.sl 1 (List.map encI a.Counts))))), (37, .x (.one (.p (pi (a.Counts.length : Int))))), (38, .x (.one (.p (pi v1)))), (39, .x (.one (.p (.val (.bool (decide (v1 < (a.Counts.length : Int))))))))], mkH [(103, .var [.p (.sl 1 (List.map encI b.Counts))]), (104, .var [.p .nil]), (134, .arr 1 (List.map encI w4))]⟩) ?_
          refine lok_seq ?_
          refine lok_c (decide (v1 < (a.Counts.length : Int))) ?_ ?_
          · intro b_10
            replace H1 := cpos H1 b_10
            refine lok_skip ?_
            try simp only [thenL, blockL, ↓reduceIte, reduceCtorEq]
            refine lok_seq ?_
            refine lok_block ?_
            replace H1 := req_some H1
            obtain ⟨q_9, H1⟩ := H1
            refine lok_rt E0 (⟨69, mkS [(3, .x (.one (.ptr 103 0))), (4, .x (.one (.ptr 104 0))), (6, .x (.one (.vw 134))), (7, .x (.one (.p (pi v1)))), (8, .x (.one (.p (pi (ix a.Counts v1))))), (36, .x (.one (.p (.sl 1 (List.map encI a.Counts))))), (37, .x (.one (.p (pi (a.Counts.length : Int))))), (38, .x (.one (.p (pi v1))))], mkH [(103, .var [.p (.sl 1 (List.map encI b.Counts))]), (104, .var [.p .nil]), (134, .arr 1 (List.map encI w4))]⟩) ?_
            replace H1 := req_some H1
            obtain ⟨q_8, H1⟩ := H1
            refine lok_rl E0 (⟨69, mkS [(3, .x (.one (.ptr 103 0))), (4, .x (.one (.ptr 104 0))), (6, .x (.one (.vw 134))), (36, .x (.one (.p (.sl 1 (List.map encI a.Counts))))), (37, .x (.one (.p (pi (a.Counts.length : Int))))), (38, .x (.one (.p (pi v1))))], mkH [(103, .var [.p (.sl 1 (List.map encI b.Counts))]), (104, .var [.p .nil]), (134, .arr 1 (List.map encI (setI w4 v1 (IntKind.i64.wrap ((ix w4 v1) + (ix a.Counts v1))))))]⟩) ?_
            try simp only [thenL, blockL, ↓reduceIte, reduceCtorEq]
            refine lok_rl E0 (⟨69, mkS [(3, .x (.one (.ptr 103 0))), (4, .x (.one (.ptr 104 0))), (6, .x (.one (.vw 134))), (36, .x (.one (.p (.sl 1 (List.map encI a.Counts))))), (37, .x (.one (.p (pi (a.Counts.length : Int))))), (38, .x (.one (.p (pi (IntKind.i64.wrap (v1 + (1 : Int)))))))], mkH [(103, .var [.p (.sl 1 (List.map encI b.Counts))]), (104, .var [.p .nil]), (134, .arr 1 (List.map encI (setI w4 v1 (IntKind.i64.wrap ((ix w4 v1) + (ix a.Counts v1))))))]⟩) ?_
            try simp only [thenL, blockL, ↓reduceIte, reduceCtorEq]
            exact ⟨((IntKind.i64.wrap (v1 + (1 : Int))), (setI w4 v1 (IntKind.i64.wrap ((ix w4 v1) + (ix a.Counts v1))))), (Option.some.inj H1).symm, imp_au⟩
          · intro b_10
            replace H1 := cneg H1 b_10
            refine lok_exit ?_
            try simp only [thenL, blockL, ↓reduceIte, reduceCtorEq]
            have e_1 := k_1 _ (Option.some.inj H1).symm
            subst e_1
            try dsimp only at H0
            try simp only [thenL, blockL, ↓reduceIte, reduceCtorEq]
            exact ⟨w4, H0, imp_au⟩
theorem ok_ref01_Valid (a : api_Ratio) (r_ : Bool) (H0 : ref01_Valid a = some r_) : CallOK Try.prog 51 [.agg [.p (pi a.Num), .p (pi a.Den)]] [] [.one (.p (.val (.bool r_)))] [] := by
  refine callOK (n := 32) (rs := [.tmp 2]) (nb := 0) (V := []) Try.func51 rfl (by kernel_rfl) rfl rfl rfl rfl (Nat.le_of_ble_eq_true rfl) (by decide) ?_
  unfold ref01_Valid at H0
  refine lok_rt E0 (⟨32, mkS [(1, .x (.one (.ptr 101 0)))], mkH [(101, .var [.p (pi a.Num), .p (pi a.Den)])]⟩) ?_
  refine lok_seq ?_
  refine lok_rt E0 (⟨32, mkS [(1, .x (.one (.ptr 101 0))), (20, .x (.one (.p (.val (.bool ((((decide (a.Den < (1 : Int))) || (decide ((1152921504606846976 : Int) < a.Den))) || (decide (a.Num < (-1152921504606846976 : Int)))) || (decide ((1152921504606846976 : Int) < a.Num))))))))], mkH [(101, .var [.p (pi a.Num), .p (pi a.Den)])]⟩) ?_
  refine lok_c ((((decide (a.Den < (1 : Int))) || (decide ((1152921504606846976 : Int) < a.Den))) || (decide (a.Num < (-1152921504606846976 : Int)))) || (decide ((1152921504606846976 : Int) < a.Num))) ?_ ?_
  · intro b_3
    replace H0 := cpos H0 b_3
    refine lok_rt E0 (⟨32, mkS [(2, .x (.one (.p (.val (.bool false)))))], mkH []⟩) ?_
    refine lok_ret ?_
    obtain rfl := Option.some.inj H0
    try simp only [thenL, blockL]
    exact fin_au _ (.inr rfl) [] (⟨32, mkS [(2, .x (.one (.p (.val (.bool false)))))], mkH []⟩) rfl rfl imp_au
  · intro b_3
    replace H0 := cneg H0 b_3
    refine lok_skip ?_
    try simp only [thenL, blockL, ↓reduceIte, reduceCtorEq]
    replace H0 := bind_some H0
    obtain ⟨y, h_0, H0⟩ := H0
    replace H0 := bind_some H0
    obtain ⟨y1, h_1, H0⟩ := H0
    replace H0 := bind_some H0
    obtain ⟨y2, h_2, H0⟩ := H0
    refine lok_dt (Env.of E0 [⟨some 23, 42, [.one (.p (pi a.Num))], [], [.one (.p (.val (.int .u64 y)))], [], True, fun _ => ok_ref01_Size a.Num y h_0, []⟩,
      ⟨some 27, 42, [.one (.p (pi a.Den))], [], [.one (.p (.val (.int .u64 y1)))], [], True, fun _ => ok_ref01_Size a.Den y1 h_1, []⟩,
      ⟨some 29, 54, [.agg [.p (.val (.int .u64 (0 : Int))), .p (.val (.int .u64 y))], .agg [.p (.val (.int .u64 (0 : Int))), .p (.val (.int .u64 y1))]], [], [.agg [.p (.val (.int .u64 y2.Hi)), .p (.val (.int .u64 y2.Lo))]], [], True, fun _ => ok_ref01_Divisor (ref01_Wide.mk (0 : Int) y) (ref01_Wide.mk (0 : Int) y1) y2 h_2, []⟩]) 10 (⟨32, mkS [(2, .x (.one (.p (.val (.bool ((y2.Hi == (0 : Int)) && (y2.Lo == (1 : Int))))))))], mkH []⟩) (by kernel_rfl) (by kernel_rfl) ?_
    refine lok_ret ?_
    obtain rfl := Option.some.inj H0
    try simp only [thenL, blockL]
    exact fin_au _ (.inr rfl) [] (⟨32, mkS [(2, .x (.one (.p (.val (.bool ((y2.Hi == (0 : Int)) && (y2.Lo == (1 : Int))))))))], mkH []⟩) rfl rfl imp_au
theorem ok_bits_Add64 (x y carry : Int) (r_ : Int × Int) (H0 : bits_Add64 x y carry = some r_) : CallOK Try.prog 77 [.int .u64 x, .int .u64 y, .int .u64 carry] [] [.int .u64 r_.1, .int .u64 r_.2] [] :=
  okAdd64 Try.func77 (by kernel_rfl) (by kernel_rfl) (by kernel_rfl) (by kernel_rfl) _ _ _ r_ H0
theorem ok_ref01_Plus (a : ref01_Wide) (b : ref01_Wide) (r_ : ref01_Wide) (H0 : ref01_Plus a b = some r_) : CallOK Try.prog 71 [.agg [.p (.val (.int .u64 a.Hi)), .p (.val (.int .u64 a.Lo))], .agg [.p (.val (.int .u64 b.Hi)), .p (.val (.int .u64 b.Lo))]] [] [.agg [.p (.val (.int .u64 r_.Hi)), .p (.val (.int .u64 r_.Lo))]] [] := by
  refine callOK (n := 29) (rs := [.cell 4 64]) (nb := 0) (V := []) Try.func71 rfl (by kernel_rfl) rfl rfl rfl rfl (Nat.le_of_ble_eq_true rfl) (by decide) ?_
  unfold ref01_Plus at H0
  refine lok_rt E0 (⟨29, mkS [(2, .x (.one (.ptr 102 0))), (3, .x (.one (.ptr 103 0))), (4, .x (.one (.ptr 104 0)))], mkH [(102, .var [.p (.val (.int .u64 a.Hi)), .p (.val (.int .u64 a.Lo))]), (103, .var [.p (.val (.int .u64 b.Hi)), .p (.val (.int .u64 b.Lo))]), (104, .var [.p (.val (.int .u64 (0 : Int))), .p (.val (.int .u64 (0 : Int)))])]⟩) ?_
  replace H0 := bind_some H0
  obtain ⟨⟨y, y1⟩, h_0, H0⟩ := H0
  try dsimp only at H0
  refine lok_rt (Env.of E0 [⟨some 14, 77, [.one (.p (.val (.int .u64 a.Lo))), .one (.p (.val (.int .u64 b.Lo))), .one (.p (.val (.int .u64 (0 : Int))))], [], [.one (.p (.val (.int .u64 y))), .one (.p (.val (.int .u64 y1)))], [], True, fun _ => ok_bits_Add64 a.Lo b.Lo (0 : Int) (y, y1) h_0, []⟩]) (⟨29, mkS [(2, .x (.one (.ptr 102 0))), (3, .x (.one (.ptr 103 0))), (4, .x (.one (.ptr 104 0))), (5, .x (.one (.p (.val (.int .u64 y))))), (6, .x (.one (.p (.val (.int .u64 y1)))))], mkH [(102, .var [.p (.val (.int .u64 a.Hi)), .p (.val (.int .u64 a.Lo))]), (103, .var [.p (.val (.int .u64 b.Hi)), .p (.val (.int .u64 b.Lo))]), (104, .var [.p (.val (.int .u64 (0 : Int))), .p (.val (.int .u64 (0 : Int)))])]⟩) ?_
  replace H0 := bind_some H0
  obtain ⟨⟨y2, y3⟩, h_1, H0⟩ := H0
  try dsimp only at H0
  refine lok_rt (Env.of E0 [⟨some 23, 77, [.one (.p (.val (.int .u64 a.Hi))), .one (.p (.val (.int .u64 b.Hi))), .one (.p (.val (.int .u64 y1)))], [], [.one (.p (.val (.int .u64 y2))), .one (.p (.val (.int .u64 y3)))], [], True, fun _ => ok_bits_Add64 a.Hi b.Hi y1 (y2, y3) h_1, []⟩]) (⟨29, mkS [(4, .x (.one (.ptr 104 0))), (5, .x (.one (.p (.val (.int .u64 y))))), (7, .x (.one (.p (.val (.int .u64 y2)))))], mkH [(104, .var [.p (.val (.int .u64 (0 : Int))), .p (.val (.int .u64 (0 : Int)))])]⟩) ?_
  refine lok_rt E0 (⟨29, mkS [(4, .x (.one (.ptr 104 0)))], mkH [(104, .var [.p (.val (.int .u64 y2)), .p (.val (.int .u64 y))])]⟩) ?_
  refine lok_ret ?_
  obtain rfl := Option.some.inj H0
  try simp only [thenL, blockL]
  exact fin_au _ (.inr rfl) [] (⟨29, mkS [(4, .x (.one (.ptr 104 0)))], mkH [(104, .var [.p (.val (.int .u64 y2)), .p (.val (.int .u64 y))])]⟩) rfl rfl imp_au
theorem ok_ref01_total (x : Bool) (a : ref01_Wide) (y : Bool) (b : ref01_Wide) (r_ : Bool × ref01_Wide) (H0 : ref01_total x a y b = some r_) : CallOK Try.prog 61 [.one (.p (.val (.bool x))), .agg [.p (.val (.int .u64 a.Hi)), .p (.val (.int .u64 a.Lo))], .one (.p (.val (.bool y))), .agg [.p (.val (.int .u64 b.Hi)), .p (.val (.int .u64 b.Lo))]] [] [.one (.p (.val (.bool r_.1))), .agg [.p (.val (.int .u64 r_.2.Hi)), .p (.val (.int .u64 r_.2.Lo))]] [] := by
  refine callOK (n := 29) (rs := [.tmp 8, .cell 9 64]) (nb := 0) (V := []) Try.func61 rfl (by kernel_rfl) rfl rfl rfl rfl (Nat.le_of_ble_eq_true rfl) (by decide) ?_
  unfold ref01_total at H0
  refine lok_rt E0 (⟨29, mkS [(0, .x (.one (.p (.val (.bool x))))), (2, .x (.one (.p (.val (.bool y))))), (5, .x (.one (.ptr 105 0))), (7, .x (.one (.ptr 107 0))), (9, .x (.one (.ptr 109 0)))], mkH [(105, .var [.p (.val (.int .u64 a.Hi)), .p (.val (.int .u64 a.Lo))]), (107, .var [.p (.val (.int .u64 b.Hi)), .p (.val (.int .u64 b.Lo))]), (109, .var [.p (.val (.int .u64 (0 : Int))), .p (.val (.int .u64 (0 : Int)))])]⟩) ?_
  refine lok_seq ?_
  refine lok_rt E0 (⟨29, mkS [(0, .x (.one (.p (.val (.bool x))))), (2, .x (.one (.p (.val (.bool y))))), (5, .x (.one (.ptr 105 0))), (7, .x (.one (.ptr 107 0))), (9, .x (.one (.ptr 109 0))), (12, .x (.one (.p (.val (.bool (x == y))))))], mkH [(105, .var [.p (.val (.int .u64 a.Hi)), .p (.val (.int .u64 a.Lo))]), (107, .var [.p (.val (.int .u64 b.Hi)), .p (.val (.int .u64 b.Lo))]), (109, .var [.p (.val (.int .u64 (0 : Int))), .p (.val (.int .u64 (0 : Int)))])]⟩) ?_
  refine lok_c (x == y) ?_ ?_
  · intro b_5
    replace H0 := cpos H0 b_5
    replace H0 := bind_some H0
    obtain ⟨y1, h_0, H0⟩ := H0
    refine lok_rt (Env.of E0 [⟨some 16, 71, [.agg [.p (.val (.int .u64 a.Hi)), .p (.val (.int .u64 a.Lo))], .agg [.p (.val (.int .u64 b.Hi)), .p (.val (.int .u64 b.Lo))]], [], [.agg [.p (.val (.int .u64 y1.Hi)), .p (.val (.int .u64 y1.Lo))]], [], True, fun _ => ok_ref01_Plus a b y1 h_0, []⟩]) (⟨29, mkS [(8, .x (.one (.p (.val (.bool x))))), (9, .x (.one (.ptr 109 0)))], mkH [(109, .var [.p (.val (.int .u64 y1.Hi)), .p (.val (.int .u64 y1.Lo))])]⟩) ?_
    refine lok_ret ?_
    obtain rfl := Option.some.inj H0
    try simp only [thenL, blockL]
    exact fin_au _ (.inr rfl) [] (⟨29, mkS [(8, .x (.one (.p (.val (.bool x))))), (9, .x (.one (.ptr 109 0)))], mkH [(109, .var [.p (.val (.int .u64 y1.Hi)), .p (.val (.int .u64 y1.Lo))])]⟩) rfl rfl imp_au
  · intro b_5
    replace H0 := cneg H0 b_5
    refine lok_skip ?_
    try simp only [thenL, blockL, ↓reduceIte, reduceCtorEq]
    refine lok_seq ?_
    replace H0 := bind_some H0
    obtain ⟨y2, h_1, H0⟩ := H0
    refine lok_rt (Env.of E0 [⟨some 19, 64, [.agg [.p (.val (.int .u64 a.Hi)), .p (.val (.int .u64 a.Lo))], .agg [.p (.val (.int .u64 b.Hi)), .p (.val (.int .u64 b.Lo))]], [], [.one (.p (pi y2))], [], True, fun _ => ok_ref01_Order a b y2 h_1, []⟩]) (⟨29, mkS [(0, .x (.one (.p (.val (.bool x))))), (2, .x (.one (.p (.val (.bool y))))), (5, .x (.one (.ptr 105 0))), (7, .x (.one (.ptr 107 0))), (9, .x (.one (.ptr 109 0))), (20, .x (.one (.p (.val (.bool (decide ((0 : Int) ≤ y2)))))))], mkH [(105, .var [.p (.val (.int .u64 a.Hi)), .p (.val (.int .u64 a.Lo))]), (107, .var [.p (.val (.int .u64 b.Hi)), .p (.val (.int .u64 b.Lo))]), (109, .var [.p (.val (.int .u64 (0 : Int))), .p (.val (.int .u64 (0 : Int)))])]⟩) ?_
    refine lok_c (decide ((0 : Int) ≤ y2)) ?_ ?_
    · intro b_4
      replace H0 := cpos H0 b_4
      replace H0 := bind_some H0
      obtain ⟨y3, h_2, H0⟩ := H0
      refine lok_rt (Env.of E0 [⟨some 24, 65, [.agg [.p (.val (.int .u64 a.Hi)), .p (.val (.int .u64 a.Lo))], .agg [.p (.val (.int .u64 b.Hi)), .p (.val (.int .u64 b.Lo))]], [], [.agg [.p (.val (.int .u64 y3.Hi)), .p (.val (.int .u64 y3.Lo))]], [], True, fun _ => ok_ref01_Minus a b y3 h_2, []⟩]) (⟨29, mkS [(8, .x (.one (.p (.val (.bool x))))), (9, .x (.one (.ptr 109 0)))], mkH [(109, .var [.p (.val (.int .u64 y3.Hi)), .p (.val (.int .u64 y3.Lo))])]⟩) ?_
      refine lok_ret ?_
      obtain rfl := Option.some.inj H0
      try simp only [thenL, blockL]
      exact fin_au _ (.inr rfl) [] (⟨29, mkS [(8, .x (.one (.p (.val (.bool x))))), (9, .x (.one (.ptr 109 0)))], mkH [(109, .var [.p (.val (.int .u64 y3.Hi)), .p (.val (.int .u64 y3.Lo))])]⟩) rfl rfl imp_au
    · intro b_4
      replace H0 := cneg H0 b_4
      refine lok_skip ?_
      try simp only [thenL, blockL, ↓reduceIte, reduceCtorEq]
      replace H0 := bind_some H0
      obtain ⟨y4, h_3, H0⟩ := H0
      refine lok_rt (Env.of E0 [⟨some 28, 65, [.agg [.p (.val (.int .u64 b.Hi)), .p (.val (.int .u64 b.Lo))], .agg [.p (.val (.int .u64 a.Hi)), .p (.val (.int .u64 a.Lo))]], [], [.agg [.p (.val (.int .u64 y4.Hi)), .p (.val (.int .u64 y4.Lo))]], [], True, fun _ => ok_ref01_Minus b a y4 h_3, []⟩]) (⟨29, mkS [(8, .x (.one (.p (.val (.bool y))))), (9, .x (.one (.ptr 109 0)))], mkH [(109, .var [.p (.val (.int .u64 y4.Hi)), .p (.val (.int .u64 y4.Lo))])]⟩) ?_
      refine lok_ret ?_
      obtain rfl := Option.some.inj H0
      try simp only [thenL, blockL]
      exact fin_au _ (.inr rfl) [] (⟨29, mkS [(8, .x (.one (.p (.val (.bool y))))), (9, .x (.one (.ptr 109 0)))], mkH [(109, .var [.p (.val (.int .u64 y4.Hi)), .p (.val (.int .u64 y4.Lo))])]⟩) rfl rfl imp_au
theorem ok_ref01_Product (a : Int) (b : Int) (r_ : ref01_Wide) (H0 : ref01_Product a b = some r_) : CallOK Try.prog 62 [.one (.p (.val (.int .u64 a))), .one (.p (.val (.int .u64 b)))] [] [.agg [.p (.val (.int .u64 r_.Hi)), .p (.val (.int .u64 r_.Lo))]] [] := by
  refine callOK (n := 16) (rs := [.cell 4 64]) (nb := 0) (V := []) Try.func62 rfl (by kernel_rfl) rfl rfl rfl rfl (Nat.le_of_ble_eq_true rfl) (by decide) ?_
  unfold ref01_Product at H0
  refine lok_rt E0 (⟨16, mkS [(0, .x (.one (.p (.val (.int .u64 a))))), (1, .x (.one (.p (.val (.int .u64 b))))), (4, .x (.one (.ptr 104 0)))], mkH [(104, .var [.p (.val (.int .u64 (0 : Int))), .p (.val (.int .u64 (0 : Int)))])]⟩) ?_
  replace H0 := bind_some H0
  obtain ⟨⟨y, y1⟩, h_0, H0⟩ := H0
  try dsimp only at H0
  refine lok_rt (Env.of E0 [⟨some 10, 72, [.one (.p (.val (.int .u64 a))), .one (.p (.val (.int .u64 b)))], [], [.one (.p (.val (.int .u64 y))), .one (.p (.val (.int .u64 y1)))], [], True, fun _ => ok_bits_Mul64 a b (y, y1) h_0, []⟩]) (⟨16, mkS [(4, .x (.one (.ptr 104 0))), (5, .x (.one (.p (.val (.int .u64 y))))), (6, .x (.one (.p (.val (.int .u64 y1)))))], mkH [(104, .var [.p (.val (.int .u64 (0 : Int))), .p (.val (.int .u64 (0 : Int)))])]⟩) ?_
  refine lok_rt E0 (⟨16, mkS [(4, .x (.one (.ptr 104 0)))], mkH [(104, .var [.p (.val (.int .u64 y)), .p (.val (.int .u64 y1))])]⟩) ?_
  refine lok_ret ?_
  obtain rfl := Option.some.inj H0
  try simp only [thenL, blockL]
  exact fin_au _ (.inr rfl) [] (⟨16, mkS [(4, .x (.one (.ptr 104 0)))], mkH [(104, .var [.p (.val (.int .u64 y)), .p (.val (.int .u64 y1))])]⟩) rfl rfl imp_au
theorem ok_ref01_Compare (a : api_Ratio) (b : api_Ratio) (r_ : Int) (H0 : ref01_Compare a b = some r_) : CallOK Try.prog 48 [.agg [.p (pi a.Num), .p (pi a.Den)], .agg [.p (pi b.Num), .p (pi b.Den)]] [] [.one (.p (pi r_))] [] := by
  refine callOK (n := 43) (rs := [.tmp 4]) (nb := 0) (V := []) Try.func48 rfl (by kernel_rfl) rfl rfl rfl rfl (Nat.le_of_ble_eq_true rfl) (by decide) ?_
  unfold ref01_Compare at H0
  refine lok_rt E0 (⟨43, mkS [(2, .x (.one (.ptr 102 0))), (3, .x (.one (.ptr 103 0)))], mkH [(102, .var [.p (pi a.Num), .p (pi a.Den)]), (103, .var [.p (pi b.Num), .p (pi b.Den)])]⟩) ?_
  refine lok_seq ?_
  replace H0 := bind_some H0
  obtain ⟨y, h_0, H0⟩ := H0
  replace H0 := req_some H0
  obtain ⟨q_11, H0⟩ := H0
  refine lok_rt (Env.of E0 [⟨some 8, 51, [.agg [.p (pi a.Num), .p (pi a.Den)]], [], [.one (.p (.val (.bool y)))], [], True, fun _ => ok_ref01_Valid a y h_0, []⟩,
      ⟨some 12, 51, [.agg [.p (pi b.Num), .p (pi b.Den)]], [], [.one (.p (.val (.bool ((ref01_Valid b).getD default))))], [], (ref01_Valid b).isSome = true, fun h => ok_ref01_Valid b _ (isSome_get h), []⟩]) (⟨43, mkS [(2, .x (.one (.ptr 102 0))), (3, .x (.one (.ptr 103 0))), (14, .x (.one (.p (.val (.bool ((!y) || (!((ref01_Valid b).getD default))))))))], mkH [(102, .var [.p (pi a.Num), .p (pi a.Den)]), (103, .var [.p (pi b.Num), .p (pi b.Den)])]⟩) ?_
  refine lok_c ((!y) || (!((ref01_Valid b).getD default))) ?_ ?_
  · intro b_10
    replace H0 := cpos H0 b_10
    refine lok_rt E0 (⟨43, mkS [(4, .x (.one (.p (pi (0 : Int)))))], mkH []⟩) ?_
    refine lok_ret ?_
    obtain rfl := Option.some.inj H0
    try simp only [thenL, blockL]
    exact fin_au _ (.inr rfl) [] (⟨43, mkS [(4, .x (.one (.p (pi (0 : Int)))))], mkH []⟩) rfl rfl imp_au
  · intro b_10
    replace H0 := cneg H0 b_10
    refine lok_skip ?_
    try simp only [thenL, blockL, ↓reduceIte, reduceCtorEq]
    replace H0 := bind_some H0
    obtain ⟨y1, h_1, H0⟩ := H0
    replace H0 := bind_some H0
    obtain ⟨y2, h_2, H0⟩ := H0
    replace H0 := bind_some H0
    obtain ⟨y3, h_3, H0⟩ := H0
    replace H0 := bind_some H0
    obtain ⟨y4, h_4, H0⟩ := H0
    replace H0 := bind_some H0
    obtain ⟨y5, h_5, H0⟩ := H0
    replace H0 := bind_some H0
    obtain ⟨y6, h_6, H0⟩ := H0
    replace H0 := bind_some H0
    obtain ⟨⟨y7, y8⟩, h_7, H0⟩ := H0
    try dsimp only at H0
    refine lok_et (Env.of E0 [⟨some 21, 42, [.one (.p (pi a.Num))], [], [.one (.p (.val (.int .u64 y1)))], [], True, fun _ => ok_ref01_Size a.Num y1 h_1, []⟩,
      ⟨some 24, 42, [.one (.p (pi b.Den))], [], [.one (.p (.val (.int .u64 y2)))], [], True, fun _ => ok_ref01_Size b.Den y2 h_2, []⟩,
      ⟨some 25, 62, [.one (.p (.val (.int .u64 y1))), .one (.p (.val (.int .u64 y2)))], [], [.agg [.p (.val (.int .u64 y3.Hi)), .p (.val (.int .u64 y3.Lo))]], [], True, fun _ => ok_ref01_Product y1 y2 y3 h_3, []⟩,
      ⟨some 31, 42, [.one (.p (pi b.Num))], [], [.one (.p (.val (.int .u64 y4)))], [], True, fun _ => ok_ref01_Size b.Num y4 h_4, []⟩,
      ⟨some 34, 42, [.one (.p (pi a.Den))], [], [.one (.p (.val (.int .u64 y5)))], [], True, fun _ => ok_ref01_Size a.Den y5 h_5, []⟩,
      ⟨some 35, 62, [.one (.p (.val (.int .u64 y4))), .one (.p (.val (.int .u64 y5)))], [], [.agg [.p (.val (.int .u64 y6.Hi)), .p (.val (.int .u64 y6.Lo))]], [], True, fun _ => ok_ref01_Product y4 y5 y6 h_6, []⟩,
      ⟨some 36, 61, [.one (.p (.val (.bool (decide (a.Num < (0 : Int)))))), .agg [.p (.val (.int .u64 y3.Hi)), .p (.val (.int .u64 y3.Lo))], .one (.p (.val (.bool (decide ((0 : Int) < b.Num))))), .agg [.p (.val (.int .u64 y6.Hi)), .p (.val (.int .u64 y6.Lo))]], [], [.one (.p (.val (.bool y7))), .agg [.p (.val (.int .u64 y8.Hi)), .p (.val (.int .u64 y8.Lo))]], [], True, fun _ => ok_ref01_total (decide (a.Num < (0 : Int))) y3 (decide ((0 : Int) < b.Num)) y6 (y7, y8) h_7, []⟩]) 43 [⟨[(2, .x (.one (.ptr 102 0)))], [], [(16, .x (.one (.ptr 102 0)))], [], none⟩,
      ⟨[(16, .x (.one (.ptr 102 0)))], [(102, some (.var [.p (pi a.Num), .p (pi a.Den)]))], [(17, .x (.one (.p (pi a.Num))))], [], none⟩,
      ⟨[(17, .x (.one (.p (pi a.Num))))], [], [(18, .x (.one (.p (.val (.bool (decide (a.Num < (0 : Int))))))))], [], none⟩,
      ⟨[(2, .x (.one (.ptr 102 0)))], [], [(19, .x (.one (.ptr 102 0)))], [], none⟩,
      ⟨[(19, .x (.one (.ptr 102 0)))], [(102, some (.var [.p (pi a.Num), .p (pi a.Den)]))], [(20, .x (.one (.p (pi a.Num))))], [], none⟩,
      ⟨[(20, .x (.one (.p (pi a.Num))))], [], [(21, .x (.one (.p (.val (.int .u64 y1)))))], [], none⟩,
      ⟨[(3, .x (.one (.ptr 103 0)))], [], [(22, .x (.one (.ptr 103 1)))], [], none⟩,
      ⟨[(22, .x (.one (.ptr 103 1)))], [(103, some (.var [.p (pi b.Num), .p (pi b.Den)]))], [(23, .x (.one (.p (pi b.Den))))], [], none⟩,
      ⟨[(23, .x (.one (.p (pi b.Den))))], [], [(24, .x (.one (.p (.val (.int .u64 y2)))))], [], none⟩,
      ⟨[(21, .x (.one (.p (.val (.int .u64 y1))))), (24, .x (.one (.p (.val (.int .u64 y2)))))], [], [(25, .x (.agg [.p (.val (.int .u64 y3.Hi)), .p (.val (.int .u64 y3.Lo))]))], [], none⟩,
      ⟨[(3, .x (.one (.ptr 103 0)))], [], [(26, .x (.one (.ptr 103 0)))], [], none⟩,
      ⟨[(26, .x (.one (.ptr 103 0)))], [(103, some (.var [.p (pi b.Num), .p (pi b.Den)]))], [(27, .x (.one (.p (pi b.Num))))], [], none⟩,
      ⟨[(27, .x (.one (.p (pi b.Num))))], [], [(28, .x (.one (.p (.val (.bool (decide ((0 : Int) < b.Num)))))))], [], none⟩,
      ⟨[(3, .x (.one (.ptr 103 0)))], [], [(29, .x (.one (.ptr 103 0)))], [], none⟩,
      ⟨[(29, .x (.one (.ptr 103 0)))], [(103, some (.var [.p (pi b.Num), .p (pi b.Den)]))], [(30, .x (.one (.p (pi b.Num))))], [], none⟩,
      ⟨[(30, .x (.one (.p (pi b.Num))))], [], [(31, .x (.one (.p (.val (.int .u64 y4)))))], [], none⟩,
      ⟨[(2, .x (.one (.ptr 102 0)))], [], [(32, .x (.one (.ptr 102 1)))], [], none⟩,
      ⟨[(32, .x (.one (.ptr 102 1)))], [(102, some (.var [.p (pi a.Num), .p (pi a.Den)]))], [(33, .x (.one (.p (pi a.Den))))], [], none⟩,
      ⟨[(33, .x (.one (.p (pi a.Den))))], [], [(34, .x (.one (.p (.val (.int .u64 y5)))))], [], none⟩,
      ⟨[(31, .x (.one (.p (.val (.int .u64 y4))))), (34, .x (.one (.p (.val (.int .u64 y5)))))], [], [(35, .x (.agg [.p (.val (.int .u64 y6.Hi)), .p (.val (.int .u64 y6.Lo))]))], [], none⟩,
      ⟨[(18, .x (.one (.p (.val (.bool (decide (a.Num < (0 : Int)))))))), (25, .x (.agg [.p (.val (.int .u64 y3.Hi)), .p (.val (.int .u64 y3.Lo))])), (28, .x (.one (.p (.val (.bool (decide ((0 : Int) < b.Num))))))), (35, .x (.agg [.p (.val (.int .u64 y6.Hi)), .p (.val (.int .u64 y6.Lo))]))], [], [(36, .tup [.one (.p (.val (.bool y7))), .agg [.p (.val (.int .u64 y8.Hi)), .p (.val (.int .u64 y8.Lo))]])], [], none⟩,
      ⟨[(36, .tup [.one (.p (.val (.bool y7))), .agg [.p (.val (.int .u64 y8.Hi)), .p (.val (.int .u64 y8.Lo))]])], [], [(15, .tup [.one (.p (.val (.bool y7))), .agg [.p (.val (.int .u64 y8.Hi)), .p (.val (.int .u64 y8.Lo))]])], [], none⟩,
      ⟨[(15, .tup [.one (.p (.val (.bool y7))), .agg [.p (.val (.int .u64 y8.Hi)), .p (.val (.int .u64 y8.Lo))]])], [], [(37, .x (.one (.p (.val (.bool y7)))))], [], none⟩,
      ⟨[(15, .tup [.one (.p (.val (.bool y7))), .agg [.p (.val (.int .u64 y8.Hi)), .p (.val (.int .u64 y8.Lo))]])], [], [(38, .x (.agg [.p (.val (.int .u64 y8.Hi)), .p (.val (.int .u64 y8.Lo))]))], [], none⟩,
      ⟨[], [(106, none)], [(6, .x (.one (.ptr 106 0)))], [(106, some (.var [.p (.val (.int .u64 (0 : Int))), .p (.val (.int .u64 (0 : Int)))]))], some 106⟩,
      ⟨[(37, .x (.one (.p (.val (.bool y7)))))], [], [(5, .x (.one (.p (.val (.bool y7)))))], [], none⟩] (⟨43, mkS [(5, .x (.one (.p (.val (.bool y7))))), (6, .x (.one (.ptr 106 0)))], mkH [(106, .var [.p (.val (.int .u64 y8.Hi)), .p (.val (.int .u64 y8.Lo))])]⟩) (by kernel_rfl) (by kernel_rfl) (by kernel_rfl) rfl rfl rfl ?_
    refine lok_seq ?_
    refine lok_rt E0 (⟨43, mkS [(5, .x (.one (.p (.val (.bool y7))))), (41, .x (.one (.p (.val (.bool ((y8.Hi == (0 : Int)) && (y8.Lo == (0 : Int))))))))], mkH []⟩) ?_
    refine lok_c ((y8.Hi == (0 : Int)) && (y8.Lo == (0 : Int))) ?_ ?_
    · intro b_9
      replace H0 := cpos H0 b_9
      refine lok_rt E0 (⟨43, mkS [(4, .x (.one (.p (pi (0 : Int)))))], mkH []⟩) ?_
      refine lok_ret ?_
      obtain rfl := Option.some.inj H0
      try simp only [thenL, blockL]
      exact fin_au _ (.inr rfl) [] (⟨43, mkS [(4, .x (.one (.p (pi (0 : Int)))))], mkH []⟩) rfl rfl imp_au
    · intro b_9
      replace H0 := cneg H0 b_9
      refine lok_skip ?_
      try simp only [thenL, blockL, ↓reduceIte, reduceCtorEq]
      refine lok_seq ?_
      refine lok_rt E0 (⟨43, mkS [(42, .x (.one (.p (.val (.bool y7)))))], mkH []⟩) ?_
      refine lok_c y7 ?_ ?_
      · intro b_8
        replace H0 := cpos H0 b_8
        refine lok_rt E0 (⟨43, mkS [(4, .x (.one (.p (pi (-1 : Int)))))], mkH []⟩) ?_
        refine lok_ret ?_
        obtain rfl := Option.some.inj H0
        try simp only [thenL, blockL]
        exact fin_au _ (.inr rfl) [] (⟨43, mkS [(4, .x (.one (.p (pi (-1 : Int)))))], mkH []⟩) rfl rfl imp_au
      · intro b_8
        replace H0 := cneg H0 b_8
        refine lok_skip ?_
        try simp only [thenL, blockL, ↓reduceIte, reduceCtorEq]
        refine lok_rt E0 (⟨43, mkS [(4, .x (.one (.p (pi (1 : Int)))))], mkH []⟩) ?_
        refine lok_ret ?_
        obtain rfl := Option.some.inj H0
        try simp only [thenL, blockL]
        exact fin_au _ (.inr rfl) [] (⟨43, mkS [(4, .x (.one (.p (pi (1 : Int)))))], mkH []⟩) rfl rfl imp_au
theorem ok_ref01_Less (a : api_Ratio) (b : api_Ratio) (r_ : Bool) (H0 : ref01_Less a b = some r_) : CallOK Try.prog 22 [.agg [.p (pi a.Num), .p (pi a.Den)], .agg [.p (pi b.Num), .p (pi b.Den)]] [] [.one (.p (.val (.bool r_)))] [] := by
  refine callOK (n := 9) (rs := [.tmp 4]) (nb := 0) (V := []) Try.func22 rfl (by kernel_rfl) rfl rfl rfl rfl (Nat.le_of_ble_eq_true rfl) (by decide) ?_
  unfold ref01_Less at H0
  refine lok_rt E0 (⟨9, mkS [(2, .x (.one (.ptr 102 0))), (3, .x (.one (.ptr 103 0)))], mkH [(102, .var [.p (pi a.Num), .p (pi a.Den)]), (103, .var [.p (pi b.Num), .p (pi b.Den)])]⟩) ?_
  replace H0 := bind_some H0
  obtain ⟨y, h_0, H0⟩ := H0
  refine lok_rt (Env.of E0 [⟨some 7, 48, [.agg [.p (pi a.Num), .p (pi a.Den)], .agg [.p (pi b.Num), .p (pi b.Den)]], [], [.one (.p (pi y))], [], True, fun _ => ok_ref01_Compare a b y h_0, []⟩]) (⟨9, mkS [(4, .x (.one (.p (.val (.bool (decide (y < (0 : Int))))))))], mkH []⟩) ?_
  refine lok_ret ?_
  obtain rfl := Option.some.inj H0
  try simp only [thenL, blockL]
  exact fin_au _ (.inr rfl) [] (⟨9, mkS [(4, .x (.one (.p (.val (.bool (decide (y < (0 : Int))))))))], mkH []⟩) rfl rfl imp_au
theorem ok_law32_DistributionSums (t : List Int) (r_ : Bool) (H0 : law32_DistributionSums t = some r_) : CallOK Try.prog 5 [.one (.p (.sl 1 (List.map encI t)))] [] [.one (.p (.val (.bool r_)))] [] := by
  refine callOK (n := 123) (rs := [.tmp 2]) (nb := 0) (V := []) Try.func5 rfl (by kernel_rfl) rfl rfl rfl rfl (Nat.le_of_ble_eq_true rfl) (by decide) ?_
  unfold law32_DistributionSums at H0
  refine lok_rt E0 (⟨123, mkS [(0, .x (.one (.p (.sl 1 (List.map encI t)))))], mkH []⟩) ?_
  refine lok_seq ?_
  replace H0 := bind_some H0
  obtain ⟨y, h_0, H0⟩ := H0
  refine lok_rt (Env.of E0 [⟨some 19, 9, [.one (.p (.sl 1 (List.map encI t)))], [], [.one (.p (.val (.bool y)))], [], True, fun _ => ok_mark_Light t y h_0, []⟩]) (⟨123, mkS [(0, .x (.one (.p (.sl 1 (List.map encI t))))), (20, .x (.one (.p (.val (.bool (!y))))))], mkH []⟩) ?_
  refine lok_c (!y) ?_ ?_
  · intro b_30
    replace H0 := cpos H0 b_30
    replace H0 := bind_some H0
    obtain ⟨y1, h_1, H0⟩ := H0
    refine lok_rt (Env.of E0 [⟨some 21, 10, [], [], [.one (.p (.val (.bool y1)))], [], True, fun _ => ok_law32_sane y1 h_1, []⟩]) (⟨123, mkS [(2, .x (.one (.p (.val (.bool y1)))))], mkH []⟩) ?_
    refine lok_ret ?_
    obtain rfl := Option.some.inj H0
    try simp only [thenL, blockL]
    exact fin_au _ (.inr rfl) [] (⟨123, mkS [(2, .x (.one (.p (.val (.bool y1)))))], mkH []⟩) rfl rfl imp_au
  · intro b_30
    replace H0 := cneg H0 b_30
    refine lok_skip ?_
    try simp only [thenL, blockL, ↓reduceIte, reduceCtorEq]
    replace H0 := bind_some H0
    obtain ⟨y2, h_2, H0⟩ := H0
    refine lok_rt (Env.of E0 [⟨some 23, 11, [.one (.p (.sl 1 (List.map encI t)))], [], [.one (.ptr 0 0)], [some (.var [.p (.sl 1 (List.map encI y2.L)), .p (pi y2.At)])], True, fun _ => ok_mark_Roll t y2 h_2, []⟩]) (⟨123, mkS [(3, .x (.one (.ptr 1023 0)))], mkH [(1023, .var [.p (.sl 1 (List.map encI y2.L)), .p (pi y2.At)])]⟩) ?_
    replace H0 := bind_some H0
    obtain ⟨⟨y3, y4⟩, h_3, H0⟩ := H0
    try dsimp only at H0
    replace H0 := bind_some H0
    obtain ⟨⟨y5, y6⟩, h_4, H0⟩ := H0
    try dsimp only at H0
    refine lok_rt (Env.of E0 [⟨some 25, 12, [.one (.ptr 0 0), .one (.p (pi (8 : Int))), .one (.p (.val (.bool false)))], [.var [.p (.sl 1 (List.map encI y2.L)), .p (pi y2.At)]], [.agg [.p (.sl 1 (List.map encI y3.Counts))]], [some (.var [.p (.sl 1 (List.map encI y4.L)), .p (pi y4.At)])], True, fun _ => ok_mark_Dice_Distribution y2 (8 : Int) false (y3, y4) h_3, []⟩,
      ⟨some 27, 12, [.one (.ptr 0 0), .one (.p (pi (8 : Int))), .one (.p (.val (.bool false)))], [.var [.p (.sl 1 (List.map encI y4.L)), .p (pi y4.At)]], [.agg [.p (.sl 1 (List.map encI y5.Counts))]], [some (.var [.p (.sl 1 (List.map encI y6.L)), .p (pi y6.At)])], True, fun _ => ok_mark_Dice_Distribution y4 (8 : Int) false (y5, y6) h_4, []⟩]) (⟨123, mkS [(4, .x (.one (.ptr 104 0))), (5, .x (.one (.ptr 105 0)))], mkH [(104, .var [.p (.sl 1 (List.map encI y3.Counts))]), (105, .var [.p (.sl 1 (List.map encI y5.Counts))])]⟩) ?_
    replace H0 := bind_some H0
    obtain ⟨⟨y7, y8⟩, h_5, H0⟩ := H0
    try dsimp only at H0
    refine lok_rt (Env.of E0 [⟨some 31, 20, [.agg [.p (.sl 1 (List.map encI y3.Counts))], .agg [.p (.sl 1 (List.map encI y5.Counts))]], [], [.agg [.p (.sl 1 (List.map encI y7.Counts))], .one (.p (pi y8))], [], True, fun _ => ok_distribution_Add y3 y5 (y7, y8) h_5, []⟩]) (⟨123, mkS [(4, .x (.one (.ptr 104 0))), (5, .x (.one (.ptr 105 0))), (6, .x (.one (.ptr 106 0))), (7, .x (.one (.p (pi y8))))], mkH [(104, .var [.p (.sl 1 (List.map encI y3.Counts))]), (105, .var [.p (.sl 1 (List.map encI y5.Counts))]), (106, .var [.p (.sl 1 (List.map encI y7.Counts))])]⟩) ?_
    refine lok_seq ?_
    replace H0 := req_some H0
    obtain ⟨⟨q_27, q_28, q_29⟩, H0⟩ := H0
    refine lok_dt (Env.of E0 [⟨some 38, 15, [.agg [.p (.sl 1 (List.map encI y7.Counts))]], [], [.one (.p (pi ((distribution_Count y7).getD default)))], [], (distribution_Count y7).isSome = true, fun h => ok_distribution_Count y7 _ (isSome_get h), []⟩,
      ⟨some 40, 15, [.agg [.p (.sl 1 (List.map encI y3.Counts))]], [], [.one (.p (pi ((distribution_Count y3).getD default)))], [], (distribution_Count y3).isSome = true, fun h => ok_distribution_Count y3 _ (isSome_get h), []⟩,
      ⟨some 42, 15, [.agg [.p (.sl 1 (List.map encI y5.Counts))]], [], [.one (.p (pi ((distribution_Count y5).getD default)))], [], (distribution_Count y5).isSome = true, fun h => ok_distribution_Count y5 _ (isSome_get h), []⟩]) 8 (⟨123, mkS [(4, .x (.one (.ptr 104 0))), (5, .x (.one (.ptr 105 0))), (6, .x (.one (.ptr 106 0))), (45, .x (.one (.p (.val (.bool ((y8 != (0 : Int)) || (((distribution_Count y7).getD default) != (IntKind.i64.wrap (((distribution_Count y3).getD default) + ((distribution_Count y5).getD default))))))))))], mkH [(104, .var [.p (.sl 1 (List.map encI y3.Counts))]), (105, .var [.p (.sl 1 (List.map encI y5.Counts))]), (106, .var [.p (.sl 1 (List.map encI y7.Counts))])]⟩) (by kernel_rfl) (by kernel_rfl) ?_
    refine lok_c ((y8 != (0 : Int)) || (((distribution_Count y7).getD default) != (IntKind.i64.wrap (((distribution_Count y3).getD default) + ((distribution_Count y5).getD default))))) ?_ ?_
    · intro b_26
      replace H0 := cpos H0 b_26
      refine lok_rt E0 (⟨123, mkS [(2, .x (.one (.p (.val (.bool false)))))], mkH []⟩) ?_
      refine lok_ret ?_
      obtain rfl := Option.some.inj H0
      try simp only [thenL, blockL]
      exact fin_au _ (.inr rfl) [] (⟨123, mkS [(2, .x (.one (.p (.val (.bool false)))))], mkH []⟩) rfl rfl imp_au
    · intro b_26
      replace H0 := cneg H0 b_26
      refine lok_skip ?_
      try simp only [thenL, blockL, ↓reduceIte, reduceCtorEq]
      refine lok_rt E0 (⟨123, mkS [(4, .x (.one (.ptr 104 0))), (5, .x (.one (.ptr 105 0))), (6, .x (.one (.ptr 106 0))), (8, .x (.one (.ptr 108 0)))], mkH [(104, .var [.p (.sl 1 (List.map encI y3.Counts))]), (105, .var [.p (.sl 1 (List.map encI y5.Counts))]), (106, .var [.p (.sl 1 (List.map encI y7.Counts))]), (108, .var [.p (pi (0 : Int)), .p (pi (1 : Int))])]⟩) ?_
      refine lok_join (fun x_ : Unit => law32_DistributionSums_j1 y3 y5 y7 = some r_) (fun x_ => ⟨123, mkS [(4, .x (.one (.ptr 104 0))), (5, .x (.one (.ptr 105 0))), (6, .x (.one (.ptr 106 0)))], mkH [(104, .var [.p (.sl 1 (List.map encI y3.Counts))]), (105, .var [.p (.sl 1 (List.map encI y5.Counts))]), (106, .var [.p (.sl 1 (List.map encI y7.Counts))])]⟩) ?hylaw32_DistributionSums_j1 ?hxlaw32_DistributionSums_j1
      case hylaw32_DistributionSums_j1 =>
        rintro _ H0
        try dsimp only at H0 ⊢
        unfold law32_DistributionSums_j1 at H0
        replace H0 := bind_some H0
        obtain ⟨⟨y9, y10⟩, h_6, H0⟩ := H0
        try dsimp only at H0
        refine lok_rt (Env.of E0 [⟨some 76, 19, [.agg [.p (.sl 1 (List.map encI y3.Counts))]], [], [.agg [.p (pi y9.Num), .p (pi y9.Den)], .one (.p (pi y10))], [], True, fun _ => ok_distribution_Mean y3 (y9, y10) h_6, []⟩]) (⟨123, mkS [(5, .x (.one (.ptr 105 0))), (6, .x (.one (.ptr 106 0))), (12, .x (.one (.ptr 112 0))), (13, .x (.one (.p (pi y10))))], mkH [(105, .var [.p (.sl 1 (List.map encI y5.Counts))]), (106, .var [.p (.sl 1 (List.map encI y7.Counts))]), (112, .var [.p (pi y9.Num), .p (pi y9.Den)])]⟩) ?_
        replace H0 := bind_some H0
        obtain ⟨⟨y11, y12⟩, h_7, H0⟩ := H0
        try dsimp only at H0
        refine lok_rt (Env.of E0 [⟨some 81, 19, [.agg [.p (.sl 1 (List.map encI y5.Counts))]], [], [.agg [.p (pi y11.Num), .p (pi y11.Den)], .one (.p (pi y12))], [], True, fun _ => ok_distribution_Mean y5 (y11, y12) h_7, []⟩]) (⟨123, mkS [(6, .x (.one (.ptr 106 0))), (12, .x (.one (.ptr 112 0))), (13, .x (.one (.p (pi y10)))), (14, .x (.one (.ptr 114 0))), (15, .x (.one (.p (pi y12))))], mkH [(106, .var [.p (.sl 1 (List.map encI y7.Counts))]), (112, .var [.p (pi y9.Num), .p (pi y9.Den)]), (114, .var [.p (pi y11.Num), .p (pi y11.Den)])]⟩) ?_
        replace H0 := bind_some H0
        obtain ⟨⟨y13, y14⟩, h_8, H0⟩ := H0
        try dsimp only at H0
        refine lok_rt (Env.of E0 [⟨some 86, 19, [.agg [.p (.sl 1 (List.map encI y7.Counts))]], [], [.agg [.p (pi y13.Num), .p (pi y13.Den)], .one (.p (pi y14))], [], True, fun _ => ok_distribution_Mean y7 (y13, y14) h_8, []⟩]) (⟨123, mkS [(12, .x (.one (.ptr 112 0))), (13, .x (.one (.p (pi y10)))), (14, .x (.one (.ptr 114 0))), (15, .x (.one (.p (pi y12)))), (16, .x (.one (.ptr 116 0))), (17, .x (.one (.p (pi y14))))], mkH [(112, .var [.p (pi y9.Num), .p (pi y9.Den)]), (114, .var [.p (pi y11.Num), .p (pi y11.Den)]), (116, .var [.p (pi y13.Num), .p (pi y13.Den)])]⟩) ?_
        refine lok_seq ?_
        refine lok_rt E0 (⟨123, mkS [(12, .x (.one (.ptr 112 0))), (14, .x (.one (.ptr 114 0))), (16, .x (.one (.ptr 116 0))), (17, .x (.one (.p (pi y14)))), (94, .x (.one (.p (.val (.bool ((y10 != (0 : Int)) || (y12 != (0 : Int))))))))], mkH [(112, .var [.p (pi y9.Num), .p (pi y9.Den)]), (114, .var [.p (pi y11.Num), .p (pi y11.Den)]), (116, .var [.p (pi y13.Num), .p (pi y13.Den)])]⟩) ?_
        refine lok_c ((y10 != (0 : Int)) || (y12 != (0 : Int))) ?_ ?_
        · intro b_15
          replace H0 := cpos H0 b_15
          replace H0 := bind_some H0
          obtain ⟨y15, h_9, H0⟩ := H0
          refine lok_rt (Env.of E0 [⟨some 95, 10, [], [], [.one (.p (.val (.bool y15)))], [], True, fun _ => ok_law32_sane y15 h_9, []⟩]) (⟨123, mkS [(2, .x (.one (.p (.val (.bool y15)))))], mkH []⟩) ?_
          refine lok_ret ?_
          obtain rfl := Option.some.inj H0
          try simp only [thenL, blockL]
          exact fin_au _ (.inr rfl) [] (⟨123, mkS [(2, .x (.one (.p (.val (.bool y15)))))], mkH []⟩) rfl rfl imp_au
        · intro b_15
          replace H0 := cneg H0 b_15
          refine lok_skip ?_
          try simp only [thenL, blockL, ↓reduceIte, reduceCtorEq]
          replace H0 := req_some H0
          obtain ⟨⟨q_10, q_11, q_12, q_13, q_14⟩, H0⟩ := H0
          refine lok_rt (Env.of E0 [⟨some 101, 22, [.agg [.p (pi y13.Num), .p (pi y13.Den)], .agg [.p (pi y9.Num), .p (pi y9.Den)]], [], [.one (.p (.val (.bool ((ref01_Less y13 y9).getD default))))], [], (ref01_Less y13 y9).isSome = true, fun h => ok_ref01_Less y13 y9 _ (isSome_get h), []⟩,
      ⟨some 105, 22, [.agg [.p (pi y13.Num), .p (pi y13.Den)], .agg [.p (pi y11.Num), .p (pi y11.Den)]], [], [.one (.p (.val (.bool ((ref01_Less y13 y11).getD default))))], [], (ref01_Less y13 y11).isSome = true, fun h => ok_ref01_Less y13 y11 _ (isSome_get h), []⟩,
      ⟨some 112, 22, [.agg [.p (pi y9.Num), .p (pi y9.Den)], .agg [.p (pi y13.Num), .p (pi y13.Den)]], [], [.one (.p (.val (.bool ((ref01_Less y9 y13).getD default))))], [], (ref01_Less y9 y13).isSome = true, fun h => ok_ref01_Less y9 y13 _ (isSome_get h), []⟩,
      ⟨some 116, 22, [.agg [.p (pi y11.Num), .p (pi y11.Den)], .agg [.p (pi y13.Num), .p (pi y13.Den)]], [], [.one (.p (.val (.bool ((ref01_Less y11 y13).getD default))))], [], (ref01_Less y11 y13).isSome = true, fun h => ok_ref01_Less y11 y13 _ (isSome_get h), []⟩,
      ⟨some 121, 10, [], [], [.one (.p (.val (.bool ((law32_sane).getD default))))], [], (law32_sane).isSome = true, fun h => ok_law32_sane _ (isSome_get h), []⟩]) (⟨123, mkS [(2, .x (.one (.p (.val (.bool ((((y14 == (0 : Int)) && (!(((ref01_Less y13 y9).getD default) && ((ref01_Less y13 y11).getD default)))) && (!(((ref01_Less y9 y13).getD default) && ((ref01_Less y11 y13).getD default)))) && ((law32_sane).getD default)))))))], mkH []⟩) ?_
          refine lok_ret ?_
          obtain rfl := Option.some.inj H0
          try simp only [thenL, blockL]
          exact fin_au _ (.inr rfl) [] (⟨123, mkS [(2, .x (.one (.p (.val (.bool ((((y14 == (0 : Int)) && (!(((ref01_Less y13 y9).getD default) && ((ref01_Less y13 y11).getD default)))) && (!(((ref01_Less y9 y13).getD default) && ((ref01_Less y11 y13).getD default)))) && ((law32_sane).getD default)))))))], mkH []⟩) rfl rfl imp_au
      case hxlaw32_DistributionSums_j1 =>
        refine lok_rt E0 (⟨123, mkS [(4, .x (.one (.ptr 104 0))), (5, .x (.one (.ptr 105 0))), (6, .x (.one (.ptr 106 0))), (8, .x (.one (.ptr 108 0))), (9, .x (.one (.p (pi (0 : Int)))))], mkH [(104, .var [.p (.sl 1 (List.map encI y3.Counts))]), (105, .var [.p (.sl 1 (List.map encI y5.Counts))]), (106, .var [.p (.sl 1 (List.map encI y7.Counts))]), (108, .var [.p (pi (0 : Int)), .p (pi (1 : Int))])]⟩) ?_
        refine lok_block ?_
        replace H0 := bind_some H0
        obtain ⟨v_16, hv_16, H0⟩ := H0
        refine lok_iter (fun x_ => ⟨123, mkS [(4, .x (.one (.ptr 104 0))), (5, .x (.one (.ptr 105 0))), (6, .x (.one (.ptr 106 0))), (8, .x (.one (.ptr 108 0))), (9, .x (.one (.p (pi x_.1))))], mkH [(104, .var [.p (.sl 1 (List.map encI y3.Counts))]), (105, .var [.p (.sl 1 (List.map encI y5.Counts))]), (106, .var [.p (.sl 1 (List.map encI y7.Counts))]), (108, .var [.p (pi x_.2.1), .p (pi x_.2.2)])]⟩) hv_16 imp_au ?_
        · rintro ⟨s, last, last1⟩ o_1 H1 k_1
          unfold law32_DistributionSums_l3 at H1
          try dsimp only at H1 ⊢
          refine lok_seq ?_
          refine lok_rt E0 (⟨123, mkS [(4, .x (.one (.ptr 104 0))), (5, .x (.one (.ptr 105 0))), (6, .x (.one (.ptr 106 0))), (8, .x (.one (.ptr 108 0))), (9, .x (.one (.p (pi s)))), (48, .x (.one (.p (.val (.bool (decide (s ≤ (10 : Int))))))))], mkH [(104, .var [.p (.sl 1 (List.map encI y3.Counts))]), (105, .var [.p (.sl 1 (List.map encI y5.Counts))]), (106, .var [.p (.sl 1 (List.map encI y7.Counts))]), (108, .var [.p (pi last), .p (pi last1)])]⟩) ?_
          refine lok_c (decide (s ≤ (10 : Int))) ?_ ?_
          · intro b_25
            replace H1 := cpos H1 b_25
            refine lok_skip ?_
            try simp only [thenL, blockL, ↓reduceIte, reduceCtorEq]
            refine lok_join (fun x_ : Int × Int => law32_DistributionSums_j2 s x_.1 x_.2 = some o_1) (fun x_ => ⟨123, mkS [(4, .x (.one (.ptr 104 0))), (5, .x (.one (.ptr 105 0))), (6, .x (.one (.ptr 106 0))), (8, .x (.one (.ptr 108 0))), (9, .x (.one (.p (pi s))))], mkH [(104, .var [.p (.sl 1 (List.map encI y3.Counts))]), (105, .var [.p (.sl 1 (List.map encI y5.Counts))]), (106, .var [.p (.sl 1 (List.map encI y7.Counts))]), (108, .var [.p (pi x_.1), .p (pi x_.2)])]⟩) ?hylaw32_DistributionSums_j2 ?hxlaw32_DistributionSums_j2
            case hylaw32_DistributionSums_j2 =>
              rintro ⟨last2, last3⟩ H1
              try dsimp only at H1 ⊢
              unfold law32_DistributionSums_j2 at H1
              refine lok_rl E0 (⟨123, mkS [(4, .x (.one (.ptr 104 0))), (5, .x (.one (.ptr 105 0))), (6, .x (.one (.ptr 106 0))), (8, .x (.one (.ptr 108 0))), (9, .x (.one (.p (pi (IntKind.i64.wrap (s + (1 : Int)))))))], mkH [(104, .var [.p (.sl 1 (List.map encI y3.Counts))]), (105, .var [.p (.sl 1 (List.map encI y5.Counts))]), (106, .var [.p (.sl 1 (List.map encI y7.Counts))]), (108, .var [.p (pi last2), .p (pi last3)])]⟩) ?_
              try simp only [thenL, blockL, ↓reduceIte, reduceCtorEq]
              exact ⟨((IntKind.i64.wrap (s + (1 : Int))), last2, last3), (Option.some.inj H1).symm, imp_au⟩
            case hxlaw32_DistributionSums_j2 =>
              refine lok_block ?_
              refine lok_seq ?_
              replace H1 := bind_some H1
              obtain ⟨y16, h_17, H1⟩ := H1
              replace H1 := bind_some H1
              obtain ⟨y17, h_18, H1⟩ := H1
              replace H1 := bind_some H1
              obtain ⟨y18, h_19, H1⟩ := H1
              refine lok_dt (Env.of E0 [⟨some 53, 16, [.agg [.p (.sl 1 (List.map encI y7.Counts))], .one (.p (pi s))], [], [.one (.p (pi y16))], [], True, fun _ => ok_distribution_Below y7 s y16 h_17, []⟩,
      ⟨some 56, 16, [.agg [.p (.sl 1 (List.map encI y3.Counts))], .one (.p (pi s))], [], [.one (.p (pi y17))], [], True, fun _ => ok_distribution_Below y3 s y17 h_18, []⟩,
      ⟨some 59, 16, [.agg [.p (.sl 1 (List.map encI y5.Counts))], .one (.p (pi s))], [], [.one (.p (pi y18))], [], True, fun _ => ok_distribution_Below y5 s y18 h_19, []⟩]) 8 (⟨123, mkS [(4, .x (.one (.ptr 104 0))), (5, .x (.one (.ptr 105 0))), (6, .x (.one (.ptr 106 0))), (8, .x (.one (.ptr 108 0))), (9, .x (.one (.p (pi s)))), (61, .x (.one (.p (.val (.bool (y16 != (IntKind.i64.wrap (y17 + y18))))))))], mkH [(104, .var [.p (.sl 1 (List.map encI y3.Counts))]), (105, .var [.p (.sl 1 (List.map encI y5.Counts))]), (106, .var [.p (.sl 1 (List.map encI y7.Counts))]), (108, .var [.p (pi last), .p (pi last1)])]⟩) (by kernel_rfl) (by kernel_rfl) ?_
              refine lok_c (y16 != (IntKind.i64.wrap (y17 + y18))) ?_ ?_
              · intro b_24
                replace H1 := cpos H1 b_24
                refine lok_rt E0 (⟨123, mkS [(2, .x (.one (.p (.val (.bool false)))))], mkH []⟩) ?_
                refine lok_ret ?_
                try simp only [thenL, blockL, ↓reduceIte, reduceCtorEq]
                have e_1 := k_1 _ (Option.some.inj H1).symm
                subst e_1
                try dsimp only at H0
                obtain rfl := Option.some.inj H0
                try simp only [thenL, blockL]
                exact fin_au _ (.inr rfl) [] (⟨123, mkS [(2, .x (.one (.p (.val (.bool false)))))], mkH []⟩) rfl rfl imp_au
              · intro b_24
                replace H1 := cneg H1 b_24
                refine lok_skip ?_
                try simp only [thenL, blockL, ↓reduceIte, reduceCtorEq]
                replace H1 := bind_some H1
                obtain ⟨⟨y19, y20⟩, h_20, H1⟩ := H1
                try dsimp only at H1
                refine lok_rt (Env.of E0 [⟨some 65, 21, [.agg [.p (.sl 1 (List.map encI y7.Counts))], .one (.p (pi s))], [], [.agg [.p (pi y19.Num), .p (pi y19.Den)], .one (.p (pi y20))], [], True, fun _ => ok_distribution_Rank y7 s (y19, y20) h_20, []⟩]) (⟨123, mkS [(4, .x (.one (.ptr 104 0))), (5, .x (.one (.ptr 105 0))), (6, .x (.one (.ptr 106 0))), (8, .x (.one (.ptr 108 0))), (9, .x (.one (.p (pi s)))), (10, .x (.one (.ptr 110 0))), (11, .x (.one (.p (pi y20))))], mkH [(104, .var [.p (.sl 1 (List.map encI y3.Counts))]), (105, .var [.p (.sl 1 (List.map encI y5.Counts))]), (106, .var [.p (.sl 1 (List.map encI y7.Counts))]), (108, .var [.p (pi last), .p (pi last1)]), (110, .var [.p (pi y19.Num), .p (pi y19.Den)])]⟩) ?_
                refine lok_rt E0 (⟨123, mkS [(4, .x (.one (.ptr 104 0))), (5, .x (.one (.ptr 105 0))), (6, .x (.one (.ptr 106 0))), (8, .x (.one (.ptr 108 0))), (9, .x (.one (.p (pi s)))), (10, .x (.one (.ptr 110 0))), (69, .x (.one (.p (.val (.bool (y20 == (0 : Int)))))))], mkH [(104, .var [.p (.sl 1 (List.map encI y3.Counts))]), (105, .var [.p (.sl 1 (List.map encI y5.Counts))]), (106, .var [.p (.sl 1 (List.map encI y7.Counts))]), (108, .var [.p (pi last), .p (pi last1)]), (110, .var [.p (pi y19.Num), .p (pi y19.Den)])]⟩) ?_
                refine lok_c (y20 == (0 : Int)) ?_ ?_
                · intro b_23
                  replace H1 := cpos H1 b_23
                  refine lok_seq ?_
                  replace H1 := bind_some H1
                  obtain ⟨y21, h_21, H1⟩ := H1
                  refine lok_rt (Env.of E0 [⟨some 72, 22, [.agg [.p (pi y19.Num), .p (pi y19.Den)], .agg [.p (pi last), .p (pi last1)]], [], [.one (.p (.val (.bool y21)))], [], True, fun _ => ok_ref01_Less y19 (api_Ratio.mk last last1) y21 h_21, []⟩]) (⟨123, mkS [(4, .x (.one (.ptr 104 0))), (5, .x (.one (.ptr 105 0))), (6, .x (.one (.ptr 106 0))), (8, .x (.one (.ptr 108 0))), (9, .x (.one (.p (pi s)))), (10, .x (.one (.ptr 110 0))), (72, .x (.one (.p (.val (.bool y21)))))], mkH [(104, .var [.p (.sl 1 (List.map encI y3.Counts))]), (105, .var [.p (.sl 1 (List.map encI y5.Counts))]), (106, .var [.p (.sl 1 (List.map encI y7.Counts))]), (108, .var [.p (pi last), .p (pi last1)]), (110, .var [.p (pi y19.Num), .p (pi y19.Den)])]⟩) ?_
                  refine lok_c y21 ?_ ?_
                  · intro b_22
                    replace H1 := cpos H1 b_22
                    refine lok_rt E0 (⟨123, mkS [(2, .x (.one (.p (.val (.bool false)))))], mkH []⟩) ?_
                    refine lok_ret ?_
                    try simp only [thenL, blockL, ↓reduceIte, reduceCtorEq]
                    have e_1 := k_1 _ (Option.some.inj H1).symm
                    subst e_1
                    try dsimp only at H0
                    obtain rfl := Option.some.inj H0
                    try simp only [thenL, blockL]
                    exact fin_au _ (.inr rfl) [] (⟨123, mkS [(2, .x (.one (.p (.val (.bool false)))))], mkH []⟩) rfl rfl imp_au
                  · intro b_22
                    replace H1 := cneg H1 b_22
                    refine lok_skip ?_
                    try simp only [thenL, blockL, ↓reduceIte, reduceCtorEq]
                    refine lok_rl E0 (⟨123, mkS [(4, .x (.one (.ptr 104 0))), (5, .x (.one (.ptr 105 0))), (6, .x (.one (.ptr 106 0))), (8, .x (.one (.ptr 108 0))), (9, .x (.one (.p (pi s))))], mkH [(104, .var [.p (.sl 1 (List.map encI y3.Counts))]), (105, .var [.p (.sl 1 (List.map encI y5.Counts))]), (106, .var [.p (.sl 1 (List.map encI y7.Counts))]), (108, .var [.p (pi y19.Num), .p (pi y19.Den)])]⟩) ?_
                    try simp only [thenL, blockL, ↓reduceIte, reduceCtorEq]
                    exact ⟨(y19.Num, y19.Den), H1, imp_au⟩
                · intro b_23
                  replace H1 := cneg H1 b_23
                  refine lok_skip ?_
                  try simp only [thenL, blockL, ↓reduceIte, reduceCtorEq]
                  exact ⟨(last, last1), H1, imp_au⟩
          · intro b_25
            replace H1 := cneg H1 b_25
            refine lok_exit ?_
            try simp only [thenL, blockL, ↓reduceIte, reduceCtorEq]
            have e_1 := k_1 _ (Option.some.inj H1).symm
            subst e_1
            try dsimp only at H0
            try simp only [thenL, blockL, ↓reduceIte, reduceCtorEq]
            exact ⟨(), H0, imp_au⟩
theorem ok_distribution_Dominates (a : api_Distribution) (b : api_Distribution) (r_ : Bool) (H0 : distribution_Dominates a b = some r_) : CallOK Try.prog 23 [.agg [.p (.sl 1 (List.map encI a.Counts))], .agg [.p (.sl 1 (List.map encI b.Counts))]] [] [.one (.p (.val (.bool r_)))] [] := by
  refine callOK (n := 45) (rs := [.tmp 4]) (nb := 0) (V := []) Try.func23 rfl (by kernel_rfl) rfl rfl rfl rfl (Nat.le_of_ble_eq_true rfl) (by decide) ?_
  unfold distribution_Dominates at H0
  refine lok_rt E0 (⟨45, mkS [(2, .x (.one (.ptr 102 0))), (3, .x (.one (.ptr 103 0)))], mkH [(102, .var [.p (.sl 1 (List.map encI a.Counts))]), (103, .var [.p (.sl 1 (List.map encI b.Counts))])]⟩) ?_
  replace H0 := bind_some H0
  obtain ⟨⟨y, y1⟩, h_0, H0⟩ := H0
  try dsimp only at H0
  refine lok_rt (Env.of E0 [⟨some 11, 44, [.agg [.p (.sl 1 (List.map encI a.Counts))]], [], [.one (.p (pi y)), .one (.p (pi y1))], [], True, fun _ => ok_distribution_check a (y, y1) h_0, []⟩]) (⟨45, mkS [(2, .x (.one (.ptr 102 0))), (3, .x (.one (.ptr 103 0))), (5, .x (.one (.p (pi y)))), (6, .x (.one (.p (pi y1))))], mkH [(102, .var [.p (.sl 1 (List.map encI a.Counts))]), (103, .var [.p (.sl 1 (List.map encI b.Counts))])]⟩) ?_
  refine lok_seq ?_
  refine lok_rt E0 (⟨45, mkS [(2, .x (.one (.ptr 102 0))), (3, .x (.one (.ptr 103 0))), (5, .x (.one (.p (pi y)))), (15, .x (.one (.p (.val (.bool (y1 != (0 : Int)))))))], mkH [(102, .var [.p (.sl 1 (List.map encI a.Counts))]), (103, .var [.p (.sl 1 (List.map encI b.Counts))])]⟩) ?_
  refine lok_c (y1 != (0 : Int)) ?_ ?_
  · intro b_8
    replace H0 := cpos H0 b_8
    refine lok_rt E0 (⟨45, mkS [(4, .x (.one (.p (.val (.bool false)))))], mkH []⟩) ?_
    refine lok_ret ?_
    obtain rfl := Option.some.inj H0
    try simp only [thenL, blockL]
    exact fin_au _ (.inr rfl) [] (⟨45, mkS [(4, .x (.one (.p (.val (.bool false)))))], mkH []⟩) rfl rfl imp_au
  · intro b_8
    replace H0 := cneg H0 b_8
    refine lok_skip ?_
    try simp only [thenL, blockL, ↓reduceIte, reduceCtorEq]
    replace H0 := bind_some H0
    obtain ⟨⟨y2, y3⟩, h_1, H0⟩ := H0
    try dsimp only at H0
    refine lok_rt (Env.of E0 [⟨some 18, 44, [.agg [.p (.sl 1 (List.map encI b.Counts))]], [], [.one (.p (pi y2)), .one (.p (pi y3))], [], True, fun _ => ok_distribution_check b (y2, y3) h_1, []⟩]) (⟨45, mkS [(2, .x (.one (.ptr 102 0))), (3, .x (.one (.ptr 103 0))), (5, .x (.one (.p (pi y)))), (6, .x (.one (.p (pi y3)))), (7, .x (.one (.p (pi y2))))], mkH [(102, .var [.p (.sl 1 (List.map encI a.Counts))]), (103, .var [.p (.sl 1 (List.map encI b.Counts))])]⟩) ?_
    refine lok_seq ?_
    refine lok_rt E0 (⟨45, mkS [(2, .x (.one (.ptr 102 0))), (3, .x (.one (.ptr 103 0))), (5, .x (.one (.p (pi y)))), (7, .x (.one (.p (pi y2)))), (22, .x (.one (.p (.val (.bool (y3 != (0 : Int)))))))], mkH [(102, .var [.p (.sl 1 (List.map encI a.Counts))]), (103, .var [.p (.sl 1 (List.map encI b.Counts))])]⟩) ?_
    refine lok_c (y3 != (0 : Int)) ?_ ?_
    · intro b_7
      replace H0 := cpos H0 b_7
      refine lok_rt E0 (⟨45, mkS [(4, .x (.one (.p (.val (.bool false)))))], mkH []⟩) ?_
      refine lok_ret ?_
      obtain rfl := Option.some.inj H0
      try simp only [thenL, blockL]
      exact fin_au _ (.inr rfl) [] (⟨45, mkS [(4, .x (.one (.p (.val (.bool false)))))], mkH []⟩) rfl rfl imp_au
    · intro b_7
      replace H0 := cneg H0 b_7
      refine lok_skip ?_
      try simp only [thenL, blockL, ↓reduceIte, reduceCtorEq]
      refine lok_join (fun x_ : Unit => distribution_Dominates_j1 = some r_) (fun x_ => ⟨45, mkS [], mkH []⟩) ?hydistribution_Dominates_j1 ?hxdistribution_Dominates_j1
      case hydistribution_Dominates_j1 =>
        rintro _ H0
        try dsimp only at H0 ⊢
        unfold distribution_Dominates_j1 at H0
        refine lok_rt E0 (⟨45, mkS [(4, .x (.one (.p (.val (.bool true)))))], mkH []⟩) ?_
        refine lok_ret ?_
        obtain rfl := Option.some.inj H0
        try simp only [thenL, blockL]
        exact fin_au _ (.inr rfl) [] (⟨45, mkS [(4, .x (.one (.p (.val (.bool true)))))], mkH []⟩) rfl rfl imp_au
      case hxdistribution_Dominates_j1 =>
        refine lok_rt E0 (⟨45, mkS [(2, .x (.one (.ptr 102 0))), (3, .x (.one (.ptr 103 0))), (5, .x (.one (.p (pi y)))), (7, .x (.one (.p (pi y2)))), (29, .x (.one (.p (pi (imax (a.Counts.length : Int) (b.Counts.length : Int)))))), (30, .x (.one (.p (pi (0 : Int)))))], mkH [(102, .var [.p (.sl 1 (List.map encI a.Counts))]), (103, .var [.p (.sl 1 (List.map encI b.Counts))])]⟩) ?_
        refine lok_block ?_
        replace H0 := bind_some H0
        obtain ⟨v_2, hv_2, H0⟩ := H0
        refine lok_iter (fun x_ => ⟨45, mkS [(2, .x (.one (.ptr 102 0))), (3, .x (.one (.ptr 103 0))), (5, .x (.one (.p (pi y)))), (7, .x (.one (.p (pi y2)))), (29, .x (.one (.p (pi (imax (a.Counts.length : Int) (b.Counts.length : Int)))))), (30, .x (.one (.p (pi x_))))], mkH [(102, .var [.p (.sl 1 (List.map encI a.Counts))]), (103, .var [.p (.sl 1 (List.map encI b.Counts))])]⟩) hv_2 imp_au ?_
        · rintro v o_1 H1 k_1
          unfold distribution_Dominates_l2 at H1
          try dsimp only at H1 ⊢
          refine lok_rt E0 (⟨45, mkS [(2, .x (.one (.ptr 102 0))), (3, .x (.one (.ptr 103 0))), (5, .x (.one (.p (pi y)))), (7, .x (.one (.p (pi y2)))), (29, .x (.one (.p (pi (imax (a.Counts.length : Int) (b.Counts.length : Int)))))), (30, .x (.one (.p (pi v)))), (31, .x (.one (.p (.val (.bool (decide (v < (imax (a.Counts.length : Int) (b.Counts.length : Int)))))))))], mkH [(102, .var [.p (.sl 1 (List.map encI a.Counts))]), (103, .var [.p (.sl 1 (List.map encI b.Counts))])]⟩) ?_
          refine lok_seq ?_
          refine lok_c (decide (v < (imax (a.Counts.length : Int) (b.Counts.length : Int)))) ?_ ?_
          · intro b_6
            replace H1 := cpos H1 b_6
            refine lok_skip ?_
            try simp only [thenL, blockL, ↓reduceIte, reduceCtorEq]
            refine lok_seq ?_
            refine lok_block ?_
            refine lok_rt E0 (⟨45, mkS [(2, .x (.one (.ptr 102 0))), (3, .x (.one (.ptr 103 0))), (5, .x (.one (.p (pi y)))), (7, .x (.one (.p (pi y2)))), (8, .x (.one (.p (pi v)))), (29, .x (.one (.p (pi (imax (a.Counts.length : Int) (b.Counts.length : Int)))))), (30, .x (.one (.p (pi v))))], mkH [(102, .var [.p (.sl 1 (List.map encI a.Counts))]), (103, .var [.p (.sl 1 (List.map encI b.Counts))])]⟩) ?_
            replace H1 := bind_some H1
            obtain ⟨y4, h_3, H1⟩ := H1
            replace H1 := bind_some H1
            obtain ⟨y5, h_4, H1⟩ := H1
            refine lok_dt (Env.of E0 [⟨some 35, 16, [.agg [.p (.sl 1 (List.map encI a.Counts))], .one (.p (pi v))], [], [.one (.p (pi y4))], [], True, fun _ => ok_distribution_Below a v y4 h_3, []⟩,
      ⟨some 40, 16, [.agg [.p (.sl 1 (List.map encI b.Counts))], .one (.p (pi v))], [], [.one (.p (pi y5))], [], True, fun _ => ok_distribution_Below b v y5 h_4, []⟩]) 10 (⟨45, mkS [(2, .x (.one (.ptr 102 0))), (3, .x (.one (.ptr 103 0))), (5, .x (.one (.p (pi y)))), (7, .x (.one (.p (pi y2)))), (29, .x (.one (.p (pi (imax (a.Counts.length : Int) (b.Counts.length : Int)))))), (30, .x (.one (.p (pi v)))), (43, .x (.one (.p (.val (.bool (decide ((IntKind.i64.wrap (y5 * y)) < (IntKind.i64.wrap (y4 * y2)))))))))], mkH [(102, .var [.p (.sl 1 (List.map encI a.Counts))]), (103, .var [.p (.sl 1 (List.map encI b.Counts))])]⟩) (by kernel_rfl) (by kernel_rfl) ?_
            refine lok_c (decide ((IntKind.i64.wrap (y5 * y)) < (IntKind.i64.wrap (y4 * y2)))) ?_ ?_
            · intro b_5
              replace H1 := cpos H1 b_5
              refine lok_rt E0 (⟨45, mkS [(4, .x (.one (.p (.val (.bool false)))))], mkH []⟩) ?_
              refine lok_ret ?_
              try simp only [thenL, blockL, ↓reduceIte, reduceCtorEq]
              have e_1 := k_1 _ (Option.some.inj H1).symm
              subst e_1
              try dsimp only at H0
              obtain rfl := Option.some.inj H0
              try simp only [thenL, blockL]
              exact fin_au _ (.inr rfl) [] (⟨45, mkS [(4, .x (.one (.p (.val (.bool false)))))], mkH []⟩) rfl rfl imp_au
            · intro b_5
              replace H1 := cneg H1 b_5
              refine lok_skip ?_
              try simp only [thenL, blockL, ↓reduceIte, reduceCtorEq]
              refine lok_rl E0 (⟨45, mkS [(2, .x (.one (.ptr 102 0))), (3, .x (.one (.ptr 103 0))), (5, .x (.one (.p (pi y)))), (7, .x (.one (.p (pi y2)))), (29, .x (.one (.p (pi (imax (a.Counts.length : Int) (b.Counts.length : Int)))))), (30, .x (.one (.p (pi (IntKind.i64.wrap (v + (1 : Int)))))))], mkH [(102, .var [.p (.sl 1 (List.map encI a.Counts))]), (103, .var [.p (.sl 1 (List.map encI b.Counts))])]⟩) ?_
              try simp only [thenL, blockL, ↓reduceIte, reduceCtorEq]
              exact ⟨(IntKind.i64.wrap (v + (1 : Int))), (Option.some.inj H1).symm, imp_au⟩
          · intro b_6
            replace H1 := cneg H1 b_6
            refine lok_exit ?_
            try simp only [thenL, blockL, ↓reduceIte, reduceCtorEq]
            have e_1 := k_1 _ (Option.some.inj H1).symm
            subst e_1
            try dsimp only at H0
            try simp only [thenL, blockL, ↓reduceIte, reduceCtorEq]
            exact ⟨(), H0, imp_au⟩
theorem ok_law32_DistributionDominates (t : List Int) (n : Int) (r_ : Bool) (H0 : law32_DistributionDominates t n = some r_) : CallOK Try.prog 6 [.one (.p (.sl 1 (List.map encI t))), .one (.p (.val (.int .u8 n)))] [] [.one (.p (.val (.bool r_)))] [] := by
  refine callOK (n := 129) (rs := [.tmp 4]) (nb := 0) (V := []) Try.func6 rfl (by kernel_rfl) rfl rfl rfl rfl (Nat.le_of_ble_eq_true rfl) (by decide) ?_
  unfold law32_DistributionDominates at H0
  refine lok_rt E0 (⟨129, mkS [(0, .x (.one (.p (.sl 1 (List.map encI t))))), (1, .x (.one (.p (.val (.int .u8 n)))))], mkH []⟩) ?_
  refine lok_seq ?_
  replace H0 := bind_some H0
  obtain ⟨y, h_0, H0⟩ := H0
  refine lok_rt (Env.of E0 [⟨some 16, 9, [.one (.p (.sl 1 (List.map encI t)))], [], [.one (.p (.val (.bool y)))], [], True, fun _ => ok_mark_Light t y h_0, []⟩]) (⟨129, mkS [(0, .x (.one (.p (.sl 1 (List.map encI t))))), (1, .x (.one (.p (.val (.int .u8 n))))), (17, .x (.one (.p (.val (.bool (!y))))))], mkH []⟩) ?_
  refine lok_c (!y) ?_ ?_
  · intro b_29
    replace H0 := cpos H0 b_29
    replace H0 := bind_some H0
    obtain ⟨y1, h_1, H0⟩ := H0
    refine lok_rt (Env.of E0 [⟨some 18, 10, [], [], [.one (.p (.val (.bool y1)))], [], True, fun _ => ok_law32_sane y1 h_1, []⟩]) (⟨129, mkS [(4, .x (.one (.p (.val (.bool y1)))))], mkH []⟩) ?_
    refine lok_ret ?_
    obtain rfl := Option.some.inj H0
    try simp only [thenL, blockL]
    exact fin_au _ (.inr rfl) [] (⟨129, mkS [(4, .x (.one (.p (.val (.bool y1)))))], mkH []⟩) rfl rfl imp_au
  · intro b_29
    replace H0 := cneg H0 b_29
    refine lok_skip ?_
    try simp only [thenL, blockL, ↓reduceIte, reduceCtorEq]
    replace H0 := bind_some H0
    obtain ⟨y2, h_2, H0⟩ := H0
    refine lok_rt (Env.of E0 [⟨some 20, 11, [.one (.p (.sl 1 (List.map encI t)))], [], [.one (.ptr 0 0)], [some (.var [.p (.sl 1 (List.map encI y2.L)), .p (pi y2.At)])], True, fun _ => ok_mark_Roll t y2 h_2, []⟩]) (⟨129, mkS [(1, .x (.one (.p (.val (.int .u8 n))))), (5, .x (.one (.ptr 1020 0)))], mkH [(1020, .var [.p (.sl 1 (List.map encI y2.L)), .p (pi y2.At)])]⟩) ?_
    replace H0 := bind_some H0
    obtain ⟨⟨y3, y4⟩, h_3, H0⟩ := H0
    try dsimp only at H0
    replace H0 := bind_some H0
    obtain ⟨⟨y5, y6⟩, h_4, H0⟩ := H0
    try dsimp only at H0
    replace H0 := bind_some H0
    obtain ⟨⟨y7, y8⟩, h_5, H0⟩ := H0
    try dsimp only at H0
    refine lok_rt (Env.of E0 [⟨some 22, 12, [.one (.ptr 0 0), .one (.p (pi (6 : Int))), .one (.p (.val (.bool false)))], [.var [.p (.sl 1 (List.map encI y2.L)), .p (pi y2.At)]], [.agg [.p (.sl 1 (List.map encI y3.Counts))]], [some (.var [.p (.sl 1 (List.map encI y4.L)), .p (pi y4.At)])], True, fun _ => ok_mark_Dice_Distribution y2 (6 : Int) false (y3, y4) h_3, []⟩,
      ⟨some 24, 12, [.one (.ptr 0 0), .one (.p (pi (6 : Int))), .one (.p (.val (.bool false)))], [.var [.p (.sl 1 (List.map encI y4.L)), .p (pi y4.At)]], [.agg [.p (.sl 1 (List.map encI y5.Counts))]], [some (.var [.p (.sl 1 (List.map encI y6.L)), .p (pi y6.At)])], True, fun _ => ok_mark_Dice_Distribution y4 (6 : Int) false (y5, y6) h_4, []⟩,
      ⟨some 26, 12, [.one (.ptr 0 0), .one (.p (pi (6 : Int))), .one (.p (.val (.bool false)))], [.var [.p (.sl 1 (List.map encI y6.L)), .p (pi y6.At)]], [.agg [.p (.sl 1 (List.map encI y7.Counts))]], [some (.var [.p (.sl 1 (List.map encI y8.L)), .p (pi y8.At)])], True, fun _ => ok_mark_Dice_Distribution y6 (6 : Int) false (y7, y8) h_5, []⟩]) (⟨129, mkS [(1, .x (.one (.p (.val (.int .u8 n))))), (6, .x (.one (.ptr 106 0))), (7, .x (.one (.ptr 107 0))), (8, .x (.one (.ptr 108 0)))], mkH [(106, .var [.p (.sl 1 (List.map encI y3.Counts))]), (107, .var [.p (.sl 1 (List.map encI y5.Counts))]), (108, .var [.p (.sl 1 (List.map encI y7.Counts))])]⟩) ?_
    refine lok_seq ?_
    replace H0 := bind_some H0
    obtain ⟨y9, h_6, H0⟩ := H0
    replace H0 := req_some H0
    obtain ⟨⟨q_25, q_26, q_27, q_28⟩, H0⟩ := H0
    refine lok_rt (Env.of E0 [⟨some 29, 23, [.agg [.p (.sl 1 (List.map encI y3.Counts))], .agg [.p (.sl 1 (List.map encI y5.Counts))]], [], [.one (.p (.val (.bool y9)))], [], True, fun _ => ok_distribution_Dominates y3 y5 y9 h_6, []⟩,
      ⟨some 33, 23, [.agg [.p (.sl 1 (List.map encI y5.Counts))], .agg [.p (.sl 1 (List.map encI y7.Counts))]], [], [.one (.p (.val (.bool ((distribution_Dominates y5 y7).getD default))))], [], (distribution_Dominates y5 y7).isSome = true, fun h => ok_distribution_Dominates y5 y7 _ (isSome_get h), []⟩,
      ⟨some 38, 23, [.agg [.p (.sl 1 (List.map encI y3.Counts))], .agg [.p (.sl 1 (List.map encI y7.Counts))]], [], [.one (.p (.val (.bool ((distribution_Dominates y3 y7).getD default))))], [], (distribution_Dominates y3 y7).isSome = true, fun h => ok_distribution_Dominates y3 y7 _ (isSome_get h), []⟩,
      ⟨some 43, 15, [.agg [.p (.sl 1 (List.map encI y3.Counts))]], [], [.one (.p (pi ((distribution_Count y3).getD default)))], [], (distribution_Count y3).isSome = true, fun h => ok_distribution_Count y3 _ (isSome_get h), []⟩,
      ⟨some 48, 23, [.agg [.p (.sl 1 (List.map encI y3.Counts))], .agg [.p (.sl 1 (List.map encI y3.Counts))]], [], [.one (.p (.val (.bool ((distribution_Dominates y3 y3).getD default))))], [], (distribution_Dominates y3 y3).isSome = true, fun h => ok_distribution_Dominates y3 y3 _ (isSome_get h), []⟩]) (⟨129, mkS [(1, .x (.one (.p (.val (.int .u8 n))))), (6, .x (.one (.ptr 106 0))), (7, .x (.one (.ptr 107 0))), (51, .x (.one (.p (.val (.bool (((y9 && ((distribution_Dominates y5 y7).getD default)) && (!((distribution_Dominates y3 y7).getD default))) || ((decide ((0 : Int) < ((distribution_Count y3).getD default))) && (!((distribution_Dominates y3 y3).getD default)))))))))], mkH [(106, .var [.p (.sl 1 (List.map encI y3.Counts))]), (107, .var [.p (.sl 1 (List.map encI y5.Counts))])]⟩) ?_
    refine lok_c (((y9 && ((distribution_Dominates y5 y7).getD default)) && (!((distribution_Dominates y3 y7).getD default))) || ((decide ((0 : Int) < ((distribution_Count y3).getD default))) && (!((distribution_Dominates y3 y3).getD default)))) ?_ ?_
    · intro b_24
      replace H0 := cpos H0 b_24
      refine lok_rt E0 (⟨129, mkS [(4, .x (.one (.p (.val (.bool false)))))], mkH []⟩) ?_
      refine lok_ret ?_
      obtain rfl := Option.some.inj H0
      try simp only [thenL, blockL]
      exact fin_au _ (.inr rfl) [] (⟨129, mkS [(4, .x (.one (.p (.val (.bool false)))))], mkH []⟩) rfl rfl imp_au
    · intro b_24
      replace H0 := cneg H0 b_24
      refine lok_skip ?_
      try simp only [thenL, blockL, ↓reduceIte, reduceCtorEq]
      replace H0 := bind_some H0
      obtain ⟨⟨y10, y11⟩, h_7, H0⟩ := H0
      try dsimp only at H0
      refine lok_rt (Env.of E0 [⟨some 54, 19, [.agg [.p (.sl 1 (List.map encI y3.Counts))]], [], [.agg [.p (pi y10.Num), .p (pi y10.Den)], .one (.p (pi y11))], [], True, fun _ => ok_distribution_Mean y3 (y10, y11) h_7, []⟩]) (⟨129, mkS [(1, .x (.one (.p (.val (.int .u8 n))))), (6, .x (.one (.ptr 106 0))), (7, .x (.one (.ptr 107 0))), (9, .x (.one (.ptr 109 0))), (10, .x (.one (.p (pi y11))))], mkH [(106, .var [.p (.sl 1 (List.map encI y3.Counts))]), (107, .var [.p (.sl 1 (List.map encI y5.Counts))]), (109, .var [.p (pi y10.Num), .p (pi y10.Den)])]⟩) ?_
      replace H0 := bind_some H0
      obtain ⟨⟨y12, y13⟩, h_8, H0⟩ := H0
      try dsimp only at H0
      refine lok_rt (Env.of E0 [⟨some 59, 19, [.agg [.p (.sl 1 (List.map encI y5.Counts))]], [], [.agg [.p (pi y12.Num), .p (pi y12.Den)], .one (.p (pi y13))], [], True, fun _ => ok_distribution_Mean y5 (y12, y13) h_8, []⟩]) (⟨129, mkS [(1, .x (.one (.p (.val (.int .u8 n))))), (6, .x (.one (.ptr 106 0))), (7, .x (.one (.ptr 107 0))), (9, .x (.one (.ptr 109 0))), (10, .x (.one (.p (pi y11)))), (11, .x (.one (.ptr 111 0))), (12, .x (.one (.p (pi y13))))], mkH [(106, .var [.p (.sl 1 (List.map encI y3.Counts))]), (107, .var [.p (.sl 1 (List.map encI y5.Counts))]), (109, .var [.p (pi y10.Num), .p (pi y10.Den)]), (111, .var [.p (pi y12.Num), .p (pi y12.Den)])]⟩) ?_
      refine lok_seq ?_
      replace H0 := bind_some H0
      obtain ⟨y14, h_9, H0⟩ := H0
      replace H0 := req_some H0
      obtain ⟨q_23, H0⟩ := H0
      refine lok_rt (Env.of E0 [⟨some 64, 23, [.agg [.p (.sl 1 (List.map encI y3.Counts))], .agg [.p (.sl 1 (List.map encI y5.Counts))]], [], [.one (.p (.val (.bool y14)))], [], True, fun _ => ok_distribution_Dominates y3 y5 y14 h_9, []⟩,
      ⟨some 75, 22, [.agg [.p (pi y10.Num), .p (pi y10.Den)], .agg [.p (pi y12.Num), .p (pi y12.Den)]], [], [.one (.p (.val (.bool ((ref01_Less y10 y12).getD default))))], [], (ref01_Less y10 y12).isSome = true, fun h => ok_ref01_Less y10 y12 _ (isSome_get h), []⟩]) (⟨129, mkS [(1, .x (.one (.p (.val (.int .u8 n))))), (6, .x (.one (.ptr 106 0))), (77, .x (.one (.p (.val (.bool (y14 && (((y11 != (0 : Int)) || (y13 != (0 : Int))) || ((ref01_Less y10 y12).getD default))))))))], mkH [(106, .var [.p (.sl 1 (List.map encI y3.Counts))])]⟩) ?_
      refine lok_c (y14 && (((y11 != (0 : Int)) || (y13 != (0 : Int))) || ((ref01_Less y10 y12).getD default))) ?_ ?_
      · intro b_22
        replace H0 := cpos H0 b_22
        refine lok_rt E0 (⟨129, mkS [(4, .x (.one (.p (.val (.bool false)))))], mkH []⟩) ?_
        refine lok_ret ?_
        obtain rfl := Option.some.inj H0
        try simp only [thenL, blockL]
        exact fin_au _ (.inr rfl) [] (⟨129, mkS [(4, .x (.one (.p (.val (.bool false)))))], mkH []⟩) rfl rfl imp_au
      · intro b_22
        replace H0 := cneg H0 b_22
        refine lok_skip ?_
        try simp only [thenL, blockL, ↓reduceIte, reduceCtorEq]
        replace H0 := req_some H0
        obtain ⟨q_21, H0⟩ := H0
        refine lok_rt E0 (⟨129, mkS [(6, .x (.one (.ptr 106 0))), (13, .x (.one (.p (pi (Int.tmod (IntKind.i64.wrap n) (y3.Counts.length : Int))))))], mkH [(106, .var [.p (.sl 1 (List.map encI y3.Counts))])]⟩) ?_
        refine lok_seq ?_
        replace H0 := req_some H0
        obtain ⟨q_20, H0⟩ := H0
        refine lok_rt E0 (⟨129, mkS [(6, .x (.one (.ptr 106 0))), (13, .x (.one (.p (pi (Int.tmod (IntKind.i64.wrap n) (y3.Counts.length : Int)))))), (97, .x (.one (.p (.val (.bool (((ix y3.Counts (Int.tmod (IntKind.i64.wrap n) (y3.Counts.length : Int))) == (0 : Int)) || ((IntKind.i64.wrap ((Int.tmod (IntKind.i64.wrap n) (y3.Counts.length : Int)) + (1 : Int))) == (y3.Counts.length : Int))))))))], mkH [(106, .var [.p (.sl 1 (List.map encI y3.Counts))])]⟩) ?_
        refine lok_c (((ix y3.Counts (Int.tmod (IntKind.i64.wrap n) (y3.Counts.length : Int))) == (0 : Int)) || ((IntKind.i64.wrap ((Int.tmod (IntKind.i64.wrap n) (y3.Counts.length : Int)) + (1 : Int))) == (y3.Counts.length : Int))) ?_ ?_
        · intro b_19
          replace H0 := cpos H0 b_19
          replace H0 := bind_some H0
          obtain ⟨y15, h_10, H0⟩ := H0
          refine lok_rt (Env.of E0 [⟨some 98, 10, [], [], [.one (.p (.val (.bool y15)))], [], True, fun _ => ok_law32_sane y15 h_10, []⟩]) (⟨129, mkS [(4, .x (.one (.p (.val (.bool y15)))))], mkH []⟩) ?_
          refine lok_ret ?_
          obtain rfl := Option.some.inj H0
          try simp only [thenL, blockL]
          exact fin_au _ (.inr rfl) [] (⟨129, mkS [(4, .x (.one (.p (.val (.bool y15)))))], mkH []⟩) rfl rfl imp_au
        · intro b_19
          replace H0 := cneg H0 b_19
          refine lok_skip ?_
          try simp only [thenL, blockL, ↓reduceIte, reduceCtorEq]
          replace H0 := req_some H0
          obtain ⟨q_18, H0⟩ := H0
          refine lok_rt E0 (⟨129, mkS [(6, .x (.one (.ptr 106 0))), (13, .x (.one (.p (pi (Int.tmod (IntKind.i64.wrap n) (y3.Counts.length : Int)))))), (14, .x (.one (.vw 201)))], mkH [(106, .var [.p (.sl 1 (List.map encI y3.Counts))]), (201, .arr 1 (List.map encI y3.Counts))]⟩) ?_
          replace H0 := req_some H0
          obtain ⟨q_17, H0⟩ := H0
          replace H0 := bindV_some H0
          obtain ⟨w, a_11, H0⟩ := H0
          refine lok_rtg E0 a_11 (⟨129, mkS [(6, .x (.one (.ptr 106 0))), (13, .x (.one (.p (pi (Int.tmod (IntKind.i64.wrap n) (y3.Counts.length : Int)))))), (14, .x (.one (.vw 201)))], mkH [(106, .var [.p (.sl 1 (List.map encI y3.Counts))]), (201, .arr 1 (List.map encI w))]⟩) ?_
          replace H0 := req_some H0
          obtain ⟨q_16, H0⟩ := H0
          replace H0 := bindV_some H0
          obtain ⟨w1, a_12, H0⟩ := H0
          refine lok_rtg E0 a_12 (⟨129, mkS [(6, .x (.one (.ptr 106 0))), (14, .x (.one (.vw 201)))], mkH [(106, .var [.p (.sl 1 (List.map encI y3.Counts))]), (201, .arr 1 (List.map encI w1))]⟩) ?_
          replace H0 := bind_some H0
          obtain ⟨y16, h_13, H0⟩ := H0
          replace H0 := req_some H0
          obtain ⟨⟨q_14, q_15⟩, H0⟩ := H0
          refine lok_rt (Env.of E0 [⟨some 118, 23, [.agg [.p (.sl 1 (List.map encI w1))], .agg [.p (.sl 1 (List.map encI y3.Counts))]], [], [.one (.p (.val (.bool y16)))], [], True, fun _ => ok_distribution_Dominates (api_Distribution.mk w1) y3 y16 h_13, []⟩,
      ⟨some 123, 23, [.agg [.p (.sl 1 (List.map encI y3.Counts))], .agg [.p (.sl 1 (List.map encI w1))]], [], [.one (.p (.val (.bool ((distribution_Dominates y3 (api_Distribution.mk w1)).getD default))))], [], (distribution_Dominates y3 (api_Distribution.mk w1)).isSome = true, fun h => ok_distribution_Dominates y3 (api_Distribution.mk w1) _ (isSome_get h), []⟩,
      ⟨some 127, 10, [], [], [.one (.p (.val (.bool ((law32_sane).getD default))))], [], (law32_sane).isSome = true, fun h => ok_law32_sane _ (isSome_get h), []⟩]) (⟨129, mkS [(4, .x (.one (.p (.val (.bool ((y16 && (!((distribution_Dominates y3 (api_Distribution.mk w1)).getD default))) && ((law32_sane).getD default)))))))], mkH []⟩) ?_
          refine lok_ret ?_
          obtain rfl := Option.some.inj H0
          try simp only [thenL, blockL]
          exact fin_au _ (.inr rfl) [] (⟨129, mkS [(4, .x (.one (.p (.val (.bool ((y16 && (!((distribution_Dominates y3 (api_Distribution.mk w1)).getD default))) && ((law32_sane).getD default)))))))], mkH []⟩) rfl rfl imp_au
theorem ok_distribution_Smooth (d : api_Distribution) (r_ : api_Distribution × Int) (H0 : distribution_Smooth d = some r_) : CallOK Try.prog 24 [.agg [.p (.sl 1 (List.map encI d.Counts))]] [] [.agg [.p (.sl 1 (List.map encI r_.1.Counts))], .one (.p (pi r_.2))] [] := by
  refine callOK (n := 29) (rs := [.cell 2 26, .tmp 3]) (nb := 0) (V := []) Try.func24 rfl (by kernel_rfl) rfl rfl rfl rfl (Nat.le_of_ble_eq_true rfl) (by decide) ?_
  unfold distribution_Smooth at H0
  refine lok_rt E0 (⟨29, mkS [(1, .x (.one (.ptr 101 0))), (2, .x (.one (.ptr 102 0)))], mkH [(101, .var [.p (.sl 1 (List.map encI d.Counts))]), (102, .var [.p .nil])]⟩) ?_
  refine lok_seq ?_
  replace H0 := bind_some H0
  obtain ⟨y, h_0, H0⟩ := H0
  refine lok_rt (Env.of E0 [⟨some 7, 28, [.agg [.p (.sl 1 (List.map encI d.Counts))]], [], [.one (.p (.val (.bool y)))], [], True, fun _ => ok_distribution_Valid d y h_0, []⟩]) (⟨29, mkS [(1, .x (.one (.ptr 101 0))), (2, .x (.one (.ptr 102 0))), (8, .x (.one (.p (.val (.bool (!y))))))], mkH [(101, .var [.p (.sl 1 (List.map encI d.Counts))]), (102, .var [.p .nil])]⟩) ?_
  refine lok_c (!y) ?_ ?_
  · intro b_6
    replace H0 := cpos H0 b_6
    refine lok_rt E0 (⟨29, mkS [(2, .x (.one (.ptr 102 0))), (3, .x (.one (.p (pi (1 : Int)))))], mkH [(102, .var [.p .nil])]⟩) ?_
    refine lok_ret ?_
    obtain rfl := Option.some.inj H0
    try simp only [thenL, blockL]
    exact fin_au _ (.inr rfl) [] (⟨29, mkS [(2, .x (.one (.ptr 102 0))), (3, .x (.one (.p (pi (1 : Int)))))], mkH [(102, .var [.p (.sl 1 (List.map encI ([] : List Int)))])]⟩) rfl rfl imp_au
  · intro b_6
    replace H0 := cneg H0 b_6
    refine lok_skip ?_
    try simp only [thenL, blockL, ↓reduceIte, reduceCtorEq]
    replace H0 := req_some H0
    obtain ⟨q_5, H0⟩ := H0
    refine lok_rt E0 (⟨29, mkS [(1, .x (.one (.ptr 101 0))), (2, .x (.one (.ptr 102 0))), (4, .x (.one (.vw 113)))], mkH [(101, .var [.p (.sl 1 (List.map encI d.Counts))]), (102, .var [.p .nil]), (113, .arr 1 (List.map encI (rep (d.Counts.length : Int) (0 : Int))))]⟩) ?_
    refine lok_join (fun x_ : (List Int) => distribution_Smooth_j1 d x_ = some r_) (fun x_ => ⟨29, mkS [(1, .x (.one (.ptr 101 0))), (2, .x (.one (.ptr 102 0))), (4, .x (.one (.vw 113)))], mkH [(101, .var [.p (.sl 1 (List.map encI d.Counts))]), (102, .var [.p .nil]), (113, .arr 1 (List.map encI x_))]⟩) ?hydistribution_Smooth_j1 ?hxdistribution_Smooth_j1
    case hydistribution_Smooth_j1 =>
      rintro w H0
      try dsimp only at H0 ⊢
      unfold distribution_Smooth_j1 at H0
      refine lok_imp (st' := ⟨29, mkS [(1, .x (.one (.ptr 101 0))), (2, .x (.one (.ptr 102 0))), (4, .x (.one (.p (.sl 1 (List.map encI w)))))], mkH [(101, .var [.p (.sl 1 (List.map encI d.Counts))]), (102, .var [.p .nil])]⟩) (Imp.trans (imp_frz 113 1 (List.map encI w)) imp_au) ?_
      replace H0 := bind_some H0
      obtain ⟨⟨y1, y2⟩, h_1, H0⟩ := H0
      try dsimp only at H0
      refine lok_rt (Env.of E0 [⟨some 26, 20, [.agg [.p (.sl 1 (List.map encI d.Counts))], .agg [.p (.sl 1 (List.map encI w))]], [], [.agg [.p (.sl 1 (List.map encI y1.Counts))], .one (.p (pi y2))], [], True, fun _ => ok_distribution_Add d (api_Distribution.mk w) (y1, y2) h_1, []⟩]) (⟨29, mkS [(2, .x (.one (.ptr 102 0))), (3, .x (.one (.p (pi y2))))], mkH [(102, .var [.p (.sl 1 (List.map encI y1.Counts))])]⟩) ?_
      refine lok_ret ?_
      obtain rfl := Option.some.inj H0
      try simp only [thenL, blockL]
      exact fin_au _ (.inr rfl) [] (⟨29, mkS [(2, .x (.one (.ptr 102 0))), (3, .x (.one (.p (pi y2))))], mkH [(102, .var [.p (.sl 1 (List.map encI y1.Counts))])]⟩) rfl rfl imp_au
    case hxdistribution_Smooth_j1 =>
      refine lok_rt E0 (⟨29, mkS [(1, .x (.one (.ptr 101 0))), (2, .x (.one (.ptr 102 0))), (4, .x (.one (.vw 113))), (15, .x (.one (.p (pi ((rep (d.Counts.length : Int) (0 : Int)).length : Int))))), (16, .x (.one (.p (pi (0 : Int)))))], mkH [(101, .var [.p (.sl 1 (List.map encI d.Counts))]), (102, .var [.p .nil]), (113, .arr 1 (List.map encI (rep (d.Counts.length : Int) (0 : Int))))]⟩) ?_
      refine lok_block ?_
      replace H0 := bind_some H0
      obtain ⟨v_2, hv_2, H0⟩ := H0
      refine lok_iter (fun x_ => ⟨29, mkS [(1, .x (.one (.ptr 101 0))), (2, .x (.one (.ptr 102 0))), (4, .x (.one (.vw 113))), (15, .x (.one (.p (pi ((rep (d.Counts.length : Int) (0 : Int)).length : Int))))), (16, .x (.one (.p (pi x_.1))))], mkH [(101, .var [.p (.sl 1 (List.map encI d.Counts))]), (102, .var [.p .nil]), (113, .arr 1 (List.map encI x_.2))]⟩) hv_2 imp_au ?_
      · rintro ⟨v, w1⟩ o_1 H1 k_1
        unfold distribution_Smooth_l2 at H1
        try dsimp only at H1 ⊢
        refine lok_rt E0 (⟨29, mkS [(1, .x (.one (.ptr 101 0))), (2, .x (.one (.ptr 102 0))), (4, .x (.one (.vw 113))), (15, .x (.one (.p (pi ((rep (d.Counts.length : Int) (0 : Int)).length : Int))))), (16, .x (.one (.p (pi v)))), (17, .x (.one (.p (.val (.bool (decide (v < ((rep (d.Counts.length : Int) (0 : Int)).length : Int))))))))], mkH [(101, .var [.p (.sl 1 (List.map encI d.Counts))]), (102, .var [.p .nil]), (113, .arr 1 (List.map encI w1))]⟩) ?_
        refine lok_seq ?_
        refine lok_c (decide (v < ((rep (d.Counts.length : Int) (0 : Int)).length : Int))) ?_ ?_
        · intro b_4
          replace H1 := cpos H1 b_4
          refine lok_skip ?_
          try simp only [thenL, blockL, ↓reduceIte, reduceCtorEq]
          refine lok_seq ?_
          refine lok_block ?_
          refine lok_rt E0 (⟨29, mkS [(1, .x (.one (.ptr 101 0))), (2, .x (.one (.ptr 102 0))), (4, .x (.one (.vw 113))), (5, .x (.one (.p (pi v)))), (15, .x (.one (.p (pi ((rep (d.Counts.length : Int) (0 : Int)).length : Int))))), (16, .x (.one (.p (pi v))))], mkH [(101, .var [.p (.sl 1 (List.map encI d.Counts))]), (102, .var [.p .nil]), (113, .arr 1 (List.map encI w1))]⟩) ?_
          replace H1 := req_some H1
          obtain ⟨q_3, H1⟩ := H1
          refine lok_rl E0 (⟨29, mkS [(1, .x (.one (.ptr 101 0))), (2, .x (.one (.ptr 102 0))), (4, .x (.one (.vw 113))), (15, .x (.one (.p (pi ((rep (d.Counts.length : Int) (0 : Int)).length : Int))))), (16, .x (.one (.p (pi v))))], mkH [(101, .var [.p (.sl 1 (List.map encI d.Counts))]), (102, .var [.p .nil]), (113, .arr 1 (List.map encI (setI w1 v (1 : Int))))]⟩) ?_
          try simp only [thenL, blockL, ↓reduceIte, reduceCtorEq]
          refine lok_rl E0 (⟨29, mkS [(1, .x (.one (.ptr 101 0))), (2, .x (.one (.ptr 102 0))), (4, .x (.one (.vw 113))), (15, .x (.one (.p (pi ((rep (d.Counts.length : Int) (0 : Int)).length : Int))))), (16, .x (.one (.p (pi (IntKind.i64.wrap (v + (1 : Int)))))))], mkH [(101, .var [.p (.sl 1 (List.map encI d.Counts))]), (102, .var [.p .nil]), (113, .arr 1 (List.map encI (setI w1 v (1 : Int))))]⟩) ?_
          try simp only [thenL, blockL, ↓reduceIte, reduceCtorEq]
          exact ⟨((IntKind.i64.wrap (v + (1 : Int))), (setI w1 v (1 : Int))), (Option.some.inj H1).symm, imp_au⟩
        · intro b_4
          replace H1 := cneg H1 b_4
          refine lok_exit ?_
          try simp only [thenL, blockL, ↓reduceIte, reduceCtorEq]
          have e_1 := k_1 _ (Option.some.inj H1).symm
          subst e_1
          try dsimp only at H0
          try simp only [thenL, blockL, ↓reduceIte, reduceCtorEq]
          exact ⟨w1, H0, imp_au⟩
theorem ok_law32_DistributionSmooth (t : List Int) (r_ : Bool) (H0 : law32_DistributionSmooth t = some r_) : CallOK Try.prog 7 [.one (.p (.sl 1 (List.map encI t)))] [] [.one (.p (.val (.bool r_)))] [] := by
  refine callOK (n := 110) (rs := [.tmp 2]) (nb := 0) (V := []) Try.func7 rfl (by kernel_rfl) rfl rfl rfl rfl (Nat.le_of_ble_eq_true rfl) (by decide) ?_
  unfold law32_DistributionSmooth at H0
  refine lok_rt E0 (⟨110, mkS [(0, .x (.one (.p (.sl 1 (List.map encI t)))))], mkH []⟩) ?_
  refine lok_seq ?_
  replace H0 := bind_some H0
  obtain ⟨y, h_0, H0⟩ := H0
  refine lok_rt (Env.of E0 [⟨some 14, 9, [.one (.p (.sl 1 (List.map encI t)))], [], [.one (.p (.val (.bool y)))], [], True, fun _ => ok_mark_Light t y h_0, []⟩]) (⟨110, mkS [(0, .x (.one (.p (.sl 1 (List.map encI t))))), (15, .x (.one (.p (.val (.bool (!y))))))], mkH []⟩) ?_
  refine lok_c (!y) ?_ ?_
  · intro b_22
    replace H0 := cpos H0 b_22
    replace H0 := bind_some H0
    obtain ⟨y1, h_1, H0⟩ := H0
    refine lok_rt (Env.of E0 [⟨some 16, 10, [], [], [.one (.p (.val (.bool y1)))], [], True, fun _ => ok_law32_sane y1 h_1, []⟩]) (⟨110, mkS [(2, .x (.one (.p (.val (.bool y1)))))], mkH []⟩) ?_
    refine lok_ret ?_
    obtain rfl := Option.some.inj H0
    try simp only [thenL, blockL]
    exact fin_au _ (.inr rfl) [] (⟨110, mkS [(2, .x (.one (.p (.val (.bool y1)))))], mkH []⟩) rfl rfl imp_au
  · intro b_22
    replace H0 := cneg H0 b_22
    refine lok_skip ?_
    try simp only [thenL, blockL, ↓reduceIte, reduceCtorEq]
    replace H0 := bind_some H0
    obtain ⟨y2, h_2, H0⟩ := H0
    replace H0 := bind_some H0
    obtain ⟨⟨y3, y4⟩, h_3, H0⟩ := H0
    try dsimp only at H0
    refine lok_rt (Env.of E0 [⟨some 18, 11, [.one (.p (.sl 1 (List.map encI t)))], [], [.one (.ptr 0 0)], [some (.var [.p (.sl 1 (List.map encI y2.L)), .p (pi y2.At)])], True, fun _ => ok_mark_Roll t y2 h_2, []⟩,
      ⟨some 19, 12, [.one (.ptr 0 0), .one (.p (pi (8 : Int))), .one (.p (.val (.bool false)))], [.var [.p (.sl 1 (List.map encI y2.L)), .p (pi y2.At)]], [.agg [.p (.sl 1 (List.map encI y3.Counts))]], [some (.var [.p (.sl 1 (List.map encI y4.L)), .p (pi y4.At)])], True, fun _ => ok_mark_Dice_Distribution y2 (8 : Int) false (y3, y4) h_3, []⟩]) (⟨110, mkS [(3, .x (.one (.ptr 103 0)))], mkH [(103, .var [.p (.sl 1 (List.map encI y3.Counts))])]⟩) ?_
    replace H0 := bind_some H0
    obtain ⟨⟨y5, y6⟩, h_4, H0⟩ := H0
    try dsimp only at H0
    refine lok_rt (Env.of E0 [⟨some 22, 24, [.agg [.p (.sl 1 (List.map encI y3.Counts))]], [], [.agg [.p (.sl 1 (List.map encI y5.Counts))], .one (.p (pi y6))], [], True, fun _ => ok_distribution_Smooth y3 (y5, y6) h_4, []⟩]) (⟨110, mkS [(3, .x (.one (.ptr 103 0))), (4, .x (.one (.ptr 104 0))), (5, .x (.one (.p (pi y6))))], mkH [(103, .var [.p (.sl 1 (List.map encI y3.Counts))]), (104, .var [.p (.sl 1 (List.map encI y5.Counts))])]⟩) ?_
    refine lok_seq ?_
    refine lok_rt E0 (⟨110, mkS [(3, .x (.one (.ptr 103 0))), (4, .x (.one (.ptr 104 0))), (35, .x (.one (.p (.val (.bool ((y6 != (0 : Int)) || ((y5.Counts.length : Int) != (y3.Counts.length : Int))))))))], mkH [(103, .var [.p (.sl 1 (List.map encI y3.Counts))]), (104, .var [.p (.sl 1 (List.map encI y5.Counts))])]⟩) ?_
    refine lok_c ((y6 != (0 : Int)) || ((y5.Counts.length : Int) != (y3.Counts.length : Int))) ?_ ?_
    · intro b_21
      replace H0 := cpos H0 b_21
      refine lok_rt E0 (⟨110, mkS [(2, .x (.one (.p (.val (.bool false)))))], mkH []⟩) ?_
      refine lok_ret ?_
      obtain rfl := Option.some.inj H0
      try simp only [thenL, blockL]
      exact fin_au _ (.inr rfl) [] (⟨110, mkS [(2, .x (.one (.p (.val (.bool false)))))], mkH []⟩) rfl rfl imp_au
    · intro b_21
      replace H0 := cneg H0 b_21
      refine lok_skip ?_
      try simp only [thenL, blockL, ↓reduceIte, reduceCtorEq]
      refine lok_join (fun x_ : Unit => law32_DistributionSmooth_j1 y3 y5 = some r_) (fun x_ => ⟨110, mkS [(3, .x (.one (.ptr 103 0))), (4, .x (.one (.ptr 104 0)))], mkH [(103, .var [.p (.sl 1 (List.map encI y3.Counts))]), (104, .var [.p (.sl 1 (List.map encI y5.Counts))])]⟩) ?hylaw32_DistributionSmooth_j1 ?hxlaw32_DistributionSmooth_j1
      case hylaw32_DistributionSmooth_j1 =>
        rintro _ H0
        try dsimp only at H0 ⊢
        unfold law32_DistributionSmooth_j1 at H0
        replace H0 := bind_some H0
        obtain ⟨⟨y7, y8⟩, h_5, H0⟩ := H0
        try dsimp only at H0
        refine lok_rt (Env.of E0 [⟨some 60, 13, [.one (.p (pi (IntKind.i64.wrap ((y3.Counts.length : Int) - (1 : Int))))), .one (.p (pi (2 : Int)))], [], [.agg [.p (pi y7.Num), .p (pi y7.Den)], .one (.p (pi y8))], [], True, fun _ => ok_ref01_New (IntKind.i64.wrap ((y3.Counts.length : Int) - (1 : Int))) (2 : Int) (y7, y8) h_5, []⟩]) (⟨110, mkS [(3, .x (.one (.ptr 103 0))), (4, .x (.one (.ptr 104 0))), (7, .x (.one (.ptr 107 0))), (8, .x (.one (.p (pi y8))))], mkH [(103, .var [.p (.sl 1 (List.map encI y3.Counts))]), (104, .var [.p (.sl 1 (List.map encI y5.Counts))]), (107, .var [.p (pi y7.Num), .p (pi y7.Den)])]⟩) ?_
        replace H0 := bind_some H0
        obtain ⟨⟨y9, y10⟩, h_6, H0⟩ := H0
        try dsimp only at H0
        refine lok_rt (Env.of E0 [⟨some 65, 19, [.agg [.p (.sl 1 (List.map encI y3.Counts))]], [], [.agg [.p (pi y9.Num), .p (pi y9.Den)], .one (.p (pi y10))], [], True, fun _ => ok_distribution_Mean y3 (y9, y10) h_6, []⟩]) (⟨110, mkS [(4, .x (.one (.ptr 104 0))), (7, .x (.one (.ptr 107 0))), (8, .x (.one (.p (pi y8)))), (9, .x (.one (.ptr 109 0))), (10, .x (.one (.p (pi y10))))], mkH [(104, .var [.p (.sl 1 (List.map encI y5.Counts))]), (107, .var [.p (pi y7.Num), .p (pi y7.Den)]), (109, .var [.p (pi y9.Num), .p (pi y9.Den)])]⟩) ?_
        replace H0 := bind_some H0
        obtain ⟨⟨y11, y12⟩, h_7, H0⟩ := H0
        try dsimp only at H0
        refine lok_rt (Env.of E0 [⟨some 70, 19, [.agg [.p (.sl 1 (List.map encI y5.Counts))]], [], [.agg [.p (pi y11.Num), .p (pi y11.Den)], .one (.p (pi y12))], [], True, fun _ => ok_distribution_Mean y5 (y11, y12) h_7, []⟩]) (⟨110, mkS [(7, .x (.one (.ptr 107 0))), (8, .x (.one (.p (pi y8)))), (9, .x (.one (.ptr 109 0))), (10, .x (.one (.p (pi y10)))), (11, .x (.one (.ptr 111 0))), (12, .x (.one (.p (pi y12))))], mkH [(107, .var [.p (pi y7.Num), .p (pi y7.Den)]), (109, .var [.p (pi y9.Num), .p (pi y9.Den)]), (111, .var [.p (pi y11.Num), .p (pi y11.Den)])]⟩) ?_
        refine lok_seq ?_
        refine lok_rt E0 (⟨110, mkS [(7, .x (.one (.ptr 107 0))), (9, .x (.one (.ptr 109 0))), (10, .x (.one (.p (pi y10)))), (11, .x (.one (.ptr 111 0))), (78, .x (.one (.p (.val (.bool ((y8 != (0 : Int)) || (y12 != (0 : Int))))))))], mkH [(107, .var [.p (pi y7.Num), .p (pi y7.Den)]), (109, .var [.p (pi y9.Num), .p (pi y9.Den)]), (111, .var [.p (pi y11.Num), .p (pi y11.Den)])]⟩) ?_
        refine lok_c ((y8 != (0 : Int)) || (y12 != (0 : Int))) ?_ ?_
        · intro b_15
          replace H0 := cpos H0 b_15
          refine lok_rt E0 (⟨110, mkS [(2, .x (.one (.p (.val (.bool false)))))], mkH []⟩) ?_
          refine lok_ret ?_
          obtain rfl := Option.some.inj H0
          try simp only [thenL, blockL]
          exact fin_au _ (.inr rfl) [] (⟨110, mkS [(2, .x (.one (.p (.val (.bool false)))))], mkH []⟩) rfl rfl imp_au
        · intro b_15
          replace H0 := cneg H0 b_15
          refine lok_skip ?_
          try simp only [thenL, blockL, ↓reduceIte, reduceCtorEq]
          refine lok_seq ?_
          refine lok_rt E0 (⟨110, mkS [(7, .x (.one (.ptr 107 0))), (9, .x (.one (.ptr 109 0))), (11, .x (.one (.ptr 111 0))), (80, .x (.one (.p (.val (.bool (y10 != (0 : Int)))))))], mkH [(107, .var [.p (pi y7.Num), .p (pi y7.Den)]), (109, .var [.p (pi y9.Num), .p (pi y9.Den)]), (111, .var [.p (pi y11.Num), .p (pi y11.Den)])]⟩) ?_
          refine lok_c (y10 != (0 : Int)) ?_ ?_
          · intro b_14
            replace H0 := cpos H0 b_14
            replace H0 := req_some H0
            obtain ⟨q_8, H0⟩ := H0
            refine lok_rt (Env.of E0 [⟨some 85, 10, [], [], [.one (.p (.val (.bool ((law32_sane).getD default))))], [], (law32_sane).isSome = true, fun h => ok_law32_sane _ (isSome_get h), []⟩]) (⟨110, mkS [(2, .x (.one (.p (.val (.bool (((y11.Num == y7.Num) && (y11.Den == y7.Den)) && ((law32_sane).getD default)))))))], mkH []⟩) ?_
            refine lok_ret ?_
            obtain rfl := Option.some.inj H0
            try simp only [thenL, blockL]
            exact fin_au _ (.inr rfl) [] (⟨110, mkS [(2, .x (.one (.p (.val (.bool (((y11.Num == y7.Num) && (y11.Den == y7.Den)) && ((law32_sane).getD default)))))))], mkH []⟩) rfl rfl imp_au
          · intro b_14
            replace H0 := cneg H0 b_14
            refine lok_skip ?_
            try simp only [thenL, blockL, ↓reduceIte, reduceCtorEq]
            replace H0 := bind_some H0
            obtain ⟨y13, h_9, H0⟩ := H0
            replace H0 := req_some H0
            obtain ⟨⟨q_10, q_11, q_12, q_13⟩, H0⟩ := H0
            refine lok_rt (Env.of E0 [⟨some 89, 22, [.agg [.p (pi y11.Num), .p (pi y11.Den)], .agg [.p (pi y9.Num), .p (pi y9.Den)]], [], [.one (.p (.val (.bool y13)))], [], True, fun _ => ok_ref01_Less y11 y9 y13 h_9, []⟩,
      ⟨some 93, 22, [.agg [.p (pi y11.Num), .p (pi y11.Den)], .agg [.p (pi y7.Num), .p (pi y7.Den)]], [], [.one (.p (.val (.bool ((ref01_Less y11 y7).getD default))))], [], (ref01_Less y11 y7).isSome = true, fun h => ok_ref01_Less y11 y7 _ (isSome_get h), []⟩,
      ⟨some 99, 22, [.agg [.p (pi y9.Num), .p (pi y9.Den)], .agg [.p (pi y11.Num), .p (pi y11.Den)]], [], [.one (.p (.val (.bool ((ref01_Less y9 y11).getD default))))], [], (ref01_Less y9 y11).isSome = true, fun h => ok_ref01_Less y9 y11 _ (isSome_get h), []⟩,
      ⟨some 103, 22, [.agg [.p (pi y7.Num), .p (pi y7.Den)], .agg [.p (pi y11.Num), .p (pi y11.Den)]], [], [.one (.p (.val (.bool ((ref01_Less y7 y11).getD default))))], [], (ref01_Less y7 y11).isSome = true, fun h => ok_ref01_Less y7 y11 _ (isSome_get h), []⟩,
      ⟨some 108, 10, [], [], [.one (.p (.val (.bool ((law32_sane).getD default))))], [], (law32_sane).isSome = true, fun h => ok_law32_sane _ (isSome_get h), []⟩]) (⟨110, mkS [(2, .x (.one (.p (.val (.bool (((!(y13 && ((ref01_Less y11 y7).getD default))) && (!(((ref01_Less y9 y11).getD default) && ((ref01_Less y7 y11).getD default)))) && ((law32_sane).getD default)))))))], mkH []⟩) ?_
            refine lok_ret ?_
            obtain rfl := Option.some.inj H0
            try simp only [thenL, blockL]
            exact fin_au _ (.inr rfl) [] (⟨110, mkS [(2, .x (.one (.p (.val (.bool (((!(y13 && ((ref01_Less y11 y7).getD default))) && (!(((ref01_Less y9 y11).getD default) && ((ref01_Less y7 y11).getD default)))) && ((law32_sane).getD default)))))))], mkH []⟩) rfl rfl imp_au
      case hxlaw32_DistributionSmooth_j1 =>
        refine lok_rt E0 (⟨110, mkS [(3, .x (.one (.ptr 103 0))), (4, .x (.one (.ptr 104 0))), (38, .x (.one (.p (pi (y5.Counts.length : Int))))), (39, .x (.one (.p (pi (0 : Int)))))], mkH [(103, .var [.p (.sl 1 (List.map encI y3.Counts))]), (104, .var [.p (.sl 1 (List.map encI y5.Counts))])]⟩) ?_
        refine lok_block ?_
        replace H0 := bind_some H0
        obtain ⟨v_16, hv_16, H0⟩ := H0
        refine lok_iter (fun x_ => ⟨110, mkS [(3, .x (.one (.ptr 103 0))), (4, .x (.one (.ptr 104 0))), (38, .x (.one (.p (pi (y5.Counts.length : Int))))), (39, .x (.one (.p (pi x_))))], mkH [(103, .var [.p (.sl 1 (List.map encI y3.Counts))]), (104, .var [.p (.sl 1 (List.map encI y5.Counts))])]⟩) hv_16 imp_au ?_
        · rintro v o_1 H1 k_1
          unfold law32_DistributionSmooth_l2 at H1
          try dsimp only at H1 ⊢
          refine lok_rt E0 (⟨110, mkS [(3, .x (.one (.ptr 103 0))), (4, .x (.one (.ptr 104 0))), (38, .x (.one (.p (pi (y5.Counts.length : Int))))), (39, .x (.one (.p (pi v)))), (40, .x (.one (.p (.val (.bool (decide (v < (y5.Counts.length : Int))))))))], mkH [(103, .var [.p (.sl 1 (List.map encI y3.Counts))]), (104, .var [.p (.sl 1 (List.map encI y5.Counts))])]⟩) ?_
          refine lok_seq ?_
          refine lok_c (decide (v < (y5.Counts.length : Int))) ?_ ?_
          · intro b_20
            replace H1 := cpos H1 b_20
            refine lok_skip ?_
            try simp only [thenL, blockL, ↓reduceIte, reduceCtorEq]
            refine lok_seq ?_
            refine lok_block ?_
            refine lok_rt E0 (⟨110, mkS [(3, .x (.one (.ptr 103 0))), (4, .x (.one (.ptr 104 0))), (6, .x (.one (.p (pi v)))), (38, .x (.one (.p (pi (y5.Counts.length : Int))))), (39, .x (.one (.p (pi v))))], mkH [(103, .var [.p (.sl 1 (List.map encI y3.Counts))]), (104, .var [.p (.sl 1 (List.map encI y5.Counts))])]⟩) ?_
            replace H1 := req_some H1
            obtain ⟨⟨q_18, q_19⟩, H1⟩ := H1
            refine lok_dt E0 11 (⟨110, mkS [(3, .x (.one (.ptr 103 0))), (4, .x (.one (.ptr 104 0))), (38, .x (.one (.p (pi (y5.Counts.length : Int))))), (39, .x (.one (.p (pi v)))), (53, .x (.one (.p (.val (.bool ((ix y5.Counts v) != (IntKind.i64.wrap ((ix y3.Counts v) + (1 : Int)))))))))], mkH [(103, .var [.p (.sl 1 (List.map encI y3.Counts))]), (104, .var [.p (.sl 1 (List.map encI y5.Counts))])]⟩) (by kernel_rfl) (by kernel_rfl) ?_
            refine lok_c ((ix y5.Counts v) != (IntKind.i64.wrap ((ix y3.Counts v) + (1 : Int)))) ?_ ?_
            · intro b_17
              replace H1 := cpos H1 b_17
              refine lok_rt E0 (⟨110, mkS [(2, .x (.one (.p (.val (.bool false)))))], mkH []⟩) ?_
              refine lok_ret ?_
              try simp only [thenL, blockL, ↓reduceIte, reduceCtorEq]
              have e_1 := k_1 _ (Option.some.inj H1).symm
              subst e_1
              try dsimp only at H0
              obtain rfl := Option.some.inj H0
              try simp only [thenL, blockL]
              exact fin_au _ (.inr rfl) [] (⟨110, mkS [(2, .x (.one (.p (.val (.bool false)))))], mkH []⟩) rfl rfl imp_au
            · intro b_17
              replace H1 := cneg H1 b_17
              refine lok_skip ?_
              try simp only [thenL, blockL, ↓reduceIte, reduceCtorEq]
              refine lok_rl E0 (⟨110, mkS [(3, .x (.one (.ptr 103 0))), (4, .x (.one (.ptr 104 0))), (38, .x (.one (.p (pi (y5.Counts.length : Int))))), (39, .x (.one (.p (pi (IntKind.i64.wrap (v + (1 : Int)))))))], mkH [(103, .var [.p (.sl 1 (List.map encI y3.Counts))]), (104, .var [.p (.sl 1 (List.map encI y5.Counts))])]⟩) ?_
              try simp only [thenL, blockL, ↓reduceIte, reduceCtorEq]
              exact ⟨(IntKind.i64.wrap (v + (1 : Int))), (Option.some.inj H1).symm, imp_au⟩
          · intro b_20
            replace H1 := cneg H1 b_20
            refine lok_exit ?_
            try simp only [thenL, blockL, ↓reduceIte, reduceCtorEq]
            have e_1 := k_1 _ (Option.some.inj H1).symm
            subst e_1
            try dsimp only at H0
            try simp only [thenL, blockL, ↓reduceIte, reduceCtorEq]
            exact ⟨(), H0, imp_au⟩
theorem ok_distribution_Make (scores : List Int) (most : Int) (r_ : api_Distribution × Int) (H0 : distribution_Make scores most = some r_) : CallOK Try.prog 17 [.one (.p (.sl 1 (List.map encI scores))), .one (.p (pi most))] [] [.agg [.p (.sl 1 (List.map encI r_.1.Counts))], .one (.p (pi r_.2))] [] := by
  refine callOK (n := 55) (rs := [.cell 4 26, .tmp 5]) (nb := 0) (V := []) Try.func17 rfl (by kernel_rfl) rfl rfl rfl rfl (Nat.le_of_ble_eq_true rfl) (by decide) ?_
  unfold distribution_Make at H0
  refine lok_rt E0 (⟨55, mkS [(0, .x (.one (.p (.sl 1 (List.map encI scores))))), (1, .x (.one (.p (pi most)))), (4, .x (.one (.ptr 104 0)))], mkH [(104, .var [.p .nil])]⟩) ?_
  refine lok_seq ?_
  refine lok_rt E0 (⟨55, mkS [(0, .x (.one (.p (.sl 1 (List.map encI scores))))), (1, .x (.one (.p (pi most)))), (4, .x (.one (.ptr 104 0))), (16, .x (.one (.p (.val (.bool ((decide (most < (0 : Int))) || (decide ((200 : Int) < most))))))))], mkH [(104, .var [.p .nil])]⟩) ?_
  refine lok_c ((decide (most < (0 : Int))) || (decide ((200 : Int) < most))) ?_ ?_
  · intro b_11
    replace H0 := cpos H0 b_11
    refine lok_rt E0 (⟨55, mkS [(4, .x (.one (.ptr 104 0))), (5, .x (.one (.p (pi (2 : Int)))))], mkH [(104, .var [.p .nil])]⟩) ?_
    refine lok_ret ?_
    obtain rfl := Option.some.inj H0
    try simp only [thenL, blockL]
    exact fin_au _ (.inr rfl) [] (⟨55, mkS [(4, .x (.one (.ptr 104 0))), (5, .x (.one (.p (pi (2 : Int)))))], mkH [(104, .var [.p (.sl 1 (List.map encI ([] : List Int)))])]⟩) rfl rfl imp_au
  · intro b_11
    replace H0 := cneg H0 b_11
    refine lok_skip ?_
    try simp only [thenL, blockL, ↓reduceIte, reduceCtorEq]
    refine lok_join (fun x_ : Unit => distribution_Make_j3 scores most = some r_) (fun x_ => ⟨55, mkS [(0, .x (.one (.p (.sl 1 (List.map encI scores))))), (1, .x (.one (.p (pi most)))), (4, .x (.one (.ptr 104 0)))], mkH [(104, .var [.p .nil])]⟩) ?hydistribution_Make_j3 ?hxdistribution_Make_j3
    case hydistribution_Make_j3 =>
      rintro _ H0
      try dsimp only at H0 ⊢
      unfold distribution_Make_j3 at H0
      refine lok_seq ?_
      refine lok_rt E0 (⟨55, mkS [(0, .x (.one (.p (.sl 1 (List.map encI scores))))), (1, .x (.one (.p (pi most)))), (4, .x (.one (.ptr 104 0))), (35, .x (.one (.p (.val (.bool (decide ((1048576 : Int) < (scores.length : Int))))))))], mkH [(104, .var [.p .nil])]⟩) ?_
      refine lok_c (decide ((1048576 : Int) < (scores.length : Int))) ?_ ?_
      · intro b_6
        replace H0 := cpos H0 b_6
        refine lok_rt E0 (⟨55, mkS [(4, .x (.one (.ptr 104 0))), (5, .x (.one (.p (pi (3 : Int)))))], mkH [(104, .var [.p .nil])]⟩) ?_
        refine lok_ret ?_
        obtain rfl := Option.some.inj H0
        try simp only [thenL, blockL]
        exact fin_au _ (.inr rfl) [] (⟨55, mkS [(4, .x (.one (.ptr 104 0))), (5, .x (.one (.p (pi (3 : Int)))))], mkH [(104, .var [.p (.sl 1 (List.map encI ([] : List Int)))])]⟩) rfl rfl imp_au
      · intro b_6
        replace H0 := cneg H0 b_6
        refine lok_skip ?_
        try simp only [thenL, blockL, ↓reduceIte, reduceCtorEq]
        replace H0 := req_some H0
        obtain ⟨q_5, H0⟩ := H0
        refine lok_rt E0 (⟨55, mkS [(0, .x (.one (.p (.sl 1 (List.map encI scores))))), (4, .x (.one (.ptr 104 0))), (8, .x (.one (.vw 139)))], mkH [(104, .var [.p .nil]), (139, .arr 1 (List.map encI (rep (IntKind.i64.wrap (most + (1 : Int))) (0 : Int))))]⟩) ?_
        refine lok_join (fun x_ : (List Int) => distribution_Make_j1 x_ = some r_) (fun x_ => ⟨55, mkS [(4, .x (.one (.ptr 104 0))), (8, .x (.one (.vw 139)))], mkH [(104, .var [.p .nil]), (139, .arr 1 (List.map encI x_))]⟩) ?hydistribution_Make_j1 ?hxdistribution_Make_j1
        case hydistribution_Make_j1 =>
          rintro w H0
          try dsimp only at H0 ⊢
          unfold distribution_Make_j1 at H0
          refine lok_rt E0 (⟨55, mkS [(4, .x (.one (.ptr 104 0))), (5, .x (.one (.p (pi (0 : Int)))))], mkH [(104, .var [.vw 139]), (139, .arr 1 (List.map encI w))]⟩) ?_
          refine lok_ret ?_
          obtain rfl := Option.some.inj H0
          try simp only [thenL, blockL]
          exact fin_au _ (.inr rfl) [] (⟨55, mkS [(4, .x (.one (.ptr 104 0))), (5, .x (.one (.p (pi (0 : Int)))))], mkH [(104, .var [.p (.sl 1 (List.map encI w))])]⟩) rfl rfl (Imp.trans (imp_frz 139 1 (List.map encI w)) imp_au)
        case hxdistribution_Make_j1 =>
          refine lok_rt E0 (⟨55, mkS [(4, .x (.one (.ptr 104 0))), (8, .x (.one (.vw 139))), (40, .x (.one (.p (.sl 1 (List.map encI scores))))), (41, .x (.one (.p (pi (scores.length : Int))))), (42, .x (.one (.p (pi (0 : Int)))))], mkH [(104, .var [.p .nil]), (139, .arr 1 (List.map encI (rep (IntKind.i64.wrap (most + (1 : Int))) (0 : Int))))]⟩) ?_
          refine lok_block ?_
          replace H0 := bind_some H0
          obtain ⟨v_0, hv_0, H0⟩ := H0
          refine lok_iter (fun x_ => ⟨55, mkS [(4, .x (.one (.ptr 104 0))), (8, .x (.one (.vw 139))), (40, .x (.one (.p (.sl 1 (List.map encI scores))))), (41, .x (.one (.p (pi (scores.length : Int))))), (42, .x (.one (.p (pi x_.1))))], mkH [(104, .var [.p .nil]), (139, .arr 1 (List.map encI x_.2))]⟩) hv_0 imp_au ?_
          · rintro ⟨v, w1⟩ o_1 H1 k_1
            unfold distribution_Make_l2 at H1
            try dsimp only at H1 ⊢
            refine lok_rt E0 (⟨55, mkS [(4, .x (.one (.ptr 104 0))), (8, .x (.one (.vw 139))), (40, .x (.one (.p (.sl 1 (List.map encI scores))))), (41, .x (.one (.p (pi (scores.length : Int))))), (42, .x (.one (.p (pi v)))), (43, .x (.one (.p (.val (.bool (decide (v < (scores.length : Int))))))))], mkH [(104, .var [.p .nil]), (139, .arr 1 (List.map encI w1))]⟩) ?_
            refine lok_seq ?_
            refine lok_c (decide (v < (scores.length : Int))) ?_ ?_
            · intro b_4
              replace H1 := cpos H1 b_4
              refine lok_skip ?_
              try simp only [thenL, blockL, ↓reduceIte, reduceCtorEq]
              refine lok_seq ?_
              refine lok_block ?_
              replace H1 := req_some H1
              obtain ⟨q_3, H1⟩ := H1
              refine lok_rt E0 (⟨55, mkS [(4, .x (.one (.ptr 104 0))), (8, .x (.one (.vw 139))), (10, .x (.one (.p (pi (ix scores v))))), (40, .x (.one (.p (.sl 1 (List.map encI scores))))), (41, .x (.one (.p (pi (scores.length : Int))))), (42, .x (.one (.p (pi v))))], mkH [(104, .var [.p .nil]), (139, .arr 1 (List.map encI w1))]⟩) ?_
              replace H1 := req_some H1
              obtain ⟨q_2, H1⟩ := H1
              replace H1 := bindV_some H1
              obtain ⟨w3, a_1, H1⟩ := H1
              refine lok_rlg E0 a_1 (⟨55, mkS [(4, .x (.one (.ptr 104 0))), (8, .x (.one (.vw 139))), (40, .x (.one (.p (.sl 1 (List.map encI scores))))), (41, .x (.one (.p (pi (scores.length : Int))))), (42, .x (.one (.p (pi v))))], mkH [(104, .var [.p .nil]), (139, .arr 1 (List.map encI w3))]⟩) ?_
              try simp only [thenL, blockL, ↓reduceIte, reduceCtorEq]
              refine lok_rl E0 (⟨55, mkS [(4, .x (.one (.ptr 104 0))), (8, .x (.one (.vw 139))), (40, .x (.one (.p (.sl 1 (List.map encI scores))))), (41, .x (.one (.p (pi (scores.length : Int))))), (42, .x (.one (.p (pi (IntKind.i64.wrap (v + (1 : Int)))))))], mkH [(104, .var [.p .nil]), (139, .arr 1 (List.map encI w3))]⟩) ?_
              try simp only [thenL, blockL, ↓reduceIte, reduceCtorEq]
              exact ⟨((IntKind.i64.wrap (v + (1 : Int))), w3), (Option.some.inj H1).symm, imp_au⟩
            · intro b_4
              replace H1 := cneg H1 b_4
              refine lok_exit ?_
              try simp only [thenL, blockL, ↓reduceIte, reduceCtorEq]
              have e_1 := k_1 _ (Option.some.inj H1).symm
              subst e_1
              try dsimp only at H0
              try simp only [thenL, blockL, ↓reduceIte, reduceCtorEq]
              exact ⟨w1, H0, imp_au⟩
    case hxdistribution_Make_j3 =>
      refine lok_rt E0 (⟨55, mkS [(0, .x (.one (.p (.sl 1 (List.map encI scores))))), (1, .x (.one (.p (pi most)))), (4, .x (.one (.ptr 104 0))), (18, .x (.one (.p (.sl 1 (List.map encI scores))))), (19, .x (.one (.p (pi (scores.length : Int))))), (20, .x (.one (.p (pi (0 : Int)))))], mkH [(104, .var [.p .nil])]⟩) ?_
      refine lok_block ?_
      replace H0 := bind_some H0
      obtain ⟨v_7, hv_7, H0⟩ := H0
      refine lok_iter (fun x_ => ⟨55, mkS [(0, .x (.one (.p (.sl 1 (List.map encI scores))))), (1, .x (.one (.p (pi most)))), (4, .x (.one (.ptr 104 0))), (18, .x (.one (.p (.sl 1 (List.map encI scores))))), (19, .x (.one (.p (pi (scores.length : Int))))), (20, .x (.one (.p (pi x_))))], mkH [(104, .var [.p .nil])]⟩) hv_7 imp_au ?_
      · rintro v1 o_1 H1 k_1
        unfold distribution_Make_l4 at H1
        try dsimp only at H1 ⊢
        refine lok_rt E0 (⟨55, mkS [(0, .x (.one (.p (.sl 1 (List.map encI scores))))), (1, .x (.one (.p (pi most)))), (4, .x (.one (.ptr 104 0))), (18, .x (.one (.p (.sl 1 (List.map encI scores))))), (19, .x (.one (.p (pi (scores.length : Int))))), (20, .x (.one (.p (pi v1)))), (21, .x (.one (.p (.val (.bool (decide (v1 < (scores.length : Int))))))))], mkH [(104, .var [.p .nil])]⟩) ?_
        refine lok_seq ?_
        refine lok_c (decide (v1 < (scores.length : Int))) ?_ ?_
        · intro b_10
          replace H1 := cpos H1 b_10
          refine lok_skip ?_
          try simp only [thenL, blockL, ↓reduceIte, reduceCtorEq]
          refine lok_seq ?_
          refine lok_block ?_
          replace H1 := req_some H1
          obtain ⟨q_9, H1⟩ := H1
          refine lok_rt E0 (⟨55, mkS [(0, .x (.one (.p (.sl 1 (List.map encI scores))))), (1, .x (.one (.p (pi most)))), (4, .x (.one (.ptr 104 0))), (7, .x (.one (.p (pi (ix scores v1))))), (18, .x (.one (.p (.sl 1 (List.map encI scores))))), (19, .x (.one (.p (pi (scores.length : Int))))), (20, .x (.one (.p (pi v1))))], mkH [(104, .var [.p .nil])]⟩) ?_
          refine lok_rt E0 (⟨55, mkS [(0, .x (.one (.p (.sl 1 (List.map encI scores))))), (1, .x (.one (.p (pi most)))), (4, .x (.one (.ptr 104 0))), (18, .x (.one (.p (.sl 1 (List.map encI scores))))), (19, .x (.one (.p (pi (scores.length : Int))))), (20, .x (.one (.p (pi v1)))), (30, .x (.one (.p (.val (.bool ((decide ((ix scores v1) < (0 : Int))) || (decide (most < (ix scores v1)))))))))], mkH [(104, .var [.p .nil])]⟩) ?_
          refine lok_c ((decide ((ix scores v1) < (0 : Int))) || (decide (most < (ix scores v1)))) ?_ ?_
          · intro b_8
            replace H1 := cpos H1 b_8
            refine lok_rt E0 (⟨55, mkS [(4, .x (.one (.ptr 104 0))), (5, .x (.one (.p (pi (2 : Int)))))], mkH [(104, .var [.p .nil])]⟩) ?_
            refine lok_ret ?_
            try simp only [thenL, blockL, ↓reduceIte, reduceCtorEq]
            have e_1 := k_1 _ (Option.some.inj H1).symm
            subst e_1
            try dsimp only at H0
            obtain rfl := Option.some.inj H0
            try simp only [thenL, blockL]
            exact fin_au _ (.inr rfl) [] (⟨55, mkS [(4, .x (.one (.ptr 104 0))), (5, .x (.one (.p (pi (2 : Int)))))], mkH [(104, .var [.p (.sl 1 (List.map encI ([] : List Int)))])]⟩) rfl rfl imp_au
          · intro b_8
            replace H1 := cneg H1 b_8
            refine lok_skip ?_
            try simp only [thenL, blockL, ↓reduceIte, reduceCtorEq]
            refine lok_rl E0 (⟨55, mkS [(0, .x (.one (.p (.sl 1 (List.map encI scores))))), (1, .x (.one (.p (pi most)))), (4, .x (.one (.ptr 104 0))), (18, .x (.one (.p (.sl 1 (List.map encI scores))))), (19, .x (.one (.p (pi (scores.length : Int))))), (20, .x (.one (.p (pi (IntKind.i64.wrap (v1 + (1 : Int)))))))], mkH [(104, .var [.p .nil])]⟩) ?_
            try simp only [thenL, blockL, ↓reduceIte, reduceCtorEq]
            exact ⟨(IntKind.i64.wrap (v1 + (1 : Int))), (Option.some.inj H1).symm, imp_au⟩
        · intro b_10
          replace H1 := cneg H1 b_10
          refine lok_exit ?_
          try simp only [thenL, blockL, ↓reduceIte, reduceCtorEq]
          have e_1 := k_1 _ (Option.some.inj H1).symm
          subst e_1
          try dsimp only at H0
          try simp only [thenL, blockL, ↓reduceIte, reduceCtorEq]
          exact ⟨(), H0, imp_au⟩
theorem ok_ref32_Same (a : api_Distribution) (b : api_Distribution) (r_ : Bool) (H0 : ref32_Same a b = some r_) : CallOK Try.prog 18 [.agg [.p (.sl 1 (List.map encI a.Counts))], .agg [.p (.sl 1 (List.map encI b.Counts))]] [] [.one (.p (.val (.bool r_)))] [] := by
  refine callOK (n := 31) (rs := [.tmp 4]) (nb := 0) (V := []) Try.func18 rfl (by kernel_rfl) rfl rfl rfl rfl (Nat.le_of_ble_eq_true rfl) (by decide) ?_
  unfold ref32_Same at H0
  refine lok_rt E0 (⟨31, mkS [(2, .x (.one (.ptr 102 0))), (3, .x (.one (.ptr 103 0)))], mkH [(102, .var [.p (.sl 1 (List.map encI a.Counts))]), (103, .var [.p (.sl 1 (List.map encI b.Counts))])]⟩) ?_
  refine lok_seq ?_
  refine lok_rt E0 (⟨31, mkS [(2, .x (.one (.ptr 102 0))), (3, .x (.one (.ptr 103 0))), (12, .x (.one (.p (.val (.bool ((a.Counts.length : Int) != (b.Counts.length : Int)))))))], mkH [(102, .var [.p (.sl 1 (List.map encI a.Counts))]), (103, .var [.p (.sl 1 (List.map encI b.Counts))])]⟩) ?_
  refine lok_c ((a.Counts.length : Int) != (b.Counts.length : Int)) ?_ ?_
  · intro b_5
    replace H0 := cpos H0 b_5
    refine lok_rt E0 (⟨31, mkS [(4, .x (.one (.p (.val (.bool false)))))], mkH []⟩) ?_
    refine lok_ret ?_
    obtain rfl := Option.some.inj H0
    try simp only [thenL, blockL]
    exact fin_au _ (.inr rfl) [] (⟨31, mkS [(4, .x (.one (.p (.val (.bool false)))))], mkH []⟩) rfl rfl imp_au
  · intro b_5
    replace H0 := cneg H0 b_5
    refine lok_skip ?_
    try simp only [thenL, blockL, ↓reduceIte, reduceCtorEq]
    refine lok_join (fun x_ : Unit => ref32_Same_j1 = some r_) (fun x_ => ⟨31, mkS [], mkH []⟩) ?hyref32_Same_j1 ?hxref32_Same_j1
    case hyref32_Same_j1 =>
      rintro _ H0
      try dsimp only at H0 ⊢
      unfold ref32_Same_j1 at H0
      refine lok_rt E0 (⟨31, mkS [(4, .x (.one (.p (.val (.bool true)))))], mkH []⟩) ?_
      refine lok_ret ?_
      obtain rfl := Option.some.inj H0
      try simp only [thenL, blockL]
      exact fin_au _ (.inr rfl) [] (⟨31, mkS [(4, .x (.one (.p (.val (.bool true)))))], mkH []⟩) rfl rfl imp_au
    case hxref32_Same_j1 =>
      refine lok_rt E0 (⟨31, mkS [(2, .x (.one (.ptr 102 0))), (3, .x (.one (.ptr 103 0))), (5, .x (.one (.p (pi (0 : Int)))))], mkH [(102, .var [.p (.sl 1 (List.map encI a.Counts))]), (103, .var [.p (.sl 1 (List.map encI b.Counts))])]⟩) ?_
      refine lok_block ?_
      replace H0 := bind_some H0
      obtain ⟨v_0, hv_0, H0⟩ := H0
      refine lok_iter (fun x_ => ⟨31, mkS [(2, .x (.one (.ptr 102 0))), (3, .x (.one (.ptr 103 0))), (5, .x (.one (.p (pi x_))))], mkH [(102, .var [.p (.sl 1 (List.map encI a.Counts))]), (103, .var [.p (.sl 1 (List.map encI b.Counts))])]⟩) hv_0 imp_au ?_
      · rintro i o_1 H1 k_1
        unfold ref32_Same_l2 at H1
        try dsimp only at H1 ⊢
        refine lok_seq ?_
        refine lok_rt E0 (⟨31, mkS [(2, .x (.one (.ptr 102 0))), (3, .x (.one (.ptr 103 0))), (5, .x (.one (.p (pi i)))), (17, .x (.one (.p (.val (.bool (decide (i < (a.Counts.length : Int))))))))], mkH [(102, .var [.p (.sl 1 (List.map encI a.Counts))]), (103, .var [.p (.sl 1 (List.map encI b.Counts))])]⟩) ?_
        refine lok_c (decide (i < (a.Counts.length : Int))) ?_ ?_
        · intro b_4
          replace H1 := cpos H1 b_4
          refine lok_skip ?_
          try simp only [thenL, blockL, ↓reduceIte, reduceCtorEq]
          refine lok_seq ?_
          refine lok_block ?_
          replace H1 := req_some H1
          obtain ⟨⟨q_2, q_3⟩, H1⟩ := H1
          refine lok_dt E0 10 (⟨31, mkS [(2, .x (.one (.ptr 102 0))), (3, .x (.one (.ptr 103 0))), (5, .x (.one (.p (pi i)))), (30, .x (.one (.p (.val (.bool ((ix a.Counts i) != (ix b.Counts i)))))))], mkH [(102, .var [.p (.sl 1 (List.map encI a.Counts))]), (103, .var [.p (.sl 1 (List.map encI b.Counts))])]⟩) (by kernel_rfl) (by kernel_rfl) ?_
          refine lok_c ((ix a.Counts i) != (ix b.Counts i)) ?_ ?_
          · intro b_1
            replace H1 := cpos H1 b_1
            refine lok_rt E0 (⟨31, mkS [(4, .x (.one (.p (.val (.bool false)))))], mkH []⟩) ?_
            refine lok_ret ?_
            try simp only [thenL, blockL, ↓reduceIte, reduceCtorEq]
            have e_1 := k_1 _ (Option.some.inj H1).symm
            subst e_1
            try dsimp only at H0
            obtain rfl := Option.some.inj H0
            try simp only [thenL, blockL]
            exact fin_au _ (.inr rfl) [] (⟨31, mkS [(4, .x (.one (.p (.val (.bool false)))))], mkH []⟩) rfl rfl imp_au
          · intro b_1
            replace H1 := cneg H1 b_1
            refine lok_skip ?_
            try simp only [thenL, blockL, ↓reduceIte, reduceCtorEq]
            refine lok_rl E0 (⟨31, mkS [(2, .x (.one (.ptr 102 0))), (3, .x (.one (.ptr 103 0))), (5, .x (.one (.p (pi (IntKind.i64.wrap (i + (1 : Int)))))))], mkH [(102, .var [.p (.sl 1 (List.map encI a.Counts))]), (103, .var [.p (.sl 1 (List.map encI b.Counts))])]⟩) ?_
            try simp only [thenL, blockL, ↓reduceIte, reduceCtorEq]
            exact ⟨(IntKind.i64.wrap (i + (1 : Int))), (Option.some.inj H1).symm, imp_au⟩
        · intro b_4
          replace H1 := cneg H1 b_4
          refine lok_exit ?_
          try simp only [thenL, blockL, ↓reduceIte, reduceCtorEq]
          have e_1 := k_1 _ (Option.some.inj H1).symm
          subst e_1
          try dsimp only at H0
          try simp only [thenL, blockL, ↓reduceIte, reduceCtorEq]
          exact ⟨(), H0, imp_au⟩
theorem ok_law32_DistributionOrder (l : List Int) (r_ : Bool) (H0 : law32_DistributionOrder l = some r_) : CallOK Try.prog 4 [.one (.p (.sl 1 (List.map encK_u8 l)))] [] [.one (.p (.val (.bool r_)))] [] := by
  refine callOK (n := 118) (rs := [.tmp 2]) (nb := 0) (V := []) Try.func4 rfl (by kernel_rfl) rfl rfl rfl rfl (Nat.le_of_ble_eq_true rfl) (by decide) ?_
  unfold law32_DistributionOrder at H0
  refine lok_rt E0 (⟨118, mkS [(0, .x (.one (.p (.sl 1 (List.map encK_u8 l)))))], mkH []⟩) ?_
  refine lok_seq ?_
  refine lok_rt E0 (⟨118, mkS [(0, .x (.one (.p (.sl 1 (List.map encK_u8 l))))), (17, .x (.one (.p (.val (.bool (decide ((60 : Int) < (l.length : Int))))))))], mkH []⟩) ?_
  refine lok_c (decide ((60 : Int) < (l.length : Int))) ?_ ?_
  · intro b_20
    replace H0 := cpos H0 b_20
    replace H0 := bind_some H0
    obtain ⟨y, h_0, H0⟩ := H0
    refine lok_rt (Env.of E0 [⟨some 18, 10, [], [], [.one (.p (.val (.bool y)))], [], True, fun _ => ok_law32_sane y h_0, []⟩]) (⟨118, mkS [(2, .x (.one (.p (.val (.bool y)))))], mkH []⟩) ?_
    refine lok_ret ?_
    obtain rfl := Option.some.inj H0
    try simp only [thenL, blockL]
    exact fin_au _ (.inr rfl) [] (⟨118, mkS [(2, .x (.one (.p (.val (.bool y)))))], mkH []⟩) rfl rfl imp_au
  · intro b_20
    replace H0 := cneg H0 b_20
    refine lok_skip ?_
    try simp only [thenL, blockL, ↓reduceIte, reduceCtorEq]
    refine lok_rt E0 (⟨118, mkS [(0, .x (.one (.p (.sl 1 (List.map encK_u8 l))))), (3, .x (.one (.vw 103))), (4, .x (.one (.vw 104)))], mkH [(103, .arr 1 (List.map encI ([] : List Int))), (104, .arr 1 (List.map encI ([] : List Int)))]⟩) ?_
    refine lok_rt E0 (⟨118, mkS [(0, .x (.one (.p (.sl 1 (List.map encK_u8 l))))), (3, .x (.one (.vw 103))), (4, .x (.one (.vw 104))), (5, .x (.one (.p (pi (0 : Int)))))], mkH [(103, .arr 1 (List.map encI ([] : List Int))), (104, .arr 1 (List.map encI ([] : List Int)))]⟩) ?_
    refine lok_join (fun x_ : Int × (List Int) × (List Int) => law32_DistributionOrder_j1 l x_.1 x_.2.1 x_.2.2 = some r_) (fun x_ => ⟨118, mkS [(0, .x (.one (.p (.sl 1 (List.map encK_u8 l))))), (3, .x (.one (.vw 103))), (4, .x (.one (.vw 104))), (5, .x (.one (.p (pi x_.1))))], mkH [(103, .arr 1 (List.map encI x_.2.1)), (104, .arr 1 (List.map encI x_.2.2))]⟩) ?hylaw32_DistributionOrder_j1 ?hxlaw32_DistributionOrder_j1
    case hylaw32_DistributionOrder_j1 =>
      rintro ⟨sum, x, y1⟩ H0
      try dsimp only at H0 ⊢
      unfold law32_DistributionOrder_j1 at H0
      refine lok_imp (st' := ⟨118, mkS [(0, .x (.one (.p (.sl 1 (List.map encK_u8 l))))), (3, .x (.one (.p (.sl 1 (List.map encI x))))), (4, .x (.one (.vw 104))), (5, .x (.one (.p (pi sum))))], mkH [(104, .arr 1 (List.map encI y1))]⟩) (Imp.trans (imp_frz 103 1 (List.map encI x)) imp_au) ?_
      replace H0 := bind_some H0
      obtain ⟨⟨y2, y3⟩, h_1, H0⟩ := H0
      try dsimp only at H0
      refine lok_rt (Env.of E0 [⟨some 57, 17, [.one (.p (.sl 1 (List.map encI x))), .one (.p (pi (39 : Int)))], [], [.agg [.p (.sl 1 (List.map encI y2.Counts))], .one (.p (pi y3))], [], True, fun _ => ok_distribution_Make x (39 : Int) (y2, y3) h_1, []⟩]) (⟨118, mkS [(0, .x (.one (.p (.sl 1 (List.map encK_u8 l))))), (4, .x (.one (.vw 104))), (5, .x (.one (.p (pi sum)))), (7, .x (.one (.ptr 107 0))), (8, .x (.one (.p (pi y3))))], mkH [(104, .arr 1 (List.map encI y1)), (107, .var [.p (.sl 1 (List.map encI y2.Counts))])]⟩) ?_
      refine lok_imp (st' := ⟨118, mkS [(0, .x (.one (.p (.sl 1 (List.map encK_u8 l))))), (4, .x (.one (.p (.sl 1 (List.map encI y1))))), (5, .x (.one (.p (pi sum)))), (7, .x (.one (.ptr 107 0))), (8, .x (.one (.p (pi y3))))], mkH [(107, .var [.p (.sl 1 (List.map encI y2.Counts))])]⟩) (Imp.trans (imp_frz 104 1 (List.map encI y1)) imp_au) ?_
      replace H0 := bind_some H0
      obtain ⟨⟨y4, y5⟩, h_2, H0⟩ := H0
      try dsimp only at H0
      refine lok_rt (Env.of E0 [⟨some 62, 17, [.one (.p (.sl 1 (List.map encI y1))), .one (.p (pi (39 : Int)))], [], [.agg [.p (.sl 1 (List.map encI y4.Counts))], .one (.p (pi y5))], [], True, fun _ => ok_distribution_Make y1 (39 : Int) (y4, y5) h_2, []⟩]) (⟨118, mkS [(0, .x (.one (.p (.sl 1 (List.map encK_u8 l))))), (5, .x (.one (.p (pi sum)))), (7, .x (.one (.ptr 107 0))), (8, .x (.one (.p (pi y3)))), (9, .x (.one (.ptr 109 0))), (10, .x (.one (.p (pi y5))))], mkH [(107, .var [.p (.sl 1 (List.map encI y2.Counts))]), (109, .var [.p (.sl 1 (List.map encI y4.Counts))])]⟩) ?_
      refine lok_seq ?_
      replace H0 := req_some H0
      obtain ⟨⟨q_9, q_10⟩, H0⟩ := H0
      refine lok_rt (Env.of E0 [⟨some 74, 18, [.agg [.p (.sl 1 (List.map encI y2.Counts))], .agg [.p (.sl 1 (List.map encI y4.Counts))]], [], [.one (.p (.val (.bool ((ref32_Same y2 y4).getD default))))], [], (ref32_Same y2 y4).isSome = true, fun h => ok_ref32_Same y2 y4 _ (isSome_get h), []⟩,
      ⟨some 79, 15, [.agg [.p (.sl 1 (List.map encI y2.Counts))]], [], [.one (.p (pi ((distribution_Count y2).getD default)))], [], (distribution_Count y2).isSome = true, fun h => ok_distribution_Count y2 _ (isSome_get h), []⟩]) (⟨118, mkS [(0, .x (.one (.p (.sl 1 (List.map encK_u8 l))))), (5, .x (.one (.p (pi sum)))), (7, .x (.one (.ptr 107 0))), (83, .x (.one (.p (.val (.bool ((((y3 != (0 : Int)) || (y5 != (0 : Int))) || (!((ref32_Same y2 y4).getD default))) || (((distribution_Count y2).getD default) != (l.length : Int))))))))], mkH [(107, .var [.p (.sl 1 (List.map encI y2.Counts))])]⟩) ?_
      refine lok_c ((((y3 != (0 : Int)) || (y5 != (0 : Int))) || (!((ref32_Same y2 y4).getD default))) || (((distribution_Count y2).getD default) != (l.length : Int))) ?_ ?_
      · intro b_8
        replace H0 := cpos H0 b_8
        refine lok_rt E0 (⟨118, mkS [(2, .x (.one (.p (.val (.bool false)))))], mkH []⟩) ?_
        refine lok_ret ?_
        obtain rfl := Option.some.inj H0
        try simp only [thenL, blockL]
        exact fin_au _ (.inr rfl) [] (⟨118, mkS [(2, .x (.one (.p (.val (.bool false)))))], mkH []⟩) rfl rfl imp_au
      · intro b_8
        replace H0 := cneg H0 b_8
        refine lok_skip ?_
        try simp only [thenL, blockL, ↓reduceIte, reduceCtorEq]
        replace H0 := bind_some H0
        obtain ⟨⟨y6, y7⟩, h_3, H0⟩ := H0
        try dsimp only at H0
        refine lok_rt (Env.of E0 [⟨some 86, 19, [.agg [.p (.sl 1 (List.map encI y2.Counts))]], [], [.agg [.p (pi y6.Num), .p (pi y6.Den)], .one (.p (pi y7))], [], True, fun _ => ok_distribution_Mean y2 (y6, y7) h_3, []⟩]) (⟨118, mkS [(0, .x (.one (.p (.sl 1 (List.map encK_u8 l))))), (5, .x (.one (.p (pi sum)))), (11, .x (.one (.ptr 111 0))), (12, .x (.one (.p (pi y7))))], mkH [(111, .var [.p (pi y6.Num), .p (pi y6.Den)])]⟩) ?_
        refine lok_seq ?_
        refine lok_rt E0 (⟨118, mkS [(0, .x (.one (.p (.sl 1 (List.map encK_u8 l))))), (5, .x (.one (.p (pi sum)))), (11, .x (.one (.ptr 111 0))), (12, .x (.one (.p (pi y7)))), (91, .x (.one (.p (.val (.bool ((l.length : Int) == (0 : Int)))))))], mkH [(111, .var [.p (pi y6.Num), .p (pi y6.Den)])]⟩) ?_
        refine lok_c ((l.length : Int) == (0 : Int)) ?_ ?_
        · intro b_7
          replace H0 := cpos H0 b_7
          replace H0 := req_some H0
          obtain ⟨q_4, H0⟩ := H0
          refine lok_rt (Env.of E0 [⟨some 95, 10, [], [], [.one (.p (.val (.bool ((law32_sane).getD default))))], [], (law32_sane).isSome = true, fun h => ok_law32_sane _ (isSome_get h), []⟩]) (⟨118, mkS [(2, .x (.one (.p (.val (.bool ((y7 == (10 : Int)) && ((law32_sane).getD default)))))))], mkH []⟩) ?_
          refine lok_ret ?_
          obtain rfl := Option.some.inj H0
          try simp only [thenL, blockL]
          exact fin_au _ (.inr rfl) [] (⟨118, mkS [(2, .x (.one (.p (.val (.bool ((y7 == (10 : Int)) && ((law32_sane).getD default)))))))], mkH []⟩) rfl rfl imp_au
        · intro b_7
          replace H0 := cneg H0 b_7
          refine lok_skip ?_
          try simp only [thenL, blockL, ↓reduceIte, reduceCtorEq]
          replace H0 := bind_some H0
          obtain ⟨⟨y8, y9⟩, h_5, H0⟩ := H0
          try dsimp only at H0
          refine lok_rt (Env.of E0 [⟨some 101, 13, [.one (.p (pi sum)), .one (.p (pi (l.length : Int)))], [], [.agg [.p (pi y8.Num), .p (pi y8.Den)], .one (.p (pi y9))], [], True, fun _ => ok_ref01_New sum (l.length : Int) (y8, y9) h_5, []⟩]) (⟨118, mkS [(11, .x (.one (.ptr 111 0))), (12, .x (.one (.p (pi y7)))), (13, .x (.one (.ptr 113 0))), (14, .x (.one (.p (pi y9))))], mkH [(111, .var [.p (pi y6.Num), .p (pi y6.Den)]), (113, .var [.p (pi y8.Num), .p (pi y8.Den)])]⟩) ?_
          replace H0 := req_some H0
          obtain ⟨q_6, H0⟩ := H0
          refine lok_rt (Env.of E0 [⟨some 116, 10, [], [], [.one (.p (.val (.bool ((law32_sane).getD default))))], [], (law32_sane).isSome = true, fun h => ok_law32_sane _ (isSome_get h), []⟩]) (⟨118, mkS [(2, .x (.one (.p (.val (.bool ((((y7 == (0 : Int)) && (y9 == (0 : Int))) && ((y6.Num == y8.Num) && (y6.Den == y8.Den))) && ((law32_sane).getD default)))))))], mkH []⟩) ?_
          refine lok_ret ?_
          obtain rfl := Option.some.inj H0
          try simp only [thenL, blockL]
          exact fin_au _ (.inr rfl) [] (⟨118, mkS [(2, .x (.one (.p (.val (.bool ((((y7 == (0 : Int)) && (y9 == (0 : Int))) && ((y6.Num == y8.Num) && (y6.Den == y8.Den))) && ((law32_sane).getD default)))))))], mkH []⟩) rfl rfl imp_au
    case hxlaw32_DistributionOrder_j1 =>
      refine lok_rt E0 (⟨118, mkS [(0, .x (.one (.p (.sl 1 (List.map encK_u8 l))))), (3, .x (.one (.vw 103))), (4, .x (.one (.vw 104))), (5, .x (.one (.p (pi (0 : Int))))), (20, .x (.one (.p (pi (l.length : Int))))), (21, .x (.one (.p (pi (0 : Int)))))], mkH [(103, .arr 1 (List.map encI ([] : List Int))), (104, .arr 1 (List.map encI ([] : List Int)))]⟩) ?_
      refine lok_block ?_
      replace H0 := bind_some H0
      obtain ⟨v_11, hv_11, H0⟩ := H0
      refine lok_iter (fun x_ => ⟨118, mkS [(0, .x (.one (.p (.sl 1 (List.map encK_u8 l))))), (3, .x (.one (.vw 103))), (4, .x (.one (.vw 104))), (5, .x (.one (.p (pi x_.1)))), (20, .x (.one (.p (pi (l.length : Int))))), (21, .x (.one (.p (pi x_.2.1))))], mkH [(103, .arr 1 (List.map encI x_.2.2.1)), (104, .arr 1 (List.map encI x_.2.2.2))]⟩) hv_11 imp_au ?_
      · rintro ⟨sum1, v, x1, y10⟩ o_1 H1 k_1
        unfold law32_DistributionOrder_l2 at H1
        try dsimp only at H1 ⊢
        refine lok_rt E0 (⟨118, mkS [(0, .x (.one (.p (.sl 1 (List.map encK_u8 l))))), (3, .x (.one (.vw 103))), (4, .x (.one (.vw 104))), (5, .x (.one (.p (pi sum1)))), (20, .x (.one (.p (pi (l.length : Int))))), (21, .x (.one (.p (pi v)))), (22, .x (.one (.p (.val (.bool (decide (v < (l.length : Int))))))))], mkH [(103, .arr 1 (List.map encI x1)), (104, .arr 1 (List.map encI y10))]⟩) ?_
        refine lok_seq ?_
        refine lok_c (decide (v < (l.length : Int))) ?_ ?_
        · intro b_19
          replace H1 := cpos H1 b_19
          refine lok_skip ?_
          try simp only [thenL, blockL, ↓reduceIte, reduceCtorEq]
          refine lok_seq ?_
          refine lok_block ?_
          refine lok_rt E0 (⟨118, mkS [(0, .x (.one (.p (.sl 1 (List.map encK_u8 l))))), (3, .x (.one (.vw 103))), (4, .x (.one (.vw 104))), (5, .x (.one (.p (pi sum1)))), (6, .x (.one (.p (pi v)))), (20, .x (.one (.p (pi (l.length : Int))))), (21, .x (.one (.p (pi v))))], mkH [(103, .arr 1 (List.map encI x1)), (104, .arr 1 (List.map encI y10))]⟩) ?_
          replace H1 := req_some H1
          obtain ⟨⟨q_15, q_16, q_17, q_18⟩, H1⟩ := H1
          replace H1 := bindV_some H1
          obtain ⟨y12, a_12, H1⟩ := H1
          refine lok_etg E0 118 [⟨[(3, .x (.one (.vw 103)))], [], [(24, .x (.one (.vw 103)))], [], none⟩,
      ⟨[(0, .x (.one (.p (.sl 1 (List.map encK_u8 l)))))], [], [(25, .x (.one (.p (.sl 1 (List.map encK_u8 l)))))], [], none⟩,
      ⟨[(6, .x (.one (.p (pi v))))], [], [(26, .x (.one (.p (pi v))))], [], none⟩,
      ⟨[(25, .x (.one (.p (.sl 1 (List.map encK_u8 l))))), (26, .x (.one (.p (pi v))))], [], [(27, .x (.one (.ep [.val (.int .u8 (ix l v))])))], [], none⟩,
      ⟨[(27, .x (.one (.ep [.val (.int .u8 (ix l v))])))], [], [(28, .x (.one (.p (.val (.int .u8 (ix l v))))))], [], none⟩,
      ⟨[(28, .x (.one (.p (.val (.int .u8 (ix l v))))))], [], [(29, .x (.one (.p (.val (.int .u8 (Int.tmod (ix l v) (40 : Int)))))))], [], none⟩,
      ⟨[(29, .x (.one (.p (.val (.int .u8 (Int.tmod (ix l v) (40 : Int)))))))], [], [(30, .x (.one (.p (pi (IntKind.i64.wrap (Int.tmod (ix l v) (40 : Int)))))))], [], none⟩,
      ⟨[(30, .x (.one (.p (pi (IntKind.i64.wrap (Int.tmod (ix l v) (40 : Int)))))))], [], [(31, .x (.one (.fl 1 (List.map encI ([(IntKind.i64.wrap (Int.tmod (ix l v) (40 : Int)))])))))], [], none⟩,
      ⟨[(24, .x (.one (.vw 103))), (31, .x (.one (.fl 1 (List.map encI ([(IntKind.i64.wrap (Int.tmod (ix l v) (40 : Int)))]))))), (3, .x (.one (.vw 103)))], [(103, some (.arr 1 (List.map encI x1)))], [(32, .x (.one (.vw 103)))], [(103, some (.arr 1 (List.map encI (x1 ++ [(IntKind.i64.wrap (Int.tmod (ix l v) (40 : Int)))]))))], some 103⟩,
      ⟨[(4, .x (.one (.vw 104)))], [], [(33, .x (.one (.vw 104)))], [], none⟩,
      ⟨[(0, .x (.one (.p (.sl 1 (List.map encK_u8 l)))))], [], [(34, .x (.one (.p (.sl 1 (List.map encK_u8 l)))))], [], none⟩,
      ⟨[(0, .x (.one (.p (.sl 1 (List.map encK_u8 l)))))], [], [(35, .x (.one (.p (.sl 1 (List.map encK_u8 l)))))], [], none⟩,
      ⟨[(35, .x (.one (.p (.sl 1 (List.map encK_u8 l)))))], [], [(36, .x (.one (.p (pi (l.length : Int)))))], [], none⟩,
      ⟨[(36, .x (.one (.p (pi (l.length : Int)))))], [], [(37, .x (.one (.p (pi (IntKind.i64.wrap ((l.length : Int) - (1 : Int)))))))], [], none⟩,
      ⟨[(6, .x (.one (.p (pi v))))], [], [(38, .x (.one (.p (pi v))))], [], none⟩,
      ⟨[(37, .x (.one (.p (pi (IntKind.i64.wrap ((l.length : Int) - (1 : Int))))))), (38, .x (.one (.p (pi v))))], [], [(39, .x (.one (.p (pi (IntKind.i64.wrap ((IntKind.i64.wrap ((l.length : Int) - (1 : Int))) - v))))))], [], none⟩,
      ⟨[(34, .x (.one (.p (.sl 1 (List.map encK_u8 l))))), (39, .x (.one (.p (pi (IntKind.i64.wrap ((IntKind.i64.wrap ((l.length : Int) - (1 : Int))) - v))))))], [], [(40, .x (.one (.ep [.val (.int .u8 (ix l (IntKind.i64.wrap ((IntKind.i64.wrap ((l.length : Int) - (1 : Int))) - v))))])))], [], none⟩,
      ⟨[(40, .x (.one (.ep [.val (.int .u8 (ix l (IntKind.i64.wrap ((IntKind.i64.wrap ((l.length : Int) - (1 : Int))) - v))))])))], [], [(41, .x (.one (.p (.val (.int .u8 (ix l (IntKind.i64.wrap ((IntKind.i64.wrap ((l.length : Int) - (1 : Int))) - v))))))))], [], none⟩,
      ⟨[(41, .x (.one (.p (.val (.int .u8 (ix l (IntKind.i64.wrap ((IntKind.i64.wrap ((l.length : Int) - (1 : Int))) - v))))))))], [], [(42, .x (.one (.p (.val (.int .u8 (Int.tmod (ix l (IntKind.i64.wrap ((IntKind.i64.wrap ((l.length : Int) - (1 : Int))) - v))) (40 : Int)))))))], [], none⟩,
      ⟨[(42, .x (.one (.p (.val (.int .u8 (Int.tmod (ix l (IntKind.i64.wrap ((IntKind.i64.wrap ((l.length : Int) - (1 : Int))) - v))) (40 : Int)))))))], [], [(43, .x (.one (.p (pi (IntKind.i64.wrap (Int.tmod (ix l (IntKind.i64.wrap ((IntKind.i64.wrap ((l.length : Int) - (1 : Int))) - v))) (40 : Int)))))))], [], none⟩,
      ⟨[(43, .x (.one (.p (pi (IntKind.i64.wrap (Int.tmod (ix l (IntKind.i64.wrap ((IntKind.i64.wrap ((l.length : Int) - (1 : Int))) - v))) (40 : Int)))))))], [], [(44, .x (.one (.fl 1 (List.map encI ([(IntKind.i64.wrap (Int.tmod (ix l (IntKind.i64.wrap ((IntKind.i64.wrap ((l.length : Int) - (1 : Int))) - v))) (40 : Int)))])))))], [], none⟩] a_12 (⟨118, mkS [(0, .x (.one (.p (.sl 1 (List.map encK_u8 l))))), (3, .x (.one (.vw 103))), (4, .x (.one (.vw 104))), (5, .x (.one (.p (pi sum1)))), (6, .x (.one (.p (pi v)))), (20, .x (.one (.p (pi (l.length : Int))))), (21, .x (.one (.p (pi v))))], mkH [(103, .arr 1 (List.map encI (x1 ++ [(IntKind.i64.wrap (Int.tmod (ix l v) (40 : Int)))]))), (104, .arr 1 (List.map encI y12))]⟩) (by kernel_rfl) (by kernel_rfl) (by kernel_rfl) rfl rfl rfl ?_
          replace H1 := req_some H1
          obtain ⟨q_14, H1⟩ := H1
          replace H1 := bindV_some H1
          obtain ⟨sum3, a_13, H1⟩ := H1
          refine lok_rlg E0 a_13 (⟨118, mkS [(0, .x (.one (.p (.sl 1 (List.map encK_u8 l))))), (3, .x (.one (.vw 103))), (4, .x (.one (.vw 104))), (5, .x (.one (.p (pi sum3)))), (20, .x (.one (.p (pi (l.length : Int))))), (21, .x (.one (.p (pi v))))], mkH [(103, .arr 1 (List.map encI (x1 ++ [(IntKind.i64.wrap (Int.tmod (ix l v) (40 : Int)))]))), (104, .arr 1 (List.map encI y12))]⟩) ?_
          try simp only [thenL, blockL, ↓reduceIte, reduceCtorEq]
          refine lok_rl E0 (⟨118, mkS [(0, .x (.one (.p (.sl 1 (List.map encK_u8 l))))), (3, .x (.one (.vw 103))), (4, .x (.one (.vw 104))), (5, .x (.one (.p (pi sum3)))), (20, .x (.one (.p (pi (l.length : Int))))), (21, .x (.one (.p (pi (IntKind.i64.wrap (v + (1 : Int)))))))], mkH [(103, .arr 1 (List.map encI (x1 ++ [(IntKind.i64.wrap (Int.tmod (ix l v) (40 : Int)))]))), (104, .arr 1 (List.map encI y12))]⟩) ?_
          try simp only [thenL, blockL, ↓reduceIte, reduceCtorEq]
          exact ⟨(sum3, (IntKind.i64.wrap (v + (1 : Int))), (x1 ++ [(IntKind.i64.wrap (Int.tmod (ix l v) (40 : Int)))]), y12), (Option.some.inj H1).symm, imp_au⟩
        · intro b_19
          replace H1 := cneg H1 b_19
          refine lok_exit ?_
          try simp only [thenL, blockL, ↓reduceIte, reduceCtorEq]
          have e_1 := k_1 _ (Option.some.inj H1).symm
          subst e_1
          try dsimp only at H0
          try simp only [thenL, blockL, ↓reduceIte, reduceCtorEq]
          exact ⟨(sum1, x1, y10), H0, imp_au⟩
end Go.LS
