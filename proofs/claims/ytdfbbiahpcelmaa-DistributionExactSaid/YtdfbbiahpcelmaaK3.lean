/-
  The walks: the functions compute what the plain ones say. Condition: the plain function has a value.
-/
import Derived.Test.YtdfbbiahpcelmaaK2
import Derived.Test.YtdfbbiahpcelmaaD3
namespace Go.LS
open Go.Proofs
set_option linter.all false
set_option linter.unusedSimpArgs false
set_option linter.unusedVariables false
set_option maxRecDepth 20000

theorem ok_ref01_Plus (a : ref01_Wide) (b : ref01_Wide) (r_ : ref01_Wide) (H0 : ref01_Plus a b = some r_) : CallOK Try.prog 71 [.agg [.p (.val (.int .u64 a.Hi)), .p (.val (.int .u64 a.Lo))], .agg [.p (.val (.int .u64 b.Hi)), .p (.val (.int .u64 b.Lo))]] [] [.agg [.p (.val (.int .u64 r_.Hi)), .p (.val (.int .u64 r_.Lo))]] [] := by
  refine callOK (n := 29) (rs := [.cell 4 64]) (nb := 0) (V := []) Try.func71 rfl (by kernel_rfl) rfl rfl rfl rfl (Nat.le_of_ble_eq_true rfl) (by decide) ?_
  unfold ref01_Plus at H0
  refine lok_rt E0 (⟨29, mkS [(2, .x (.one (.ptr 102 0))), (3, .x (.one (.ptr 103 0))), (4, .x (.one (.ptr 104 0)))], mkH [(102, .var [.p (.val (.int .u64 a.Hi)), .p (.val (.int .u64 a.Lo))]), (103, .var [.p (.val (.int .u64 b.Hi)), .p (.val (.int .u64 b.Lo))]), (104, .var [.p (.val (.int .u64 (0 : Int))), .p (.val (.int .u64 (0 : Int)))])]⟩) ?_
  replace H0 := bind_some H0
  obtain ⟨⟨y, y1⟩, h_0, H0⟩ := H0
  try dsimp only at H0
  refine lok_rt (Env.of E0 [⟨some 14, 77, [.one (.p (.val (.int .u64 a.Lo))), .one (.p (.val (.int .u64 b.Lo))), .one (.p (.val (.int .u64 (0 : Int))))], [], [.one (.p (.val (.int .u64 y))), .one (.p (.val (.int .u64 y1)))], [], True, fun _ => ok_bits_Add64 a.Lo b.Lo (0 : Int) (y, y1) h_0, []⟩]) (⟨29, mkS [(2, .x (.one (.ptr 102 0))), (3, .x (.one (.ptr 103 0))), (4, .x (.one (.ptr 104 0))), (5, .x (.one (.p (.val (.int .u64 y))))), (6, .x (.one (.p (.val (.int .u64 y1)))))], mkH [(102, .var [.p (.val (.int .u64 a.Hi)), .p (.val (.int .u64 a.Lo))]), (103, .var [.p (.val (.int .u64 b.Hi)), .p (.val (.int .u64 b.Lo))]), (104, .var [.p (.val (.int .u64 (0 : Int))), .p (.val (.int .u64 (0 : Int)))])]⟩) ?_
  replace H0 := bind_some H0
  obtain ⟨⟨y2, y3⟩, h_1, H0⟩ := H0
  try dsimp only at H0
  refine lok_rt (Env.of E0 [⟨some 23, 77, [.one (.p (.val (.int .u64 a.Hi))), .one (.p (.val (.int .u64 b.Hi))), .one (.p (.val (.int .u64 y1)))], [], [.one (.p (.val (.int .u64 y2))), .one (.p (.val (.int .u64 y3)))], [], True, fun _ => ok_bits_Add64 a.Hi b.Hi y1 (y2, y3) h_1, []⟩]) (⟨29, mkS [(4, .x (.one (.ptr 104 0))), (5, .x (.one (.p (.val (.int .u64 y))))), (7, .x (.one (.p (.val (.int .u64 y2)))))], mkH [(104, .var [.p (.val (.int .u64 (0 : Int))), .p (.val (.int .u64 (0 : Int)))])]⟩) ?_
  refine lok_rt E0 (⟨29, mkS [(4, .x (.one (.ptr 104 0)))], mkH [(104, .var [.p (.val (.int .u64 y2)), .p (.val (.int .u64 y))])]⟩) ?_
  refine lok_ret ?_
  obtain rfl := Option.some.inj H0
  try simp only [thenL, blockL]
  exact fin_au _ (.inr rfl) [] (⟨29, mkS [(4, .x (.one (.ptr 104 0)))], mkH [(104, .var [.p (.val (.int .u64 y2)), .p (.val (.int .u64 y))])]⟩) rfl rfl imp_au
theorem ok_ref01_total (x : Bool) (a : ref01_Wide) (y : Bool) (b : ref01_Wide) (r_ : Bool × ref01_Wide) (H0 : ref01_total x a y b = some r_) : CallOK Try.prog 61 [.one (.p (.val (.bool x))), .agg [.p (.val (.int .u64 a.Hi)), .p (.val (.int .u64 a.Lo))], .one (.p (.val (.bool y))), .agg [.p (.val (.int .u64 b.Hi)), .p (.val (.int .u64 b.Lo))]] [] [.one (.p (.val (.bool r_.1))), .agg [.p (.val (.int .u64 r_.2.Hi)), .p (.val (.int .u64 r_.2.Lo))]] [] := by
  refine callOK (n := 29) (rs := [.tmp 8, .cell 9 64]) (nb := 0) (V := []) Try.func61 rfl (by kernel_rfl) rfl rfl rfl rfl (Nat.le_of_ble_eq_true rfl) (by decide) ?_
  unfold ref01_total at H0
  refine lok_rt E0 (⟨29, mkS [(0, .x (.one (.p (.val (.bool x))))), (2, .x (.one (.p (.val (.bool y))))), (5, .x (.one (.ptr 105 0))), (7, .x (.one (.ptr 107 0))), (9, .x (.one (.ptr 109 0)))], mkH [(105, .var [.p (.val (.int .u64 a.Hi)), .p (.val (.int .u64 a.Lo))]), (107, .var [.p (.val (.int .u64 b.Hi)), .p (.val (.int .u64 b.Lo))]), (109, .var [.p (.val (.int .u64 (0 : Int))), .p (.val (.int .u64 (0 : Int)))])]⟩) ?_
  refine lok_seq ?_
  refine lok_rt E0 (⟨29, mkS [(0, .x (.one (.p (.val (.bool x))))), (2, .x (.one (.p (.val (.bool y))))), (5, .x (.one (.ptr 105 0))), (7, .x (.one (.ptr 107 0))), (9, .x (.one (.ptr 109 0))), (12, .x (.one (.p (.val (.bool (x == y))))))], mkH [(105, .var [.p (.val (.int .u64 a.Hi)), .p (.val (.int .u64 a.Lo))]), (107, .var [.p (.val (.int .u64 b.Hi)), .p (.val (.int .u64 b.Lo))]), (109, .var [.p (.val (.int .u64 (0 : Int))), .p (.val (.int .u64 (0 : Int)))])]⟩) ?_
  refine lok_c (x == y) ?_ ?_
  · intro b_5
    replace H0 := cpos H0 b_5
    replace H0 := bind_some H0
    obtain ⟨y1, h_0, H0⟩ := H0
    refine lok_rt (Env.of E0 [⟨some 16, 71, [.agg [.p (.val (.int .u64 a.Hi)), .p (.val (.int .u64 a.Lo))], .agg [.p (.val (.int .u64 b.Hi)), .p (.val (.int .u64 b.Lo))]], [], [.agg [.p (.val (.int .u64 y1.Hi)), .p (.val (.int .u64 y1.Lo))]], [], True, fun _ => ok_ref01_Plus a b y1 h_0, []⟩]) (⟨29, mkS [(8, .x (.one (.p (.val (.bool x))))), (9, .x (.one (.ptr 109 0)))], mkH [(109, .var [.p (.val (.int .u64 y1.Hi)), .p (.val (.int .u64 y1.Lo))])]⟩) ?_
    refine lok_ret ?_
    obtain rfl := Option.some.inj H0
    try simp only [thenL, blockL]
    exact fin_au _ (.inr rfl) [] (⟨29, mkS [(8, .x (.one (.p (.val (.bool x))))), (9, .x (.one (.ptr 109 0)))], mkH [(109, .var [.p (.val (.int .u64 y1.Hi)), .p (.val (.int .u64 y1.Lo))])]⟩) rfl rfl imp_au
  · intro b_5
    replace H0 := cneg H0 b_5
    refine lok_skip ?_
    try simp only [thenL, blockL, ↓reduceIte, reduceCtorEq]
    refine lok_seq ?_
    replace H0 := bind_some H0
    obtain ⟨y2, h_1, H0⟩ := H0
    refine lok_rt (Env.of E0 [⟨some 19, 64, [.agg [.p (.val (.int .u64 a.Hi)), .p (.val (.int .u64 a.Lo))], .agg [.p (.val (.int .u64 b.Hi)), .p (.val (.int .u64 b.Lo))]], [], [.one (.p (pi y2))], [], True, fun _ => ok_ref01_Order a b y2 h_1, []⟩]) (⟨29, mkS [(0, .x (.one (.p (.val (.bool x))))), (2, .x (.one (.p (.val (.bool y))))), (5, .x (.one (.ptr 105 0))), (7, .x (.one (.ptr 107 0))), (9, .x (.one (.ptr 109 0))), (20, .x (.one (.p (.val (.bool (decide ((0 : Int) ≤ y2)))))))], mkH [(105, .var [.p (.val (.int .u64 a.Hi)), .p (.val (.int .u64 a.Lo))]), (107, .var [.p (.val (.int .u64 b.Hi)), .p (.val (.int .u64 b.Lo))]), (109, .var [.p (.val (.int .u64 (0 : Int))), .p (.val (.int .u64 (0 : Int)))])]⟩) ?_
    refine lok_c (decide ((0 : Int) ≤ y2)) ?_ ?_
    · intro b_4
      replace H0 := cpos H0 b_4
      replace H0 := bind_some H0
      obtain ⟨y3, h_2, H0⟩ := H0
      refine lok_rt (Env.of E0 [⟨some 24, 65, [.agg [.p (.val (.int .u64 a.Hi)), .p (.val (.int .u64 a.Lo))], .agg [.p (.val (.int .u64 b.Hi)), .p (.val (.int .u64 b.Lo))]], [], [.agg [.p (.val (.int .u64 y3.Hi)), .p (.val (.int .u64 y3.Lo))]], [], True, fun _ => ok_ref01_Minus a b y3 h_2, []⟩]) (⟨29, mkS [(8, .x (.one (.p (.val (.bool x))))), (9, .x (.one (.ptr 109 0)))], mkH [(109, .var [.p (.val (.int .u64 y3.Hi)), .p (.val (.int .u64 y3.Lo))])]⟩) ?_
      refine lok_ret ?_
      obtain rfl := Option.some.inj H0
      try simp only [thenL, blockL]
      exact fin_au _ (.inr rfl) [] (⟨29, mkS [(8, .x (.one (.p (.val (.bool x))))), (9, .x (.one (.ptr 109 0)))], mkH [(109, .var [.p (.val (.int .u64 y3.Hi)), .p (.val (.int .u64 y3.Lo))])]⟩) rfl rfl imp_au
    · intro b_4
      replace H0 := cneg H0 b_4
      refine lok_skip ?_
      try simp only [thenL, blockL, ↓reduceIte, reduceCtorEq]
      replace H0 := bind_some H0
      obtain ⟨y4, h_3, H0⟩ := H0
      refine lok_rt (Env.of E0 [⟨some 28, 65, [.agg [.p (.val (.int .u64 b.Hi)), .p (.val (.int .u64 b.Lo))], .agg [.p (.val (.int .u64 a.Hi)), .p (.val (.int .u64 a.Lo))]], [], [.agg [.p (.val (.int .u64 y4.Hi)), .p (.val (.int .u64 y4.Lo))]], [], True, fun _ => ok_ref01_Minus b a y4 h_3, []⟩]) (⟨29, mkS [(8, .x (.one (.p (.val (.bool y))))), (9, .x (.one (.ptr 109 0)))], mkH [(109, .var [.p (.val (.int .u64 y4.Hi)), .p (.val (.int .u64 y4.Lo))])]⟩) ?_
      refine lok_ret ?_
      obtain rfl := Option.some.inj H0
      try simp only [thenL, blockL]
      exact fin_au _ (.inr rfl) [] (⟨29, mkS [(8, .x (.one (.p (.val (.bool y))))), (9, .x (.one (.ptr 109 0)))], mkH [(109, .var [.p (.val (.int .u64 y4.Hi)), .p (.val (.int .u64 y4.Lo))])]⟩) rfl rfl imp_au
theorem ok_ref01_Product (a : Int) (b : Int) (r_ : ref01_Wide) (H0 : ref01_Product a b = some r_) : CallOK Try.prog 62 [.one (.p (.val (.int .u64 a))), .one (.p (.val (.int .u64 b)))] [] [.agg [.p (.val (.int .u64 r_.Hi)), .p (.val (.int .u64 r_.Lo))]] [] := by
  refine callOK (n := 16) (rs := [.cell 4 64]) (nb := 0) (V := []) Try.func62 rfl (by kernel_rfl) rfl rfl rfl rfl (Nat.le_of_ble_eq_true rfl) (by decide) ?_
  unfold ref01_Product at H0
  refine lok_rt E0 (⟨16, mkS [(0, .x (.one (.p (.val (.int .u64 a))))), (1, .x (.one (.p (.val (.int .u64 b))))), (4, .x (.one (.ptr 104 0)))], mkH [(104, .var [.p (.val (.int .u64 (0 : Int))), .p (.val (.int .u64 (0 : Int)))])]⟩) ?_
  replace H0 := bind_some H0
  obtain ⟨⟨y, y1⟩, h_0, H0⟩ := H0
  try dsimp only at H0
  refine lok_rt (Env.of E0 [⟨some 10, 72, [.one (.p (.val (.int .u64 a))), .one (.p (.val (.int .u64 b)))], [], [.one (.p (.val (.int .u64 y))), .one (.p (.val (.int .u64 y1)))], [], True, fun _ => ok_bits_Mul64 a b (y, y1) h_0, []⟩]) (⟨16, mkS [(4, .x (.one (.ptr 104 0))), (5, .x (.one (.p (.val (.int .u64 y))))), (6, .x (.one (.p (.val (.int .u64 y1)))))], mkH [(104, .var [.p (.val (.int .u64 (0 : Int))), .p (.val (.int .u64 (0 : Int)))])]⟩) ?_
  refine lok_rt E0 (⟨16, mkS [(4, .x (.one (.ptr 104 0)))], mkH [(104, .var [.p (.val (.int .u64 y)), .p (.val (.int .u64 y1))])]⟩) ?_
  refine lok_ret ?_
  obtain rfl := Option.some.inj H0
  try simp only [thenL, blockL]
  exact fin_au _ (.inr rfl) [] (⟨16, mkS [(4, .x (.one (.ptr 104 0)))], mkH [(104, .var [.p (.val (.int .u64 y)), .p (.val (.int .u64 y1))])]⟩) rfl rfl imp_au
set_option maxHeartbeats 4000000 in
theorem ok_ref01_Compare (a : api_Ratio) (b : api_Ratio) (r_ : Int) (H0 : ref01_Compare a b = some r_) : CallOK Try.prog 48 [.agg [.p (pi a.Num), .p (pi a.Den)], .agg [.p (pi b.Num), .p (pi b.Den)]] [] [.one (.p (pi r_))] [] := by
  refine callOK (n := 43) (rs := [.tmp 4]) (nb := 0) (V := []) Try.func48 rfl (by kernel_rfl) rfl rfl rfl rfl (Nat.le_of_ble_eq_true rfl) (by decide) ?_
  unfold ref01_Compare at H0
  refine lok_rt E0 (⟨43, mkS [(2, .x (.one (.ptr 102 0))), (3, .x (.one (.ptr 103 0)))], mkH [(102, .var [.p (pi a.Num), .p (pi a.Den)]), (103, .var [.p (pi b.Num), .p (pi b.Den)])]⟩) ?_
  refine lok_seq ?_
  replace H0 := bind_some H0
  obtain ⟨y, h_0, H0⟩ := H0
  replace H0 := req_some H0
  obtain ⟨q_11, H0⟩ := H0
  refine lok_rt (Env.of E0 [⟨some 8, 51, [.agg [.p (pi a.Num), .p (pi a.Den)]], [], [.one (.p (.val (.bool y)))], [], True, fun _ => ok_ref01_Valid a y h_0, []⟩,
      ⟨some 12, 51, [.agg [.p (pi b.Num), .p (pi b.Den)]], [], [.one (.p (.val (.bool ((ref01_Valid b).getD default))))], [], (ref01_Valid b).isSome = true, fun h => ok_ref01_Valid b _ (isSome_get h), []⟩]) (⟨43, mkS [(2, .x (.one (.ptr 102 0))), (3, .x (.one (.ptr 103 0))), (14, .x (.one (.p (.val (.bool ((!y) || (!((ref01_Valid b).getD default))))))))], mkH [(102, .var [.p (pi a.Num), .p (pi a.Den)]), (103, .var [.p (pi b.Num), .p (pi b.Den)])]⟩) ?_
  refine lok_c ((!y) || (!((ref01_Valid b).getD default))) ?_ ?_
  · intro b_10
    replace H0 := cpos H0 b_10
    refine lok_rt E0 (⟨43, mkS [(4, .x (.one (.p (pi (0 : Int)))))], mkH []⟩) ?_
    refine lok_ret ?_
    obtain rfl := Option.some.inj H0
    try simp only [thenL, blockL]
    exact fin_au _ (.inr rfl) [] (⟨43, mkS [(4, .x (.one (.p (pi (0 : Int)))))], mkH []⟩) rfl rfl imp_au
  · intro b_10
    replace H0 := cneg H0 b_10
    refine lok_skip ?_
    try simp only [thenL, blockL, ↓reduceIte, reduceCtorEq]
    replace H0 := bind_some H0
    obtain ⟨y1, h_1, H0⟩ := H0
    replace H0 := bind_some H0
    obtain ⟨y2, h_2, H0⟩ := H0
    replace H0 := bind_some H0
    obtain ⟨y3, h_3, H0⟩ := H0
    replace H0 := bind_some H0
    obtain ⟨y4, h_4, H0⟩ := H0
    replace H0 := bind_some H0
    obtain ⟨y5, h_5, H0⟩ := H0
    replace H0 := bind_some H0
    obtain ⟨y6, h_6, H0⟩ := H0
    replace H0 := bind_some H0
    obtain ⟨⟨y7, y8⟩, h_7, H0⟩ := H0
    try dsimp only at H0
    refine lok_et (Env.of E0 [⟨some 21, 42, [.one (.p (pi a.Num))], [], [.one (.p (.val (.int .u64 y1)))], [], True, fun _ => ok_ref01_Size a.Num y1 h_1, []⟩,
      ⟨some 24, 42, [.one (.p (pi b.Den))], [], [.one (.p (.val (.int .u64 y2)))], [], True, fun _ => ok_ref01_Size b.Den y2 h_2, []⟩,
      ⟨some 25, 62, [.one (.p (.val (.int .u64 y1))), .one (.p (.val (.int .u64 y2)))], [], [.agg [.p (.val (.int .u64 y3.Hi)), .p (.val (.int .u64 y3.Lo))]], [], True, fun _ => ok_ref01_Product y1 y2 y3 h_3, []⟩,
      ⟨some 31, 42, [.one (.p (pi b.Num))], [], [.one (.p (.val (.int .u64 y4)))], [], True, fun _ => ok_ref01_Size b.Num y4 h_4, []⟩,
      ⟨some 34, 42, [.one (.p (pi a.Den))], [], [.one (.p (.val (.int .u64 y5)))], [], True, fun _ => ok_ref01_Size a.Den y5 h_5, []⟩,
      ⟨some 35, 62, [.one (.p (.val (.int .u64 y4))), .one (.p (.val (.int .u64 y5)))], [], [.agg [.p (.val (.int .u64 y6.Hi)), .p (.val (.int .u64 y6.Lo))]], [], True, fun _ => ok_ref01_Product y4 y5 y6 h_6, []⟩,
      ⟨some 36, 61, [.one (.p (.val (.bool (decide (a.Num < (0 : Int)))))), .agg [.p (.val (.int .u64 y3.Hi)), .p (.val (.int .u64 y3.Lo))], .one (.p (.val (.bool (decide ((0 : Int) < b.Num))))), .agg [.p (.val (.int .u64 y6.Hi)), .p (.val (.int .u64 y6.Lo))]], [], [.one (.p (.val (.bool y7))), .agg [.p (.val (.int .u64 y8.Hi)), .p (.val (.int .u64 y8.Lo))]], [], True, fun _ => ok_ref01_total (decide (a.Num < (0 : Int))) y3 (decide ((0 : Int) < b.Num)) y6 (y7, y8) h_7, []⟩]) 43 [⟨[(2, .x (.one (.ptr 102 0)))], [], [(16, .x (.one (.ptr 102 0)))], [], none⟩,
      ⟨[(16, .x (.one (.ptr 102 0)))], [(102, some (.var [.p (pi a.Num), .p (pi a.Den)]))], [(17, .x (.one (.p (pi a.Num))))], [], none⟩,
      ⟨[(17, .x (.one (.p (pi a.Num))))], [], [(18, .x (.one (.p (.val (.bool (decide (a.Num < (0 : Int))))))))], [], none⟩,
      ⟨[(2, .x (.one (.ptr 102 0)))], [], [(19, .x (.one (.ptr 102 0)))], [], none⟩,
      ⟨[(19, .x (.one (.ptr 102 0)))], [(102, some (.var [.p (pi a.Num), .p (pi a.Den)]))], [(20, .x (.one (.p (pi a.Num))))], [], none⟩,
      ⟨[(20, .x (.one (.p (pi a.Num))))], [], [(21, .x (.one (.p (.val (.int .u64 y1)))))], [], none⟩,
      ⟨[(3, .x (.one (.ptr 103 0)))], [], [(22, .x (.one (.ptr 103 1)))], [], none⟩,
      ⟨[(22, .x (.one (.ptr 103 1)))], [(103, some (.var [.p (pi b.Num), .p (pi b.Den)]))], [(23, .x (.one (.p (pi b.Den))))], [], none⟩,
      ⟨[(23, .x (.one (.p (pi b.Den))))], [], [(24, .x (.one (.p (.val (.int .u64 y2)))))], [], none⟩,
      ⟨[(21, .x (.one (.p (.val (.int .u64 y1))))), (24, .x (.one (.p (.val (.int .u64 y2)))))], [], [(25, .x (.agg [.p (.val (.int .u64 y3.Hi)), .p (.val (.int .u64 y3.Lo))]))], [], none⟩,
      ⟨[(3, .x (.one (.ptr 103 0)))], [], [(26, .x (.one (.ptr 103 0)))], [], none⟩,
      ⟨[(26, .x (.one (.ptr 103 0)))], [(103, some (.var [.p (pi b.Num), .p (pi b.Den)]))], [(27, .x (.one (.p (pi b.Num))))], [], none⟩,
      ⟨[(27, .x (.one (.p (pi b.Num))))], [], [(28, .x (.one (.p (.val (.bool (decide ((0 : Int) < b.Num)))))))], [], none⟩,
      ⟨[(3, .x (.one (.ptr 103 0)))], [], [(29, .x (.one (.ptr 103 0)))], [], none⟩,
      ⟨[(29, .x (.one (.ptr 103 0)))], [(103, some (.var [.p (pi b.Num), .p (pi b.Den)]))], [(30, .x (.one (.p (pi b.Num))))], [], none⟩,
      ⟨[(30, .x (.one (.p (pi b.Num))))], [], [(31, .x (.one (.p (.val (.int .u64 y4)))))], [], none⟩,
      ⟨[(2, .x (.one (.ptr 102 0)))], [], [(32, .x (.one (.ptr 102 1)))], [], none⟩,
      ⟨[(32, .x (.one (.ptr 102 1)))], [(102, some (.var [.p (pi a.Num), .p (pi a.Den)]))], [(33, .x (.one (.p (pi a.Den))))], [], none⟩,
      ⟨[(33, .x (.one (.p (pi a.Den))))], [], [(34, .x (.one (.p (.val (.int .u64 y5)))))], [], none⟩,
      ⟨[(31, .x (.one (.p (.val (.int .u64 y4))))), (34, .x (.one (.p (.val (.int .u64 y5)))))], [], [(35, .x (.agg [.p (.val (.int .u64 y6.Hi)), .p (.val (.int .u64 y6.Lo))]))], [], none⟩,
      ⟨[(18, .x (.one (.p (.val (.bool (decide (a.Num < (0 : Int)))))))), (25, .x (.agg [.p (.val (.int .u64 y3.Hi)), .p (.val (.int .u64 y3.Lo))])), (28, .x (.one (.p (.val (.bool (decide ((0 : Int) < b.Num))))))), (35, .x (.agg [.p (.val (.int .u64 y6.Hi)), .p (.val (.int .u64 y6.Lo))]))], [], [(36, .tup [.one (.p (.val (.bool y7))), .agg [.p (.val (.int .u64 y8.Hi)), .p (.val (.int .u64 y8.Lo))]])], [], none⟩,
      ⟨[(36, .tup [.one (.p (.val (.bool y7))), .agg [.p (.val (.int .u64 y8.Hi)), .p (.val (.int .u64 y8.Lo))]])], [], [(15, .tup [.one (.p (.val (.bool y7))), .agg [.p (.val (.int .u64 y8.Hi)), .p (.val (.int .u64 y8.Lo))]])], [], none⟩,
      ⟨[(15, .tup [.one (.p (.val (.bool y7))), .agg [.p (.val (.int .u64 y8.Hi)), .p (.val (.int .u64 y8.Lo))]])], [], [(37, .x (.one (.p (.val (.bool y7)))))], [], none⟩,
      ⟨[(15, .tup [.one (.p (.val (.bool y7))), .agg [.p (.val (.int .u64 y8.Hi)), .p (.val (.int .u64 y8.Lo))]])], [], [(38, .x (.agg [.p (.val (.int .u64 y8.Hi)), .p (.val (.int .u64 y8.Lo))]))], [], none⟩,
      ⟨[], [(106, none)], [(6, .x (.one (.ptr 106 0)))], [(106, some (.var [.p (.val (.int .u64 (0 : Int))), .p (.val (.int .u64 (0 : Int)))]))], some 106⟩,
      ⟨[(37, .x (.one (.p (.val (.bool y7)))))], [], [(5, .x (.one (.p (.val (.bool y7)))))], [], none⟩] (⟨43, mkS [(5, .x (.one (.p (.val (.bool y7))))), (6, .x (.one (.ptr 106 0)))], mkH [(106, .var [.p (.val (.int .u64 y8.Hi)), .p (.val (.int .u64 y8.Lo))])]⟩) (by kernel_rfl) (by kernel_rfl) (by kernel_rfl) rfl rfl rfl ?_
    refine lok_seq ?_
    refine lok_rt E0 (⟨43, mkS [(5, .x (.one (.p (.val (.bool y7))))), (41, .x (.one (.p (.val (.bool ((y8.Hi == (0 : Int)) && (y8.Lo == (0 : Int))))))))], mkH []⟩) ?_
    refine lok_c ((y8.Hi == (0 : Int)) && (y8.Lo == (0 : Int))) ?_ ?_
    · intro b_9
      replace H0 := cpos H0 b_9
      refine lok_rt E0 (⟨43, mkS [(4, .x (.one (.p (pi (0 : Int)))))], mkH []⟩) ?_
      refine lok_ret ?_
      obtain rfl := Option.some.inj H0
      try simp only [thenL, blockL]
      exact fin_au _ (.inr rfl) [] (⟨43, mkS [(4, .x (.one (.p (pi (0 : Int)))))], mkH []⟩) rfl rfl imp_au
    · intro b_9
      replace H0 := cneg H0 b_9
      refine lok_skip ?_
      try simp only [thenL, blockL, ↓reduceIte, reduceCtorEq]
      refine lok_seq ?_
      refine lok_rt E0 (⟨43, mkS [(42, .x (.one (.p (.val (.bool y7)))))], mkH []⟩) ?_
      refine lok_c y7 ?_ ?_
      · intro b_8
        replace H0 := cpos H0 b_8
        refine lok_rt E0 (⟨43, mkS [(4, .x (.one (.p (pi (-1 : Int)))))], mkH []⟩) ?_
        refine lok_ret ?_
        obtain rfl := Option.some.inj H0
        try simp only [thenL, blockL]
        exact fin_au _ (.inr rfl) [] (⟨43, mkS [(4, .x (.one (.p (pi (-1 : Int)))))], mkH []⟩) rfl rfl imp_au
      · intro b_8
        replace H0 := cneg H0 b_8
        refine lok_skip ?_
        try simp only [thenL, blockL, ↓reduceIte, reduceCtorEq]
        refine lok_rt E0 (⟨43, mkS [(4, .x (.one (.p (pi (1 : Int)))))], mkH []⟩) ?_
        refine lok_ret ?_
        obtain rfl := Option.some.inj H0
        try simp only [thenL, blockL]
        exact fin_au _ (.inr rfl) [] (⟨43, mkS [(4, .x (.one (.p (pi (1 : Int)))))], mkH []⟩) rfl rfl imp_au
theorem ok_ref01_Less (a : api_Ratio) (b : api_Ratio) (r_ : Bool) (H0 : ref01_Less a b = some r_) : CallOK Try.prog 22 [.agg [.p (pi a.Num), .p (pi a.Den)], .agg [.p (pi b.Num), .p (pi b.Den)]] [] [.one (.p (.val (.bool r_)))] [] := by
  refine callOK (n := 9) (rs := [.tmp 4]) (nb := 0) (V := []) Try.func22 rfl (by kernel_rfl) rfl rfl rfl rfl (Nat.le_of_ble_eq_true rfl) (by decide) ?_
  unfold ref01_Less at H0
  refine lok_rt E0 (⟨9, mkS [(2, .x (.one (.ptr 102 0))), (3, .x (.one (.ptr 103 0)))], mkH [(102, .var [.p (pi a.Num), .p (pi a.Den)]), (103, .var [.p (pi b.Num), .p (pi b.Den)])]⟩) ?_
  replace H0 := bind_some H0
  obtain ⟨y, h_0, H0⟩ := H0
  refine lok_rt (Env.of E0 [⟨some 7, 48, [.agg [.p (pi a.Num), .p (pi a.Den)], .agg [.p (pi b.Num), .p (pi b.Den)]], [], [.one (.p (pi y))], [], True, fun _ => ok_ref01_Compare a b y h_0, []⟩]) (⟨9, mkS [(4, .x (.one (.p (.val (.bool (decide (y < (0 : Int))))))))], mkH []⟩) ?_
  refine lok_ret ?_
  obtain rfl := Option.some.inj H0
  try simp only [thenL, blockL]
  exact fin_au _ (.inr rfl) [] (⟨9, mkS [(4, .x (.one (.p (.val (.bool (decide (y < (0 : Int))))))))], mkH []⟩) rfl rfl imp_au
theorem ok_ref32_Reaches (n : Int) (m : Int) (share : api_Ratio) (r_ : Bool) (H0 : ref32_Reaches n m share = some r_) : CallOK Try.prog 53 [.one (.p (pi n)), .one (.p (pi m)), .agg [.p (pi share.Num), .p (pi share.Den)]] [] [.one (.p (.val (.bool r_)))] [] := by
  refine callOK (n := 19) (rs := [.tmp 6]) (nb := 0) (V := []) Try.func53 rfl (by kernel_rfl) rfl rfl rfl rfl (Nat.le_of_ble_eq_true rfl) (by decide) ?_
  unfold ref32_Reaches at H0
  refine lok_rt E0 (⟨19, mkS [(0, .x (.one (.p (pi n)))), (1, .x (.one (.p (pi m)))), (5, .x (.one (.ptr 105 0)))], mkH [(105, .var [.p (pi share.Num), .p (pi share.Den)])]⟩) ?_
  replace H0 := bind_some H0
  obtain ⟨⟨y, y1⟩, h_0, H0⟩ := H0
  try dsimp only at H0
  refine lok_rt (Env.of E0 [⟨some 12, 13, [.one (.p (pi n)), .one (.p (pi m))], [], [.agg [.p (pi y.Num), .p (pi y.Den)], .one (.p (pi y1))], [], True, fun _ => ok_ref01_New n m (y, y1) h_0, []⟩]) (⟨19, mkS [(5, .x (.one (.ptr 105 0))), (7, .x (.one (.ptr 107 0)))], mkH [(105, .var [.p (pi share.Num), .p (pi share.Den)]), (107, .var [.p (pi y.Num), .p (pi y.Den)])]⟩) ?_
  replace H0 := bind_some H0
  obtain ⟨y2, h_1, H0⟩ := H0
  refine lok_rt (Env.of E0 [⟨some 17, 22, [.agg [.p (pi y.Num), .p (pi y.Den)], .agg [.p (pi share.Num), .p (pi share.Den)]], [], [.one (.p (.val (.bool y2)))], [], True, fun _ => ok_ref01_Less y share y2 h_1, []⟩]) (⟨19, mkS [(6, .x (.one (.p (.val (.bool (!y2))))))], mkH []⟩) ?_
  refine lok_ret ?_
  obtain rfl := Option.some.inj H0
  try simp only [thenL, blockL]
  exact fin_au _ (.inr rfl) [] (⟨19, mkS [(6, .x (.one (.p (.val (.bool (!y2))))))], mkH []⟩) rfl rfl imp_au
theorem ok_ref32_Quantile (d : api_Distribution) (share : api_Ratio) (r_ : Int × Int) (H0 : ref32_Quantile d share = some r_) : CallOK Try.prog 36 [.agg [.p (.sl 1 (List.map encI d.Counts))], .agg [.p (pi share.Num), .p (pi share.Den)]] [] [.one (.p (pi r_.1)), .one (.p (pi r_.2))] [] := by
  refine callOK (n := 35) (rs := [.tmp 4, .tmp 5]) (nb := 0) (V := []) Try.func36 rfl (by kernel_rfl) rfl rfl rfl rfl (Nat.le_of_ble_eq_true rfl) (by decide) ?_
  unfold ref32_Quantile at H0
  refine lok_rt E0 (⟨35, mkS [(2, .x (.one (.ptr 102 0))), (3, .x (.one (.ptr 103 0)))], mkH [(102, .var [.p (.sl 1 (List.map encI d.Counts))]), (103, .var [.p (pi share.Num), .p (pi share.Den)])]⟩) ?_
  refine lok_seq ?_
  refine lok_block ?_
  replace H0 := bind_some H0
  obtain ⟨y, h_0, H0⟩ := H0
  replace H0 := req_some H0
  obtain ⟨q_11, H0⟩ := H0
  refine lok_rt (Env.of E0 [⟨some 9, 29, [.agg [.p (.sl 1 (List.map encI d.Counts))]], [], [.one (.p (.val (.bool y)))], [], True, fun _ => ok_ref32_Valid d y h_0, []⟩,
      ⟨some 13, 51, [.agg [.p (pi share.Num), .p (pi share.Den)]], [], [.one (.p (.val (.bool ((ref01_Valid share).getD default))))], [], (ref01_Valid share).isSome = true, fun h => ok_ref01_Valid share _ (isSome_get h), []⟩]) (⟨35, mkS [(2, .x (.one (.ptr 102 0))), (3, .x (.one (.ptr 103 0))), (7, .x (.one (.p (.val (.bool ((!y) || (!((ref01_Valid share).getD default))))))))], mkH [(102, .var [.p (.sl 1 (List.map encI d.Counts))]), (103, .var [.p (pi share.Num), .p (pi share.Den)])]⟩) ?_
  refine lok_c ((!y) || (!((ref01_Valid share).getD default))) ?_ ?_
  · intro b_10
    replace H0 := cpos H0 b_10
    refine lok_rt E0 (⟨35, mkS [(4, .x (.one (.p (pi (0 : Int))))), (5, .x (.one (.p (pi (1 : Int)))))], mkH []⟩) ?_
    refine lok_ret ?_
    obtain rfl := Option.some.inj H0
    try simp only [thenL, blockL]
    exact fin_au _ (.inr rfl) [] (⟨35, mkS [(4, .x (.one (.p (pi (0 : Int))))), (5, .x (.one (.p (pi (1 : Int)))))], mkH []⟩) rfl rfl imp_au
  · intro b_10
    replace H0 := cneg H0 b_10
    replace H0 := bind_some H0
    obtain ⟨y1, h_1, H0⟩ := H0
    refine lok_rt (Env.of E0 [⟨some 18, 30, [.agg [.p (.sl 1 (List.map encI d.Counts))]], [], [.one (.p (pi y1))], [], True, fun _ => ok_ref32_Count d y1 h_1, []⟩]) (⟨35, mkS [(2, .x (.one (.ptr 102 0))), (3, .x (.one (.ptr 103 0))), (16, .x (.one (.p (.val (.bool (y1 == (0 : Int)))))))], mkH [(102, .var [.p (.sl 1 (List.map encI d.Counts))]), (103, .var [.p (pi share.Num), .p (pi share.Den)])]⟩) ?_
    refine lok_c (y1 == (0 : Int)) ?_ ?_
    · intro b_9
      replace H0 := cpos H0 b_9
      refine lok_rt E0 (⟨35, mkS [(4, .x (.one (.p (pi (0 : Int))))), (5, .x (.one (.p (pi (10 : Int)))))], mkH []⟩) ?_
      refine lok_ret ?_
      obtain rfl := Option.some.inj H0
      try simp only [thenL, blockL]
      exact fin_au _ (.inr rfl) [] (⟨35, mkS [(4, .x (.one (.p (pi (0 : Int))))), (5, .x (.one (.p (pi (10 : Int)))))], mkH []⟩) rfl rfl imp_au
    · intro b_9
      replace H0 := cneg H0 b_9
      replace H0 := bind_some H0
      obtain ⟨y2, h_2, H0⟩ := H0
      refine lok_rt (Env.of E0 [⟨some 22, 52, [.agg [.p (pi share.Num), .p (pi share.Den)]], [], [.one (.p (.val (.bool y2)))], [], True, fun _ => ok_ref32_Outside share y2 h_2, []⟩]) (⟨35, mkS [(2, .x (.one (.ptr 102 0))), (3, .x (.one (.ptr 103 0))), (20, .x (.one (.p (.val (.bool y2)))))], mkH [(102, .var [.p (.sl 1 (List.map encI d.Counts))]), (103, .var [.p (pi share.Num), .p (pi share.Den)])]⟩) ?_
      refine lok_c y2 ?_ ?_
      · intro b_8
        replace H0 := cpos H0 b_8
        refine lok_rt E0 (⟨35, mkS [(4, .x (.one (.p (pi (0 : Int))))), (5, .x (.one (.p (pi (2 : Int)))))], mkH []⟩) ?_
        refine lok_ret ?_
        obtain rfl := Option.some.inj H0
        try simp only [thenL, blockL]
        exact fin_au _ (.inr rfl) [] (⟨35, mkS [(4, .x (.one (.p (pi (0 : Int))))), (5, .x (.one (.p (pi (2 : Int)))))], mkH []⟩) rfl rfl imp_au
      · intro b_8
        replace H0 := cneg H0 b_8
        refine lok_skip ?_
        try simp only [thenL, blockL, ↓reduceIte, reduceCtorEq]
        refine lok_rt E0 (⟨35, mkS [(2, .x (.one (.ptr 102 0))), (3, .x (.one (.ptr 103 0))), (6, .x (.one (.p (pi (0 : Int)))))], mkH [(102, .var [.p (.sl 1 (List.map encI d.Counts))]), (103, .var [.p (pi share.Num), .p (pi share.Den)])]⟩) ?_
        refine lok_join (fun x_ : Int => ref32_Quantile_j1 x_ = some r_) (fun x_ => ⟨35, mkS [(6, .x (.one (.p (pi x_))))], mkH []⟩) ?hyref32_Quantile_j1 ?hxref32_Quantile_j1
        case hyref32_Quantile_j1 =>
          rintro s H0
          try dsimp only at H0 ⊢
          unfold ref32_Quantile_j1 at H0
          refine lok_rt E0 (⟨35, mkS [(4, .x (.one (.p (pi s)))), (5, .x (.one (.p (pi (0 : Int)))))], mkH []⟩) ?_
          refine lok_ret ?_
          obtain rfl := Option.some.inj H0
          try simp only [thenL, blockL]
          exact fin_au _ (.inr rfl) [] (⟨35, mkS [(4, .x (.one (.p (pi s)))), (5, .x (.one (.p (pi (0 : Int)))))], mkH []⟩) rfl rfl imp_au
        case hxref32_Quantile_j1 =>
          refine lok_block ?_
          replace H0 := bind_some H0
          obtain ⟨v_3, hv_3, H0⟩ := H0
          refine lok_iter (fun x_ => ⟨35, mkS [(2, .x (.one (.ptr 102 0))), (3, .x (.one (.ptr 103 0))), (6, .x (.one (.p (pi x_))))], mkH [(102, .var [.p (.sl 1 (List.map encI d.Counts))]), (103, .var [.p (pi share.Num), .p (pi share.Den)])]⟩) hv_3 imp_au ?_
          · rintro s1 o_1 H1 k_1
            unfold ref32_Quantile_l2 at H1
            try dsimp only at H1 ⊢
            refine lok_seq ?_
            replace H1 := bind_some H1
            obtain ⟨y3, h_4, H1⟩ := H1
            replace H1 := bind_some H1
            obtain ⟨y4, h_5, H1⟩ := H1
            replace H1 := bind_some H1
            obtain ⟨y5, h_6, H1⟩ := H1
            refine lok_dt (Env.of E0 [⟨some 26, 32, [.agg [.p (.sl 1 (List.map encI d.Counts))], .one (.p (pi (IntKind.i64.wrap (s1 + (1 : Int)))))], [], [.one (.p (pi y3))], [], True, fun _ => ok_ref32_Below d (IntKind.i64.wrap (s1 + (1 : Int))) y3 h_4, []⟩,
      ⟨some 28, 30, [.agg [.p (.sl 1 (List.map encI d.Counts))]], [], [.one (.p (pi y4))], [], True, fun _ => ok_ref32_Count d y4 h_5, []⟩,
      ⟨some 30, 53, [.one (.p (pi y3)), .one (.p (pi y4)), .agg [.p (pi share.Num), .p (pi share.Den)]], [], [.one (.p (.val (.bool y5)))], [], True, fun _ => ok_ref32_Reaches y3 y4 share y5 h_6, []⟩]) 7 (⟨35, mkS [(2, .x (.one (.ptr 102 0))), (3, .x (.one (.ptr 103 0))), (6, .x (.one (.p (pi s1)))), (31, .x (.one (.p (.val (.bool (!y5))))))], mkH [(102, .var [.p (.sl 1 (List.map encI d.Counts))]), (103, .var [.p (pi share.Num), .p (pi share.Den)])]⟩) (by kernel_rfl) (by kernel_rfl) ?_
            refine lok_c (!y5) ?_ ?_
            · intro b_7
              replace H1 := cpos H1 b_7
              refine lok_skip ?_
              try simp only [thenL, blockL, ↓reduceIte, reduceCtorEq]
              refine lok_block ?_
              refine lok_rl E0 (⟨35, mkS [(2, .x (.one (.ptr 102 0))), (3, .x (.one (.ptr 103 0))), (6, .x (.one (.p (pi (IntKind.i64.wrap (s1 + (1 : Int)))))))], mkH [(102, .var [.p (.sl 1 (List.map encI d.Counts))]), (103, .var [.p (pi share.Num), .p (pi share.Den)])]⟩) ?_
              try simp only [thenL, blockL, ↓reduceIte, reduceCtorEq]
              exact ⟨(IntKind.i64.wrap (s1 + (1 : Int))), (Option.some.inj H1).symm, imp_au⟩
            · intro b_7
              replace H1 := cneg H1 b_7
              refine lok_exit ?_
              try simp only [thenL, blockL, ↓reduceIte, reduceCtorEq]
              have e_1 := k_1 _ (Option.some.inj H1).symm
              subst e_1
              try dsimp only at H0
              try simp only [thenL, blockL, ↓reduceIte, reduceCtorEq]
              exact ⟨s1, H0, imp_au⟩
set_option maxHeartbeats 4000000 in
theorem ok_ref32_Add (a : api_Distribution) (b : api_Distribution) (r_ : api_Distribution × Int) (H0 : ref32_Add a b = some r_) : CallOK Try.prog 37 [.agg [.p (.sl 1 (List.map encI a.Counts))], .agg [.p (.sl 1 (List.map encI b.Counts))]] [] [.agg [.p (.sl 1 (List.map encI r_.1.Counts))], .one (.p (pi r_.2))] [] := by
  refine callOK (n := 71) (rs := [.cell 4 26, .tmp 5]) (nb := 0) (V := []) Try.func37 rfl (by kernel_rfl) rfl rfl rfl rfl (Nat.le_of_ble_eq_true rfl) (by decide) ?_
  unfold ref32_Add at H0
  refine lok_rt E0 (⟨71, mkS [(2, .x (.one (.ptr 102 0))), (3, .x (.one (.ptr 103 0))), (4, .x (.one (.ptr 104 0)))], mkH [(102, .var [.p (.sl 1 (List.map encI a.Counts))]), (103, .var [.p (.sl 1 (List.map encI b.Counts))]), (104, .var [.p .nil])]⟩) ?_
  refine lok_seq ?_
  replace H0 := bind_some H0
  obtain ⟨y, h_0, H0⟩ := H0
  replace H0 := req_some H0
  obtain ⟨q_14, H0⟩ := H0
  refine lok_rt (Env.of E0 [⟨some 10, 29, [.agg [.p (.sl 1 (List.map encI a.Counts))]], [], [.one (.p (.val (.bool y)))], [], True, fun _ => ok_ref32_Valid a y h_0, []⟩,
      ⟨some 14, 29, [.agg [.p (.sl 1 (List.map encI b.Counts))]], [], [.one (.p (.val (.bool ((ref32_Valid b).getD default))))], [], (ref32_Valid b).isSome = true, fun h => ok_ref32_Valid b _ (isSome_get h), []⟩]) (⟨71, mkS [(2, .x (.one (.ptr 102 0))), (3, .x (.one (.ptr 103 0))), (4, .x (.one (.ptr 104 0))), (16, .x (.one (.p (.val (.bool ((!y) || (!((ref32_Valid b).getD default))))))))], mkH [(102, .var [.p (.sl 1 (List.map encI a.Counts))]), (103, .var [.p (.sl 1 (List.map encI b.Counts))]), (104, .var [.p .nil])]⟩) ?_
  refine lok_c ((!y) || (!((ref32_Valid b).getD default))) ?_ ?_
  · intro b_13
    replace H0 := cpos H0 b_13
    refine lok_rt E0 (⟨71, mkS [(4, .x (.one (.ptr 104 0))), (5, .x (.one (.p (pi (1 : Int)))))], mkH [(104, .var [.p .nil])]⟩) ?_
    refine lok_ret ?_
    obtain rfl := Option.some.inj H0
    try simp only [thenL, blockL]
    exact fin_au _ (.inr rfl) [] (⟨71, mkS [(4, .x (.one (.ptr 104 0))), (5, .x (.one (.p (pi (1 : Int)))))], mkH [(104, .var [.p (.sl 1 (List.map encI ([] : List Int)))])]⟩) rfl rfl imp_au
  · intro b_13
    replace H0 := cneg H0 b_13
    refine lok_skip ?_
    try simp only [thenL, blockL, ↓reduceIte, reduceCtorEq]
    refine lok_seq ?_
    replace H0 := bind_some H0
    obtain ⟨y1, h_1, H0⟩ := H0
    replace H0 := bind_some H0
    obtain ⟨y2, h_2, H0⟩ := H0
    refine lok_dt (Env.of E0 [⟨some 19, 30, [.agg [.p (.sl 1 (List.map encI a.Counts))]], [], [.one (.p (pi y1))], [], True, fun _ => ok_ref32_Count a y1 h_1, []⟩,
      ⟨some 21, 30, [.agg [.p (.sl 1 (List.map encI b.Counts))]], [], [.one (.p (pi y2))], [], True, fun _ => ok_ref32_Count b y2 h_2, []⟩]) 3 (⟨71, mkS [(2, .x (.one (.ptr 102 0))), (3, .x (.one (.ptr 103 0))), (4, .x (.one (.ptr 104 0))), (23, .x (.one (.p (.val (.bool (decide ((1048576 : Int) < (IntKind.i64.wrap (y1 + y2)))))))))], mkH [(102, .var [.p (.sl 1 (List.map encI a.Counts))]), (103, .var [.p (.sl 1 (List.map encI b.Counts))]), (104, .var [.p .nil])]⟩) (by kernel_rfl) (by kernel_rfl) ?_
    refine lok_c (decide ((1048576 : Int) < (IntKind.i64.wrap (y1 + y2)))) ?_ ?_
    · intro b_12
      replace H0 := cpos H0 b_12
      refine lok_rt E0 (⟨71, mkS [(4, .x (.one (.ptr 104 0))), (5, .x (.one (.p (pi (3 : Int)))))], mkH [(104, .var [.p .nil])]⟩) ?_
      refine lok_ret ?_
      obtain rfl := Option.some.inj H0
      try simp only [thenL, blockL]
      exact fin_au _ (.inr rfl) [] (⟨71, mkS [(4, .x (.one (.ptr 104 0))), (5, .x (.one (.p (pi (3 : Int)))))], mkH [(104, .var [.p (.sl 1 (List.map encI ([] : List Int)))])]⟩) rfl rfl imp_au
    · intro b_12
      replace H0 := cneg H0 b_12
      refine lok_skip ?_
      try simp only [thenL, blockL, ↓reduceIte, reduceCtorEq]
      replace H0 := req_some H0
      obtain ⟨q_11, H0⟩ := H0
      refine lok_rt E0 (⟨71, mkS [(2, .x (.one (.ptr 102 0))), (3, .x (.one (.ptr 103 0))), (4, .x (.one (.ptr 104 0))), (6, .x (.one (.vw 132)))], mkH [(102, .var [.p (.sl 1 (List.map encI a.Counts))]), (103, .var [.p (.sl 1 (List.map encI b.Counts))]), (104, .var [.p .nil]), (132, .arr 1 (List.map encI (rep (imax (a.Counts.length : Int) (b.Counts.length : Int)) (0 : Int))))]⟩) ?_
      refine lok_join (fun x_ : (List Int) => ref32_Add_j3 b x_ = some r_) (fun x_ => ⟨71, mkS [(3, .x (.one (.ptr 103 0))), (4, .x (.one (.ptr 104 0))), (6, .x (.one (.vw 132)))], mkH [(103, .var [.p (.sl 1 (List.map encI b.Counts))]), (104, .var [.p .nil]), (132, .arr 1 (List.map encI x_))]⟩) ?hyref32_Add_j3 ?hxref32_Add_j3
      case hyref32_Add_j3 =>
        rintro w H0
        try dsimp only at H0 ⊢
        unfold ref32_Add_j3 at H0
        refine lok_join (fun x_ : (List Int) => ref32_Add_j1 x_ = some r_) (fun x_ => ⟨71, mkS [(4, .x (.one (.ptr 104 0))), (6, .x (.one (.vw 132)))], mkH [(104, .var [.p .nil]), (132, .arr 1 (List.map encI x_))]⟩) ?hyref32_Add_j1 ?hxref32_Add_j1
        case hyref32_Add_j1 =>
          rintro w1 H0
          try dsimp only at H0 ⊢
          unfold ref32_Add_j1 at H0
          refine lok_rt E0 (⟨71, mkS [(4, .x (.one (.ptr 104 0))), (5, .x (.one (.p (pi (0 : Int)))))], mkH [(104, .var [.vw 132]), (132, .arr 1 (List.map encI w1))]⟩) ?_
          refine lok_ret ?_
          obtain rfl := Option.some.inj H0
          try simp only [thenL, blockL]
          exact fin_au _ (.inr rfl) [] (⟨71, mkS [(4, .x (.one (.ptr 104 0))), (5, .x (.one (.p (pi (0 : Int)))))], mkH [(104, .var [.p (.sl 1 (List.map encI w1))])]⟩) rfl rfl (Imp.trans (imp_frz 132 1 (List.map encI w1)) imp_au)
        case hxref32_Add_j1 =>
          refine lok_rt E0 (⟨71, mkS [(3, .x (.one (.ptr 103 0))), (4, .x (.one (.ptr 104 0))), (6, .x (.one (.vw 132))), (8, .x (.one (.p (pi (0 : Int)))))], mkH [(103, .var [.p (.sl 1 (List.map encI b.Counts))]), (104, .var [.p .nil]), (132, .arr 1 (List.map encI w))]⟩) ?_
          refine lok_block ?_
          replace H0 := bind_some H0
          obtain ⟨v_3, hv_3, H0⟩ := H0
          refine lok_iter (fun x_ => ⟨71, mkS [(3, .x (.one (.ptr 103 0))), (4, .x (.one (.ptr 104 0))), (6, .x (.one (.vw 132))), (8, .x (.one (.p (pi x_.1))))], mkH [(103, .var [.p (.sl 1 (List.map encI b.Counts))]), (104, .var [.p .nil]), (132, .arr 1 (List.map encI x_.2))]⟩) hv_3 imp_au ?_
          · rintro ⟨i, w2⟩ o_1 H1 k_1
            unfold ref32_Add_l2 at H1
            try dsimp only at H1 ⊢
            refine lok_seq ?_
            refine lok_rt E0 (⟨71, mkS [(3, .x (.one (.ptr 103 0))), (4, .x (.one (.ptr 104 0))), (6, .x (.one (.vw 132))), (8, .x (.one (.p (pi i)))), (55, .x (.one (.p (.val (.bool (decide (i < (b.Counts.length : Int))))))))], mkH [(103, .var [.p (.sl 1 (List.map encI b.Counts))]), (104, .var [.p .nil]), (132, .arr 1 (List.map encI w2))]⟩) ?_
            refine lok_c (decide (i < (b.Counts.length : Int))) ?_ ?_
            · intro b_6
              replace H1 := cpos H1 b_6
              refine lok_skip ?_
              try simp only [thenL, blockL, ↓reduceIte, reduceCtorEq]
              refine lok_seq ?_
              refine lok_block ?_
              replace H1 := req_some H1
              obtain ⟨⟨q_4, q_5⟩, H1⟩ := H1
              refine lok_dl E0 9 (⟨71, mkS [(3, .x (.one (.ptr 103 0))), (4, .x (.one (.ptr 104 0))), (6, .x (.one (.vw 132))), (8, .x (.one (.p (pi i))))], mkH [(103, .var [.p (.sl 1 (List.map encI b.Counts))]), (104, .var [.p .nil]), (132, .arr 1 (List.map encI (setI w2 i (IntKind.i64.wrap ((ix w2 i) + (ix b.Counts i))))))]⟩) (by kernel_rfl) (by kernel_rfl) ?_
              try simp only [thenL, blockL, ↓reduceIte, reduceCtorEq]
              refine lok_rl E0 (⟨71, mkS [(3, .x (.one (.ptr 103 0))), (4, .x (.one (.ptr 104 0))), (6, .x (.one (.vw 132))), (8, .x (.one (.p (pi (IntKind.i64.wrap (i + (1 : Int)))))))], mkH [(103, .var [.p (.sl 1 (List.map encI b.Counts))]), (104, .var [.p .nil]), (132, .arr 1 (List.map encI (setI w2 i (IntKind.i64.wrap ((ix w2 i) + (ix b.Counts i))))))]⟩) ?_
              try simp only [thenL, blockL, ↓reduceIte, reduceCtorEq]
              exact ⟨((IntKind.i64.wrap (i + (1 : Int))), (setI w2 i (IntKind.i64.wrap ((ix w2 i) + (ix b.Counts i))))), (Option.some.inj H1).symm, imp_au⟩
            · intro b_6
              replace H1 := cneg H1 b_6
              refine lok_exit ?_
              try simp only [thenL, blockL, ↓reduceIte, reduceCtorEq]
              have e_1 := k_1 _ (Option.some.inj H1).symm
              subst e_1
              try dsimp only at H0
              try simp only [thenL, blockL, ↓reduceIte, reduceCtorEq]
              exact ⟨w2, H0, imp_au⟩
      case hxref32_Add_j3 =>
        refine lok_rt E0 (⟨71, mkS [(2, .x (.one (.ptr 102 0))), (3, .x (.one (.ptr 103 0))), (4, .x (.one (.ptr 104 0))), (6, .x (.one (.vw 132))), (7, .x (.one (.p (pi (0 : Int)))))], mkH [(102, .var [.p (.sl 1 (List.map encI a.Counts))]), (103, .var [.p (.sl 1 (List.map encI b.Counts))]), (104, .var [.p .nil]), (132, .arr 1 (List.map encI (rep (imax (a.Counts.length : Int) (b.Counts.length : Int)) (0 : Int))))]⟩) ?_
        refine lok_block ?_
        replace H0 := bind_some H0
        obtain ⟨v_7, hv_7, H0⟩ := H0
        refine lok_iter (fun x_ => ⟨71, mkS [(2, .x (.one (.ptr 102 0))), (3, .x (.one (.ptr 103 0))), (4, .x (.one (.ptr 104 0))), (6, .x (.one (.vw 132))), (7, .x (.one (.p (pi x_.1))))], mkH [(102, .var [.p (.sl 1 (List.map encI a.Counts))]), (103, .var [.p (.sl 1 (List.map encI b.Counts))]), (104, .var [.p .nil]), (132, .arr 1 (List.map encI x_.2))]⟩) hv_7 imp_au ?_
        · rintro ⟨i1, w4⟩ o_1 H1 k_1
          unfold ref32_Add_l4 at H1
          try dsimp only at H1 ⊢
          refine lok_seq ?_
          refine lok_rt E0 (⟨71, mkS [(2, .x (.one (.ptr 102 0))), (3, .x (.one (.ptr 103 0))), (4, .x (.one (.ptr 104 0))), (6, .x (.one (.vw 132))), (7, .x (.one (.p (pi i1)))), (37, .x (.one (.p (.val (.bool (decide (i1 < (a.Counts.length : Int))))))))], mkH [(102, .var [.p (.sl 1 (List.map encI a.Counts))]), (103, .var [.p (.sl 1 (List.map encI b.Counts))]), (104, .var [.p .nil]), (132, .arr 1 (List.map encI w4))]⟩) ?_
          refine lok_c (decide (i1 < (a.Counts.length : Int))) ?_ ?_
          · intro b_10
            replace H1 := cpos H1 b_10
            refine lok_skip ?_
            try simp only [thenL, blockL, ↓reduceIte, reduceCtorEq]
            refine lok_seq ?_
            refine lok_block ?_
            replace H1 := req_some H1
            obtain ⟨⟨q_8, q_9⟩, H1⟩ := H1
            refine lok_dl E0 9 (⟨71, mkS [(2, .x (.one (.ptr 102 0))), (3, .x (.one (.ptr 103 0))), (4, .x (.one (.ptr 104 0))), (6, .x (.one (.vw 132))), (7, .x (.one (.p (pi i1))))], mkH [(102, .var [.p (.sl 1 (List.map encI a.Counts))]), (103, .var [.p (.sl 1 (List.map encI b.Counts))]), (104, .var [.p .nil]), (132, .arr 1 (List.map encI (setI w4 i1 (IntKind.i64.wrap ((ix w4 i1) + (ix a.Counts i1))))))]⟩) (by kernel_rfl) (by kernel_rfl) ?_
            try simp only [thenL, blockL, ↓reduceIte, reduceCtorEq]
            refine lok_rl E0 (⟨71, mkS [(2, .x (.one (.ptr 102 0))), (3, .x (.one (.ptr 103 0))), (4, .x (.one (.ptr 104 0))), (6, .x (.one (.vw 132))), (7, .x (.one (.p (pi (IntKind.i64.wrap (i1 + (1 : Int)))))))], mkH [(102, .var [.p (.sl 1 (List.map encI a.Counts))]), (103, .var [.p (.sl 1 (List.map encI b.Counts))]), (104, .var [.p .nil]), (132, .arr 1 (List.map encI (setI w4 i1 (IntKind.i64.wrap ((ix w4 i1) + (ix a.Counts i1))))))]⟩) ?_
            try simp only [thenL, blockL, ↓reduceIte, reduceCtorEq]
            exact ⟨((IntKind.i64.wrap (i1 + (1 : Int))), (setI w4 i1 (IntKind.i64.wrap ((ix w4 i1) + (ix a.Counts i1))))), (Option.some.inj H1).symm, imp_au⟩
          · intro b_10
            replace H1 := cneg H1 b_10
            refine lok_exit ?_
            try simp only [thenL, blockL, ↓reduceIte, reduceCtorEq]
            have e_1 := k_1 _ (Option.some.inj H1).symm
            subst e_1
            try dsimp only at H0
            try simp only [thenL, blockL, ↓reduceIte, reduceCtorEq]
            exact ⟨w4, H0, imp_au⟩
theorem ok_ref32_Smooth (d : api_Distribution) (r_ : api_Distribution × Int) (H0 : ref32_Smooth d = some r_) : CallOK Try.prog 38 [.agg [.p (.sl 1 (List.map encI d.Counts))]] [] [.agg [.p (.sl 1 (List.map encI r_.1.Counts))], .one (.p (pi r_.2))] [] := by
  refine callOK (n := 31) (rs := [.cell 2 26, .tmp 3]) (nb := 0) (V := []) Try.func38 rfl (by kernel_rfl) rfl rfl rfl rfl (Nat.le_of_ble_eq_true rfl) (by decide) ?_
  unfold ref32_Smooth at H0
  refine lok_rt E0 (⟨31, mkS [(1, .x (.one (.ptr 101 0))), (2, .x (.one (.ptr 102 0)))], mkH [(101, .var [.p (.sl 1 (List.map encI d.Counts))]), (102, .var [.p .nil])]⟩) ?_
  refine lok_seq ?_
  replace H0 := bind_some H0
  obtain ⟨y, h_0, H0⟩ := H0
  refine lok_rt (Env.of E0 [⟨some 7, 29, [.agg [.p (.sl 1 (List.map encI d.Counts))]], [], [.one (.p (.val (.bool y)))], [], True, fun _ => ok_ref32_Valid d y h_0, []⟩]) (⟨31, mkS [(1, .x (.one (.ptr 101 0))), (2, .x (.one (.ptr 102 0))), (8, .x (.one (.p (.val (.bool (!y))))))], mkH [(101, .var [.p (.sl 1 (List.map encI d.Counts))]), (102, .var [.p .nil])]⟩) ?_
  refine lok_c (!y) ?_ ?_
  · intro b_6
    replace H0 := cpos H0 b_6
    refine lok_rt E0 (⟨31, mkS [(2, .x (.one (.ptr 102 0))), (3, .x (.one (.p (pi (1 : Int)))))], mkH [(102, .var [.p .nil])]⟩) ?_
    refine lok_ret ?_
    obtain rfl := Option.some.inj H0
    try simp only [thenL, blockL]
    exact fin_au _ (.inr rfl) [] (⟨31, mkS [(2, .x (.one (.ptr 102 0))), (3, .x (.one (.p (pi (1 : Int)))))], mkH [(102, .var [.p (.sl 1 (List.map encI ([] : List Int)))])]⟩) rfl rfl imp_au
  · intro b_6
    replace H0 := cneg H0 b_6
    refine lok_skip ?_
    try simp only [thenL, blockL, ↓reduceIte, reduceCtorEq]
    replace H0 := req_some H0
    obtain ⟨q_5, H0⟩ := H0
    refine lok_rt E0 (⟨31, mkS [(1, .x (.one (.ptr 101 0))), (2, .x (.one (.ptr 102 0))), (4, .x (.one (.ptr 104 0)))], mkH [(101, .var [.p (.sl 1 (List.map encI d.Counts))]), (102, .var [.p .nil]), (104, .var [.vw 113]), (113, .arr 1 (List.map encI (rep (d.Counts.length : Int) (0 : Int))))]⟩) ?_
    refine lok_join (fun x_ : (List Int) => ref32_Smooth_j1 d x_ = some r_) (fun x_ => ⟨31, mkS [(1, .x (.one (.ptr 101 0))), (2, .x (.one (.ptr 102 0))), (4, .x (.one (.ptr 104 0)))], mkH [(101, .var [.p (.sl 1 (List.map encI d.Counts))]), (102, .var [.p .nil]), (104, .var [.vw 113]), (113, .arr 1 (List.map encI x_))]⟩) ?hyref32_Smooth_j1 ?hxref32_Smooth_j1
    case hyref32_Smooth_j1 =>
      rintro w H0
      try dsimp only at H0 ⊢
      unfold ref32_Smooth_j1 at H0
      refine lok_imp (st' := ⟨31, mkS [(1, .x (.one (.ptr 101 0))), (2, .x (.one (.ptr 102 0))), (4, .x (.one (.ptr 104 0)))], mkH [(101, .var [.p (.sl 1 (List.map encI d.Counts))]), (102, .var [.p .nil]), (104, .var [.p (.sl 1 (List.map encI w))])]⟩) (Imp.trans (imp_frz 113 1 (List.map encI w)) imp_au) ?_
      replace H0 := bind_some H0
      obtain ⟨⟨y1, y2⟩, h_1, H0⟩ := H0
      try dsimp only at H0
      refine lok_rt (Env.of E0 [⟨some 28, 37, [.agg [.p (.sl 1 (List.map encI d.Counts))], .agg [.p (.sl 1 (List.map encI w))]], [], [.agg [.p (.sl 1 (List.map encI y1.Counts))], .one (.p (pi y2))], [], True, fun _ => ok_ref32_Add d (api_Distribution.mk w) (y1, y2) h_1, []⟩]) (⟨31, mkS [(2, .x (.one (.ptr 102 0))), (3, .x (.one (.p (pi y2))))], mkH [(102, .var [.p (.sl 1 (List.map encI y1.Counts))])]⟩) ?_
      refine lok_ret ?_
      obtain rfl := Option.some.inj H0
      try simp only [thenL, blockL]
      exact fin_au _ (.inr rfl) [] (⟨31, mkS [(2, .x (.one (.ptr 102 0))), (3, .x (.one (.p (pi y2))))], mkH [(102, .var [.p (.sl 1 (List.map encI y1.Counts))])]⟩) rfl rfl imp_au
    case hxref32_Smooth_j1 =>
      refine lok_rt E0 (⟨31, mkS [(1, .x (.one (.ptr 101 0))), (2, .x (.one (.ptr 102 0))), (4, .x (.one (.ptr 104 0))), (5, .x (.one (.p (pi (0 : Int)))))], mkH [(101, .var [.p (.sl 1 (List.map encI d.Counts))]), (102, .var [.p .nil]), (104, .var [.vw 113]), (113, .arr 1 (List.map encI (rep (d.Counts.length : Int) (0 : Int))))]⟩) ?_
      refine lok_block ?_
      replace H0 := bind_some H0
      obtain ⟨v_2, hv_2, H0⟩ := H0
      refine lok_iter (fun x_ => ⟨31, mkS [(1, .x (.one (.ptr 101 0))), (2, .x (.one (.ptr 102 0))), (4, .x (.one (.ptr 104 0))), (5, .x (.one (.p (pi x_.1))))], mkH [(101, .var [.p (.sl 1 (List.map encI d.Counts))]), (102, .var [.p .nil]), (104, .var [.vw 113]), (113, .arr 1 (List.map encI x_.2))]⟩) hv_2 imp_au ?_
      · rintro ⟨i, w1⟩ o_1 H1 k_1
        unfold ref32_Smooth_l2 at H1
        try dsimp only at H1 ⊢
        refine lok_seq ?_
        refine lok_rt E0 (⟨31, mkS [(1, .x (.one (.ptr 101 0))), (2, .x (.one (.ptr 102 0))), (4, .x (.one (.ptr 104 0))), (5, .x (.one (.p (pi i)))), (19, .x (.one (.p (.val (.bool (decide (i < (w1.length : Int))))))))], mkH [(101, .var [.p (.sl 1 (List.map encI d.Counts))]), (102, .var [.p .nil]), (104, .var [.vw 113]), (113, .arr 1 (List.map encI w1))]⟩) ?_
        refine lok_c (decide (i < (w1.length : Int))) ?_ ?_
        · intro b_4
          replace H1 := cpos H1 b_4
          refine lok_skip ?_
          try simp only [thenL, blockL, ↓reduceIte, reduceCtorEq]
          refine lok_seq ?_
          refine lok_block ?_
          replace H1 := req_some H1
          obtain ⟨q_3, H1⟩ := H1
          refine lok_rl E0 (⟨31, mkS [(1, .x (.one (.ptr 101 0))), (2, .x (.one (.ptr 102 0))), (4, .x (.one (.ptr 104 0))), (5, .x (.one (.p (pi i))))], mkH [(101, .var [.p (.sl 1 (List.map encI d.Counts))]), (102, .var [.p .nil]), (104, .var [.vw 113]), (113, .arr 1 (List.map encI (setI w1 i (1 : Int))))]⟩) ?_
          try simp only [thenL, blockL, ↓reduceIte, reduceCtorEq]
          refine lok_rl E0 (⟨31, mkS [(1, .x (.one (.ptr 101 0))), (2, .x (.one (.ptr 102 0))), (4, .x (.one (.ptr 104 0))), (5, .x (.one (.p (pi (IntKind.i64.wrap (i + (1 : Int)))))))], mkH [(101, .var [.p (.sl 1 (List.map encI d.Counts))]), (102, .var [.p .nil]), (104, .var [.vw 113]), (113, .arr 1 (List.map encI (setI w1 i (1 : Int))))]⟩) ?_
          try simp only [thenL, blockL, ↓reduceIte, reduceCtorEq]
          exact ⟨((IntKind.i64.wrap (i + (1 : Int))), (setI w1 i (1 : Int))), (Option.some.inj H1).symm, imp_au⟩
        · intro b_4
          replace H1 := cneg H1 b_4
          refine lok_exit ?_
          try simp only [thenL, blockL, ↓reduceIte, reduceCtorEq]
          have e_1 := k_1 _ (Option.some.inj H1).symm
          subst e_1
          try dsimp only at H0
          try simp only [thenL, blockL, ↓reduceIte, reduceCtorEq]
          exact ⟨w1, H0, imp_au⟩
theorem ok_ref32_Dominates (a : api_Distribution) (b : api_Distribution) (r_ : Bool) (H0 : ref32_Dominates a b = some r_) : CallOK Try.prog 39 [.agg [.p (.sl 1 (List.map encI a.Counts))], .agg [.p (.sl 1 (List.map encI b.Counts))]] [] [.one (.p (.val (.bool r_)))] [] := by
  refine callOK (n := 38) (rs := [.tmp 4]) (nb := 0) (V := []) Try.func39 rfl (by kernel_rfl) rfl rfl rfl rfl (Nat.le_of_ble_eq_true rfl) (by decide) ?_
  unfold ref32_Dominates at H0
  refine lok_rt E0 (⟨38, mkS [(2, .x (.one (.ptr 102 0))), (3, .x (.one (.ptr 103 0)))], mkH [(102, .var [.p (.sl 1 (List.map encI a.Counts))]), (103, .var [.p (.sl 1 (List.map encI b.Counts))])]⟩) ?_
  refine lok_seq ?_
  replace H0 := bind_some H0
  obtain ⟨y, h_0, H0⟩ := H0
  replace H0 := req_some H0
  obtain ⟨q_9, H0⟩ := H0
  refine lok_rt (Env.of E0 [⟨some 7, 49, [.agg [.p (.sl 1 (List.map encI a.Counts))]], [], [.one (.p (pi y))], [], True, fun _ => ok_ref32_wrong a y h_0, []⟩,
      ⟨some 11, 49, [.agg [.p (.sl 1 (List.map encI b.Counts))]], [], [.one (.p (pi ((ref32_wrong b).getD default)))], [], (ref32_wrong b).isSome = true, fun h => ok_ref32_wrong b _ (isSome_get h), []⟩]) (⟨38, mkS [(2, .x (.one (.ptr 102 0))), (3, .x (.one (.ptr 103 0))), (13, .x (.one (.p (.val (.bool ((y != (0 : Int)) || (((ref32_wrong b).getD default) != (0 : Int))))))))], mkH [(102, .var [.p (.sl 1 (List.map encI a.Counts))]), (103, .var [.p (.sl 1 (List.map encI b.Counts))])]⟩) ?_
  refine lok_c ((y != (0 : Int)) || (((ref32_wrong b).getD default) != (0 : Int))) ?_ ?_
  · intro b_8
    replace H0 := cpos H0 b_8
    refine lok_rt E0 (⟨38, mkS [(4, .x (.one (.p (.val (.bool false)))))], mkH []⟩) ?_
    refine lok_ret ?_
    obtain rfl := Option.some.inj H0
    try simp only [thenL, blockL]
    exact fin_au _ (.inr rfl) [] (⟨38, mkS [(4, .x (.one (.p (.val (.bool false)))))], mkH []⟩) rfl rfl imp_au
  · intro b_8
    replace H0 := cneg H0 b_8
    refine lok_skip ?_
    try simp only [thenL, blockL, ↓reduceIte, reduceCtorEq]
    refine lok_join (fun x_ : Unit => ref32_Dominates_j1 = some r_) (fun x_ => ⟨38, mkS [], mkH []⟩) ?hyref32_Dominates_j1 ?hxref32_Dominates_j1
    case hyref32_Dominates_j1 =>
      rintro _ H0
      try dsimp only at H0 ⊢
      unfold ref32_Dominates_j1 at H0
      refine lok_rt E0 (⟨38, mkS [(4, .x (.one (.p (.val (.bool true)))))], mkH []⟩) ?_
      refine lok_ret ?_
      obtain rfl := Option.some.inj H0
      try simp only [thenL, blockL]
      exact fin_au _ (.inr rfl) [] (⟨38, mkS [(4, .x (.one (.p (.val (.bool true)))))], mkH []⟩) rfl rfl imp_au
    case hxref32_Dominates_j1 =>
      refine lok_rt E0 (⟨38, mkS [(2, .x (.one (.ptr 102 0))), (3, .x (.one (.ptr 103 0))), (5, .x (.one (.p (pi (0 : Int)))))], mkH [(102, .var [.p (.sl 1 (List.map encI a.Counts))]), (103, .var [.p (.sl 1 (List.map encI b.Counts))])]⟩) ?_
      refine lok_block ?_
      replace H0 := bind_some H0
      obtain ⟨v_1, hv_1, H0⟩ := H0
      refine lok_iter (fun x_ => ⟨38, mkS [(2, .x (.one (.ptr 102 0))), (3, .x (.one (.ptr 103 0))), (5, .x (.one (.p (pi x_))))], mkH [(102, .var [.p (.sl 1 (List.map encI a.Counts))]), (103, .var [.p (.sl 1 (List.map encI b.Counts))])]⟩) hv_1 imp_au ?_
      · rintro i o_1 H1 k_1
        unfold ref32_Dominates_l2 at H1
        try dsimp only at H1 ⊢
        refine lok_seq ?_
        refine lok_rt E0 (⟨38, mkS [(2, .x (.one (.ptr 102 0))), (3, .x (.one (.ptr 103 0))), (5, .x (.one (.p (pi i)))), (22, .x (.one (.p (.val (.bool (decide (i ≤ (imax (a.Counts.length : Int) (b.Counts.length : Int)))))))))], mkH [(102, .var [.p (.sl 1 (List.map encI a.Counts))]), (103, .var [.p (.sl 1 (List.map encI b.Counts))])]⟩) ?_
        refine lok_c (decide (i ≤ (imax (a.Counts.length : Int) (b.Counts.length : Int)))) ?_ ?_
        · intro b_7
          replace H1 := cpos H1 b_7
          refine lok_skip ?_
          try simp only [thenL, blockL, ↓reduceIte, reduceCtorEq]
          refine lok_seq ?_
          refine lok_block ?_
          replace H1 := bind_some H1
          obtain ⟨y1, h_2, H1⟩ := H1
          replace H1 := bind_some H1
          obtain ⟨y2, h_3, H1⟩ := H1
          replace H1 := bind_some H1
          obtain ⟨y3, h_4, H1⟩ := H1
          replace H1 := bind_some H1
          obtain ⟨y4, h_5, H1⟩ := H1
          refine lok_dt (Env.of E0 [⟨some 27, 32, [.agg [.p (.sl 1 (List.map encI a.Counts))], .one (.p (pi i))], [], [.one (.p (pi y1))], [], True, fun _ => ok_ref32_Below a i y1 h_2, []⟩,
      ⟨some 29, 30, [.agg [.p (.sl 1 (List.map encI b.Counts))]], [], [.one (.p (pi y2))], [], True, fun _ => ok_ref32_Count b y2 h_3, []⟩,
      ⟨some 33, 32, [.agg [.p (.sl 1 (List.map encI b.Counts))], .one (.p (pi i))], [], [.one (.p (pi y3))], [], True, fun _ => ok_ref32_Below b i y3 h_4, []⟩,
      ⟨some 35, 30, [.agg [.p (.sl 1 (List.map encI a.Counts))]], [], [.one (.p (pi y4))], [], True, fun _ => ok_ref32_Count a y4 h_5, []⟩]) 12 (⟨38, mkS [(2, .x (.one (.ptr 102 0))), (3, .x (.one (.ptr 103 0))), (5, .x (.one (.p (pi i)))), (37, .x (.one (.p (.val (.bool (decide ((IntKind.i64.wrap (y3 * y4)) < (IntKind.i64.wrap (y1 * y2)))))))))], mkH [(102, .var [.p (.sl 1 (List.map encI a.Counts))]), (103, .var [.p (.sl 1 (List.map encI b.Counts))])]⟩) (by kernel_rfl) (by kernel_rfl) ?_
          refine lok_c (decide ((IntKind.i64.wrap (y3 * y4)) < (IntKind.i64.wrap (y1 * y2)))) ?_ ?_
          · intro b_6
            replace H1 := cpos H1 b_6
            refine lok_rt E0 (⟨38, mkS [(4, .x (.one (.p (.val (.bool false)))))], mkH []⟩) ?_
            refine lok_ret ?_
            try simp only [thenL, blockL, ↓reduceIte, reduceCtorEq]
            have e_1 := k_1 _ (Option.some.inj H1).symm
            subst e_1
            try dsimp only at H0
            obtain rfl := Option.some.inj H0
            try simp only [thenL, blockL]
            exact fin_au _ (.inr rfl) [] (⟨38, mkS [(4, .x (.one (.p (.val (.bool false)))))], mkH []⟩) rfl rfl imp_au
          · intro b_6
            replace H1 := cneg H1 b_6
            refine lok_skip ?_
            try simp only [thenL, blockL, ↓reduceIte, reduceCtorEq]
            refine lok_rl E0 (⟨38, mkS [(2, .x (.one (.ptr 102 0))), (3, .x (.one (.ptr 103 0))), (5, .x (.one (.p (pi (IntKind.i64.wrap (i + (1 : Int)))))))], mkH [(102, .var [.p (.sl 1 (List.map encI a.Counts))]), (103, .var [.p (.sl 1 (List.map encI b.Counts))])]⟩) ?_
            try simp only [thenL, blockL, ↓reduceIte, reduceCtorEq]
            exact ⟨(IntKind.i64.wrap (i + (1 : Int))), (Option.some.inj H1).symm, imp_au⟩
        · intro b_7
          replace H1 := cneg H1 b_7
          refine lok_exit ?_
          try simp only [thenL, blockL, ↓reduceIte, reduceCtorEq]
          have e_1 := k_1 _ (Option.some.inj H1).symm
          subst e_1
          try dsimp only at H0
          try simp only [thenL, blockL, ↓reduceIte, reduceCtorEq]
          exact ⟨(), H0, imp_au⟩
theorem ok_mark_Light (l : List Int) (r_ : Bool) (H0 : mark_Light l = some r_) : CallOK Try.prog 9 [.one (.p (.sl 1 (List.map encI l)))] [] [.one (.p (.val (.bool r_)))] [] := by
  refine callOK (n := 6) (rs := [.tmp 2]) (nb := 0) (V := []) Try.func9 rfl (by kernel_rfl) rfl rfl rfl rfl (Nat.le_of_ble_eq_true rfl) (by decide) ?_
  unfold mark_Light at H0
  refine lok_rt E0 (⟨6, mkS [(0, .x (.one (.p (.sl 1 (List.map encI l)))))], mkH []⟩) ?_
  refine lok_rt E0 (⟨6, mkS [(2, .x (.one (.p (.val (.bool (decide ((l.length : Int) ≤ (600 : Int))))))))], mkH []⟩) ?_
  refine lok_ret ?_
  obtain rfl := Option.some.inj H0
  try simp only [thenL, blockL]
  exact fin_au _ (.inr rfl) [] (⟨6, mkS [(2, .x (.one (.p (.val (.bool (decide ((l.length : Int) ≤ (600 : Int))))))))], mkH []⟩) rfl rfl imp_au
set_option maxHeartbeats 4000000 in
theorem ok_law32_DistributionExact (t : List Int) (raw : api_Distribution) (scores : List Int) (score : Int) (most : Int) (share : api_Ratio) (r_ : Bool) (H0 : law32_DistributionExact t raw scores score most share = some r_) : CallOK Try.prog 8 [.one (.p (.sl 1 (List.map encI t))), .agg [.p (.sl 1 (List.map encI raw.Counts))], .one (.p (.sl 1 (List.map encI scores))), .one (.p (pi score)), .one (.p (pi most)), .agg [.p (pi share.Num), .p (pi share.Den)]] [] [.one (.p (.val (.bool r_)))] [] := by
  refine callOK (n := 282) (rs := [.tmp 12]) (nb := 0) (V := []) Try.func8 rfl (by kernel_rfl) rfl rfl rfl rfl (Nat.le_of_ble_eq_true rfl) (by decide) ?_
  unfold law32_DistributionExact at H0
  refine lok_rt E0 (⟨282, mkS [(0, .x (.one (.p (.sl 1 (List.map encI t))))), (2, .x (.one (.p (.sl 1 (List.map encI scores))))), (3, .x (.one (.p (pi score)))), (4, .x (.one (.p (pi most)))), (7, .x (.one (.ptr 107 0))), (11, .x (.one (.ptr 111 0)))], mkH [(107, .var [.p (.sl 1 (List.map encI raw.Counts))]), (111, .var [.p (pi share.Num), .p (pi share.Den)])]⟩) ?_
  refine lok_seq ?_
  replace H0 := bind_some H0
  obtain ⟨y, h_0, H0⟩ := H0
  refine lok_rt (Env.of E0 [⟨some 51, 9, [.one (.p (.sl 1 (List.map encI t)))], [], [.one (.p (.val (.bool y)))], [], True, fun _ => ok_mark_Light t y h_0, []⟩]) (⟨282, mkS [(0, .x (.one (.p (.sl 1 (List.map encI t))))), (2, .x (.one (.p (.sl 1 (List.map encI scores))))), (3, .x (.one (.p (pi score)))), (4, .x (.one (.p (pi most)))), (7, .x (.one (.ptr 107 0))), (11, .x (.one (.ptr 111 0))), (63, .x (.one (.p (.val (.bool (((!y) || (decide ((60 : Int) < (scores.length : Int)))) || (decide ((210 : Int) < (raw.Counts.length : Int)))))))))], mkH [(107, .var [.p (.sl 1 (List.map encI raw.Counts))]), (111, .var [.p (pi share.Num), .p (pi share.Den)])]⟩) ?_
  refine lok_c (((!y) || (decide ((60 : Int) < (scores.length : Int)))) || (decide ((210 : Int) < (raw.Counts.length : Int)))) ?_ ?_
  · intro b_53
    replace H0 := cpos H0 b_53
    replace H0 := bind_some H0
    obtain ⟨y1, h_1, H0⟩ := H0
    refine lok_rt (Env.of E0 [⟨some 64, 10, [], [], [.one (.p (.val (.bool y1)))], [], True, fun _ => ok_law32_sane y1 h_1, []⟩]) (⟨282, mkS [(12, .x (.one (.p (.val (.bool y1)))))], mkH []⟩) ?_
    refine lok_ret ?_
    obtain rfl := Option.some.inj H0
    try simp only [thenL, blockL]
    exact fin_au _ (.inr rfl) [] (⟨282, mkS [(12, .x (.one (.p (.val (.bool y1)))))], mkH []⟩) rfl rfl imp_au
  · intro b_53
    replace H0 := cneg H0 b_53
    refine lok_skip ?_
    try simp only [thenL, blockL, ↓reduceIte, reduceCtorEq]
    replace H0 := bind_some H0
    obtain ⟨y2, h_2, H0⟩ := H0
    refine lok_rt (Env.of E0 [⟨some 66, 11, [.one (.p (.sl 1 (List.map encI t)))], [], [.one (.ptr 0 0)], [some (.var [.p (.sl 1 (List.map encI y2.L)), .p (pi y2.At)])], True, fun _ => ok_mark_Roll t y2 h_2, []⟩]) (⟨282, mkS [(2, .x (.one (.p (.sl 1 (List.map encI scores))))), (3, .x (.one (.p (pi score)))), (4, .x (.one (.p (pi most)))), (7, .x (.one (.ptr 107 0))), (11, .x (.one (.ptr 111 0))), (13, .x (.one (.ptr 1066 0)))], mkH [(107, .var [.p (.sl 1 (List.map encI raw.Counts))]), (111, .var [.p (pi share.Num), .p (pi share.Den)]), (1066, .var [.p (.sl 1 (List.map encI y2.L)), .p (pi y2.At)])]⟩) ?_
    replace H0 := bind_some H0
    obtain ⟨⟨y3, y4⟩, h_3, H0⟩ := H0
    try dsimp only at H0
    refine lok_rt (Env.of E0 [⟨some 68, 12, [.one (.ptr 0 0), .one (.p (pi (8 : Int))), .one (.p (.val (.bool false)))], [.var [.p (.sl 1 (List.map encI y2.L)), .p (pi y2.At)]], [.agg [.p (.sl 1 (List.map encI y3.Counts))]], [some (.var [.p (.sl 1 (List.map encI y4.L)), .p (pi y4.At)])], True, fun _ => ok_mark_Dice_Distribution y2 (8 : Int) false (y3, y4) h_3, []⟩]) (⟨282, mkS [(2, .x (.one (.p (.sl 1 (List.map encI scores))))), (3, .x (.one (.p (pi score)))), (4, .x (.one (.p (pi most)))), (7, .x (.one (.ptr 107 0))), (11, .x (.one (.ptr 111 0))), (13, .x (.one (.ptr 1066 0))), (14, .x (.one (.ptr 114 0)))], mkH [(107, .var [.p (.sl 1 (List.map encI raw.Counts))]), (111, .var [.p (pi share.Num), .p (pi share.Den)]), (114, .var [.p (.sl 1 (List.map encI y3.Counts))]), (1066, .var [.p (.sl 1 (List.map encI y4.L)), .p (pi y4.At)])]⟩) ?_
    replace H0 := bind_some H0
    obtain ⟨⟨y5, y6⟩, h_4, H0⟩ := H0
    try dsimp only at H0
    refine lok_rt (Env.of E0 [⟨some 72, 17, [.one (.p (.sl 1 (List.map encI scores))), .one (.p (pi most))], [], [.agg [.p (.sl 1 (List.map encI y5.Counts))], .one (.p (pi y6))], [], True, fun _ => ok_distribution_Make scores most (y5, y6) h_4, []⟩]) (⟨282, mkS [(2, .x (.one (.p (.sl 1 (List.map encI scores))))), (3, .x (.one (.p (pi score)))), (4, .x (.one (.p (pi most)))), (7, .x (.one (.ptr 107 0))), (11, .x (.one (.ptr 111 0))), (13, .x (.one (.ptr 1066 0))), (14, .x (.one (.ptr 114 0))), (15, .x (.one (.ptr 115 0))), (16, .x (.one (.p (pi y6))))], mkH [(107, .var [.p (.sl 1 (List.map encI raw.Counts))]), (111, .var [.p (pi share.Num), .p (pi share.Den)]), (114, .var [.p (.sl 1 (List.map encI y3.Counts))]), (115, .var [.p (.sl 1 (List.map encI y5.Counts))]), (1066, .var [.p (.sl 1 (List.map encI y4.L)), .p (pi y4.At)])]⟩) ?_
    replace H0 := bind_some H0
    obtain ⟨⟨y7, y8⟩, h_5, H0⟩ := H0
    try dsimp only at H0
    refine lok_rt (Env.of E0 [⟨some 78, 25, [.one (.p (.sl 1 (List.map encI scores))), .one (.p (pi most))], [], [.agg [.p (.sl 1 (List.map encI y7.Counts))], .one (.p (pi y8))], [], True, fun _ => ok_ref32_Make scores most (y7, y8) h_5, []⟩]) (⟨282, mkS [(3, .x (.one (.p (pi score)))), (7, .x (.one (.ptr 107 0))), (11, .x (.one (.ptr 111 0))), (13, .x (.one (.ptr 1066 0))), (14, .x (.one (.ptr 114 0))), (15, .x (.one (.ptr 115 0))), (16, .x (.one (.p (pi y6)))), (17, .x (.one (.ptr 117 0))), (18, .x (.one (.p (pi y8))))], mkH [(107, .var [.p (.sl 1 (List.map encI raw.Counts))]), (111, .var [.p (pi share.Num), .p (pi share.Den)]), (114, .var [.p (.sl 1 (List.map encI y3.Counts))]), (115, .var [.p (.sl 1 (List.map encI y5.Counts))]), (117, .var [.p (.sl 1 (List.map encI y7.Counts))]), (1066, .var [.p (.sl 1 (List.map encI y4.L)), .p (pi y4.At)])]⟩) ?_
    refine lok_seq ?_
    replace H0 := bind_some H0
    obtain ⟨y9, h_6, H0⟩ := H0
    refine lok_rt (Env.of E0 [⟨some 83, 18, [.agg [.p (.sl 1 (List.map encI y5.Counts))], .agg [.p (.sl 1 (List.map encI y7.Counts))]], [], [.one (.p (.val (.bool y9)))], [], True, fun _ => ok_ref32_Same y5 y7 y9 h_6, []⟩]) (⟨282, mkS [(3, .x (.one (.p (pi score)))), (7, .x (.one (.ptr 107 0))), (11, .x (.one (.ptr 111 0))), (13, .x (.one (.ptr 1066 0))), (14, .x (.one (.ptr 114 0))), (17, .x (.one (.ptr 117 0))), (89, .x (.one (.p (.val (.bool ((!y9) || (y6 != y8)))))))], mkH [(107, .var [.p (.sl 1 (List.map encI raw.Counts))]), (111, .var [.p (pi share.Num), .p (pi share.Den)]), (114, .var [.p (.sl 1 (List.map encI y3.Counts))]), (117, .var [.p (.sl 1 (List.map encI y7.Counts))]), (1066, .var [.p (.sl 1 (List.map encI y4.L)), .p (pi y4.At)])]⟩) ?_
    refine lok_c ((!y9) || (y6 != y8)) ?_ ?_
    · intro b_52
      replace H0 := cpos H0 b_52
      refine lok_rt E0 (⟨282, mkS [(12, .x (.one (.p (.val (.bool false)))))], mkH []⟩) ?_
      refine lok_ret ?_
      obtain rfl := Option.some.inj H0
      try simp only [thenL, blockL]
      exact fin_au _ (.inr rfl) [] (⟨282, mkS [(12, .x (.one (.p (.val (.bool false)))))], mkH []⟩) rfl rfl imp_au
    · intro b_52
      replace H0 := cneg H0 b_52
      refine lok_skip ?_
      try simp only [thenL, blockL, ↓reduceIte, reduceCtorEq]
      replace H0 := bind_some H0
      obtain ⟨⟨y10, y11⟩, h_7, H0⟩ := H0
      try dsimp only at H0
      refine lok_et (Env.of E0 [⟨some 92, 26, [.one (.ptr 0 0), .one (.p (pi (5 : Int)))], [.var [.p (.sl 1 (List.map encI y4.L)), .p (pi y4.At)]], [.one (.p (pi y10))], [some (.var [.p (.sl 1 (List.map encI y11.L)), .p (pi y11.At)])], True, fun _ => ok_mark_Dice_Next y4 (5 : Int) (y10, y11) h_7, []⟩]) 282 [⟨[(11, .x (.one (.ptr 111 0)))], [(111, some (.var [.p (pi share.Num), .p (pi share.Den)]))], [(90, .x (.agg [.p (pi share.Num), .p (pi share.Den)]))], [], none⟩,
      ⟨[(13, .x (.one (.ptr 1066 0)))], [], [(91, .x (.one (.ptr 1066 0)))], [], none⟩,
      ⟨[(91, .x (.one (.ptr 1066 0)))], [(1066, some (.var [.p (.sl 1 (List.map encI y4.L)), .p (pi y4.At)]))], [(92, .x (.one (.p (pi y10))))], [(1066, some (.var [.p (.sl 1 (List.map encI y11.L)), .p (pi y11.At)]))], none⟩,
      ⟨[(92, .x (.one (.p (pi y10))))], [], [(93, .x (.agg [.p (pi y10), .p (pi (4 : Int))]))], [], none⟩,
      ⟨[], [], [(94, .x (.agg [.p (pi (1 : Int)), .p (pi (3 : Int))]))], [], none⟩,
      ⟨[], [], [(95, .x (.agg [.p (pi (-1 : Int)), .p (pi (2 : Int))]))], [], none⟩,
      ⟨[(90, .x (.agg [.p (pi share.Num), .p (pi share.Den)])), (93, .x (.agg [.p (pi y10), .p (pi (4 : Int))])), (94, .x (.agg [.p (pi (1 : Int)), .p (pi (3 : Int))])), (95, .x (.agg [.p (pi (-1 : Int)), .p (pi (2 : Int))]))], [], [(96, .x (.agg [.p (pi share.Num), .p (pi share.Den), .p (pi y10), .p (pi (4 : Int)), .p (pi (1 : Int)), .p (pi (3 : Int)), .p (pi (-1 : Int)), .p (pi (2 : Int))]))], [], none⟩,
      ⟨[], [(119, none)], [(19, .x (.one (.ptr 119 0)))], [(119, some (.var [.p (pi (0 : Int)), .p (pi (0 : Int)), .p (pi (0 : Int)), .p (pi (0 : Int)), .p (pi (0 : Int)), .p (pi (0 : Int)), .p (pi (0 : Int)), .p (pi (0 : Int))]))], some 119⟩] (⟨282, mkS [(3, .x (.one (.p (pi score)))), (7, .x (.one (.ptr 107 0))), (13, .x (.one (.ptr 1066 0))), (14, .x (.one (.ptr 114 0))), (17, .x (.one (.ptr 117 0))), (19, .x (.one (.ptr 119 0)))], mkH [(107, .var [.p (.sl 1 (List.map encI raw.Counts))]), (114, .var [.p (.sl 1 (List.map encI y3.Counts))]), (117, .var [.p (.sl 1 (List.map encI y7.Counts))]), (119, .var [.p (pi share.Num), .p (pi share.Den), .p (pi y10), .p (pi (4 : Int)), .p (pi (1 : Int)), .p (pi (3 : Int)), .p (pi (-1 : Int)), .p (pi (2 : Int))]), (1066, .var [.p (.sl 1 (List.map encI y11.L)), .p (pi y11.At)])]⟩) (by kernel_rfl) (by kernel_rfl) (by kernel_rfl) rfl rfl rfl ?_
      refine lok_join (fun x_ : Unit => law32_DistributionExact_j1 = some r_) (fun x_ => ⟨282, mkS [], mkH []⟩) ?hylaw32_DistributionExact_j1 ?hxlaw32_DistributionExact_j1
      case hylaw32_DistributionExact_j1 =>
        rintro _ H0
        try dsimp only at H0 ⊢
        unfold law32_DistributionExact_j1 at H0
        replace H0 := bind_some H0
        obtain ⟨y12, h_8, H0⟩ := H0
        refine lok_rt (Env.of E0 [⟨some 281, 10, [], [], [.one (.p (.val (.bool y12)))], [], True, fun _ => ok_law32_sane y12 h_8, []⟩]) (⟨282, mkS [(12, .x (.one (.p (.val (.bool y12)))))], mkH []⟩) ?_
        refine lok_ret ?_
        obtain rfl := Option.some.inj H0
        try simp only [thenL, blockL]
        exact fin_au _ (.inr rfl) [] (⟨282, mkS [(12, .x (.one (.p (.val (.bool y12)))))], mkH []⟩) rfl rfl imp_au
      case hxlaw32_DistributionExact_j1 =>
        replace H0 := bind_some H0
        obtain ⟨⟨y13, y14⟩, h_9, H0⟩ := H0
        try dsimp only at H0
        refine lok_et (Env.of E0 [⟨some 100, 27, [.one (.ptr 0 0), .agg [.p (.sl 1 (List.map encI y3.Counts))]], [.var [.p (.sl 1 (List.map encI y11.L)), .p (pi y11.At)]], [.agg [.p (.sl 1 (List.map encI y13.Counts))]], [some (.var [.p (.sl 1 (List.map encI y14.L)), .p (pi y14.At)])], True, fun _ => ok_law32_odd y11 y3 (y13, y14) h_9, []⟩]) 282 [⟨[(14, .x (.one (.ptr 114 0)))], [(114, some (.var [.p (.sl 1 (List.map encI y3.Counts))]))], [(97, .x (.agg [.p (.sl 1 (List.map encI y3.Counts))]))], [], none⟩,
      ⟨[(13, .x (.one (.ptr 1066 0)))], [], [(98, .x (.one (.ptr 1066 0)))], [], none⟩,
      ⟨[(14, .x (.one (.ptr 114 0)))], [(114, some (.var [.p (.sl 1 (List.map encI y3.Counts))]))], [(99, .x (.agg [.p (.sl 1 (List.map encI y3.Counts))]))], [], none⟩,
      ⟨[(98, .x (.one (.ptr 1066 0))), (99, .x (.agg [.p (.sl 1 (List.map encI y3.Counts))]))], [(1066, some (.var [.p (.sl 1 (List.map encI y11.L)), .p (pi y11.At)]))], [(100, .x (.agg [.p (.sl 1 (List.map encI y13.Counts))]))], [(1066, some (.var [.p (.sl 1 (List.map encI y14.L)), .p (pi y14.At)]))], none⟩,
      ⟨[(7, .x (.one (.ptr 107 0)))], [(107, some (.var [.p (.sl 1 (List.map encI raw.Counts))]))], [(101, .x (.agg [.p (.sl 1 (List.map encI raw.Counts))]))], [], none⟩,
      ⟨[(17, .x (.one (.ptr 117 0)))], [(117, some (.var [.p (.sl 1 (List.map encI y7.Counts))]))], [(102, .x (.agg [.p (.sl 1 (List.map encI y7.Counts))]))], [], none⟩,
      ⟨[(97, .x (.agg [.p (.sl 1 (List.map encI y3.Counts))])), (100, .x (.agg [.p (.sl 1 (List.map encI y13.Counts))])), (101, .x (.agg [.p (.sl 1 (List.map encI raw.Counts))])), (102, .x (.agg [.p (.sl 1 (List.map encI y7.Counts))]))], [], [(103, .x (.agg [.p (.sl 1 (List.map encI y3.Counts)), .p (.sl 1 (List.map encI y13.Counts)), .p (.sl 1 (List.map encI raw.Counts)), .p (.sl 1 (List.map encI y7.Counts))]))], [], none⟩,
      ⟨[], [], [(104, .x (.one (.p (pi (0 : Int)))))], [], none⟩] (⟨282, mkS [(3, .x (.one (.p (pi score)))), (13, .x (.one (.ptr 1066 0))), (14, .x (.one (.ptr 114 0))), (19, .x (.one (.ptr 119 0))), (103, .x (.agg [.p (.sl 1 (List.map encI y3.Counts)), .p (.sl 1 (List.map encI y13.Counts)), .p (.sl 1 (List.map encI raw.Counts)), .p (.sl 1 (List.map encI y7.Counts))])), (104, .x (.one (.p (pi (0 : Int)))))], mkH [(114, .var [.p (.sl 1 (List.map encI y3.Counts))]), (119, .var [.p (pi share.Num), .p (pi share.Den), .p (pi y10), .p (pi (4 : Int)), .p (pi (1 : Int)), .p (pi (3 : Int)), .p (pi (-1 : Int)), .p (pi (2 : Int))]), (1066, .var [.p (.sl 1 (List.map encI y14.L)), .p (pi y14.At)])]⟩) (by kernel_rfl) (by kernel_rfl) (by kernel_rfl) rfl rfl rfl ?_
        refine lok_block ?_
        replace H0 := bind_some H0
        obtain ⟨v_10, hv_10, H0⟩ := H0
        refine lok_iter (fun x_ => ⟨282, mkS [(3, .x (.one (.p (pi score)))), (13, .x (.one (.ptr 1066 0))), (14, .x (.one (.ptr 114 0))), (19, .x (.one (.ptr 119 0))), (103, .x (.agg [.p (.sl 1 (List.map encI y3.Counts)), .p (.sl 1 (List.map encI y13.Counts)), .p (.sl 1 (List.map encI raw.Counts)), .p (.sl 1 (List.map encI y7.Counts))])), (104, .x (.one (.p (pi x_.1))))], mkH [(114, .var [.p (.sl 1 (List.map encI y3.Counts))]), (119, .var [.p (pi share.Num), .p (pi share.Den), .p (pi y10), .p (pi (4 : Int)), .p (pi (1 : Int)), .p (pi (3 : Int)), .p (pi (-1 : Int)), .p (pi (2 : Int))]), (1066, .var [.p (.sl 1 (List.map encI x_.2.1)), .p (pi x_.2.2)])]⟩) hv_10 imp_au ?_
        · rintro ⟨v, w, w1⟩ o_1 H1 k_1
          unfold law32_DistributionExact_l7 at H1
          try dsimp only at H1 ⊢
          refine lok_rt E0 (⟨282, mkS [(3, .x (.one (.p (pi score)))), (13, .x (.one (.ptr 1066 0))), (14, .x (.one (.ptr 114 0))), (19, .x (.one (.ptr 119 0))), (103, .x (.agg [.p (.sl 1 (List.map encI y3.Counts)), .p (.sl 1 (List.map encI y13.Counts)), .p (.sl 1 (List.map encI raw.Counts)), .p (.sl 1 (List.map encI y7.Counts))])), (104, .x (.one (.p (pi v)))), (105, .x (.one (.p (.val (.bool (decide (v < (4 : Int))))))))], mkH [(114, .var [.p (.sl 1 (List.map encI y3.Counts))]), (119, .var [.p (pi share.Num), .p (pi share.Den), .p (pi y10), .p (pi (4 : Int)), .p (pi (1 : Int)), .p (pi (3 : Int)), .p (pi (-1 : Int)), .p (pi (2 : Int))]), (1066, .var [.p (.sl 1 (List.map encI w)), .p (pi w1)])]⟩) ?_
          refine lok_seq ?_
          refine lok_c (decide (v < (4 : Int))) ?_ ?_
          · intro b_51
            replace H1 := cpos H1 b_51
            refine lok_skip ?_
            try simp only [thenL, blockL, ↓reduceIte, reduceCtorEq]
            refine lok_join (fun x_ : (List Int) × Int => law32_DistributionExact_j2 v x_.1 x_.2 = some o_1) (fun x_ => ⟨282, mkS [(3, .x (.one (.p (pi score)))), (13, .x (.one (.ptr 1066 0))), (14, .x (.one (.ptr 114 0))), (19, .x (.one (.ptr 119 0))), (103, .x (.agg [.p (.sl 1 (List.map encI y3.Counts)), .p (.sl 1 (List.map encI y13.Counts)), .p (.sl 1 (List.map encI raw.Counts)), .p (.sl 1 (List.map encI y7.Counts))])), (104, .x (.one (.p (pi v))))], mkH [(114, .var [.p (.sl 1 (List.map encI y3.Counts))]), (119, .var [.p (pi share.Num), .p (pi share.Den), .p (pi y10), .p (pi (4 : Int)), .p (pi (1 : Int)), .p (pi (3 : Int)), .p (pi (-1 : Int)), .p (pi (2 : Int))]), (1066, .var [.p (.sl 1 (List.map encI x_.1)), .p (pi x_.2)])]⟩) ?hylaw32_DistributionExact_j2 ?hxlaw32_DistributionExact_j2
            case hylaw32_DistributionExact_j2 =>
              rintro ⟨w2, w3⟩ H1
              try dsimp only at H1 ⊢
              unfold law32_DistributionExact_j2 at H1
              refine lok_rl E0 (⟨282, mkS [(3, .x (.one (.p (pi score)))), (13, .x (.one (.ptr 1066 0))), (14, .x (.one (.ptr 114 0))), (19, .x (.one (.ptr 119 0))), (103, .x (.agg [.p (.sl 1 (List.map encI y3.Counts)), .p (.sl 1 (List.map encI y13.Counts)), .p (.sl 1 (List.map encI raw.Counts)), .p (.sl 1 (List.map encI y7.Counts))])), (104, .x (.one (.p (pi (IntKind.i64.wrap (v + (1 : Int)))))))], mkH [(114, .var [.p (.sl 1 (List.map encI y3.Counts))]), (119, .var [.p (pi share.Num), .p (pi share.Den), .p (pi y10), .p (pi (4 : Int)), .p (pi (1 : Int)), .p (pi (3 : Int)), .p (pi (-1 : Int)), .p (pi (2 : Int))]), (1066, .var [.p (.sl 1 (List.map encI w2)), .p (pi w3)])]⟩) ?_
              try simp only [thenL, blockL, ↓reduceIte, reduceCtorEq]
              exact ⟨((IntKind.i64.wrap (v + (1 : Int))), w2, w3), (Option.some.inj H1).symm, imp_au⟩
            case hxlaw32_DistributionExact_j2 =>
              refine lok_block ?_
              replace H1 := req_some H1
              obtain ⟨q_50, H1⟩ := H1
              refine lok_rt E0 (⟨282, mkS [(3, .x (.one (.p (pi score)))), (13, .x (.one (.ptr 1066 0))), (14, .x (.one (.ptr 114 0))), (19, .x (.one (.ptr 119 0))), (21, .x (.one (.ptr 121 0))), (103, .x (.agg [.p (.sl 1 (List.map encI y3.Counts)), .p (.sl 1 (List.map encI y13.Counts)), .p (.sl 1 (List.map encI raw.Counts)), .p (.sl 1 (List.map encI y7.Counts))])), (104, .x (.one (.p (pi v))))], mkH [(114, .var [.p (.sl 1 (List.map encI y3.Counts))]), (119, .var [.p (pi share.Num), .p (pi share.Den), .p (pi y10), .p (pi (4 : Int)), .p (pi (1 : Int)), .p (pi (3 : Int)), .p (pi (-1 : Int)), .p (pi (2 : Int))]), (121, .var [.p (.sl 1 (List.map encI ((ix [y3, y13, raw, y7] v).Counts)))]), (1066, .var [.p (.sl 1 (List.map encI w)), .p (pi w1)])]⟩) ?_
              refine lok_seq ?_
              replace H1 := bind_some H1
              obtain ⟨y15, h_11, H1⟩ := H1
              replace H1 := bind_some H1
              obtain ⟨y16, h_12, H1⟩ := H1
              replace H1 := req_some H1
              obtain ⟨⟨q_48, q_49⟩, H1⟩ := H1
              refine lok_dt (Env.of E0 [⟨some 108, 28, [.agg [.p (.sl 1 (List.map encI ((ix [y3, y13, raw, y7] v).Counts)))]], [], [.one (.p (.val (.bool y15)))], [], True, fun _ => ok_distribution_Valid (ix [y3, y13, raw, y7] v) y15 h_11, []⟩,
      ⟨some 110, 29, [.agg [.p (.sl 1 (List.map encI ((ix [y3, y13, raw, y7] v).Counts)))]], [], [.one (.p (.val (.bool y16)))], [], True, fun _ => ok_ref32_Valid (ix [y3, y13, raw, y7] v) y16 h_12, []⟩,
      ⟨some 114, 15, [.agg [.p (.sl 1 (List.map encI ((ix [y3, y13, raw, y7] v).Counts)))]], [], [.one (.p (pi ((distribution_Count (ix [y3, y13, raw, y7] v)).getD default)))], [], (distribution_Count (ix [y3, y13, raw, y7] v)).isSome = true, fun h => ok_distribution_Count (ix [y3, y13, raw, y7] v) _ (isSome_get h), []⟩,
      ⟨some 116, 30, [.agg [.p (.sl 1 (List.map encI ((ix [y3, y13, raw, y7] v).Counts)))]], [], [.one (.p (pi ((ref32_Count (ix [y3, y13, raw, y7] v)).getD default)))], [], (ref32_Count (ix [y3, y13, raw, y7] v)).isSome = true, fun h => ok_ref32_Count (ix [y3, y13, raw, y7] v) _ (isSome_get h), []⟩]) 9 (⟨282, mkS [(3, .x (.one (.p (pi score)))), (13, .x (.one (.ptr 1066 0))), (14, .x (.one (.ptr 114 0))), (19, .x (.one (.ptr 119 0))), (21, .x (.one (.ptr 121 0))), (103, .x (.agg [.p (.sl 1 (List.map encI y3.Counts)), .p (.sl 1 (List.map encI y13.Counts)), .p (.sl 1 (List.map encI raw.Counts)), .p (.sl 1 (List.map encI y7.Counts))])), (104, .x (.one (.p (pi v)))), (118, .x (.one (.p (.val (.bool ((!(y15 == y16)) || (((distribution_Count (ix [y3, y13, raw, y7] v)).getD default) != ((ref32_Count (ix [y3, y13, raw, y7] v)).getD default))))))))], mkH [(114, .var [.p (.sl 1 (List.map encI y3.Counts))]), (119, .var [.p (pi share.Num), .p (pi share.Den), .p (pi y10), .p (pi (4 : Int)), .p (pi (1 : Int)), .p (pi (3 : Int)), .p (pi (-1 : Int)), .p (pi (2 : Int))]), (121, .var [.p (.sl 1 (List.map encI ((ix [y3, y13, raw, y7] v).Counts)))]), (1066, .var [.p (.sl 1 (List.map encI w)), .p (pi w1)])]⟩) (by kernel_rfl) (by kernel_rfl) ?_
              refine lok_c ((!(y15 == y16)) || (((distribution_Count (ix [y3, y13, raw, y7] v)).getD default) != ((ref32_Count (ix [y3, y13, raw, y7] v)).getD default))) ?_ ?_
              · intro b_47
                replace H1 := cpos H1 b_47
                refine lok_rt E0 (⟨282, mkS [(12, .x (.one (.p (.val (.bool false)))))], mkH []⟩) ?_
                refine lok_ret ?_
                try simp only [thenL, blockL, ↓reduceIte, reduceCtorEq]
                have e_1 := k_1 _ (Option.some.inj H1).symm
                subst e_1
                try dsimp only at H0
                obtain rfl := Option.some.inj H0
                try simp only [thenL, blockL]
                exact fin_au _ (.inr rfl) [] (⟨282, mkS [(12, .x (.one (.p (.val (.bool false)))))], mkH []⟩) rfl rfl imp_au
              · intro b_47
                replace H1 := cneg H1 b_47
                refine lok_skip ?_
                try simp only [thenL, blockL, ↓reduceIte, reduceCtorEq]
                refine lok_join (fun x_ : (List Int) × Int => law32_DistributionExact_j5 raw share y3 y7 y10 y13 v x_.1 x_.2 = some o_1) (fun x_ => ⟨282, mkS [(3, .x (.one (.p (pi score)))), (13, .x (.one (.ptr 1066 0))), (14, .x (.one (.ptr 114 0))), (19, .x (.one (.ptr 119 0))), (21, .x (.one (.ptr 121 0))), (103, .x (.agg [.p (.sl 1 (List.map encI y3.Counts)), .p (.sl 1 (List.map encI y13.Counts)), .p (.sl 1 (List.map encI raw.Counts)), .p (.sl 1 (List.map encI y7.Counts))])), (104, .x (.one (.p (pi v))))], mkH [(114, .var [.p (.sl 1 (List.map encI y3.Counts))]), (119, .var [.p (pi share.Num), .p (pi share.Den), .p (pi y10), .p (pi (4 : Int)), .p (pi (1 : Int)), .p (pi (3 : Int)), .p (pi (-1 : Int)), .p (pi (2 : Int))]), (121, .var [.p (.sl 1 (List.map encI ((ix [y3, y13, raw, y7] v).Counts)))]), (1066, .var [.p (.sl 1 (List.map encI x_.1)), .p (pi x_.2)])]⟩) ?hylaw32_DistributionExact_j5 ?hxlaw32_DistributionExact_j5
                case hylaw32_DistributionExact_j5 =>
                  rintro ⟨w4, w5⟩ H1
                  try dsimp only at H1 ⊢
                  unfold law32_DistributionExact_j5 at H1
                  replace H1 := bind_some H1
                  obtain ⟨⟨y17, y18⟩, h_13, H1⟩ := H1
                  try dsimp only at H1
                  refine lok_rt (Env.of E0 [⟨some 159, 19, [.agg [.p (.sl 1 (List.map encI ((ix [y3, y13, raw, y7] v).Counts)))]], [], [.agg [.p (pi y17.Num), .p (pi y17.Den)], .one (.p (pi y18))], [], True, fun _ => ok_distribution_Mean (ix [y3, y13, raw, y7] v) (y17, y18) h_13, []⟩]) (⟨282, mkS [(3, .x (.one (.p (pi score)))), (13, .x (.one (.ptr 1066 0))), (14, .x (.one (.ptr 114 0))), (19, .x (.one (.ptr 119 0))), (21, .x (.one (.ptr 121 0))), (28, .x (.one (.ptr 128 0))), (29, .x (.one (.p (pi y18)))), (103, .x (.agg [.p (.sl 1 (List.map encI y3.Counts)), .p (.sl 1 (List.map encI y13.Counts)), .p (.sl 1 (List.map encI raw.Counts)), .p (.sl 1 (List.map encI y7.Counts))])), (104, .x (.one (.p (pi v))))], mkH [(114, .var [.p (.sl 1 (List.map encI y3.Counts))]), (119, .var [.p (pi share.Num), .p (pi share.Den), .p (pi y10), .p (pi (4 : Int)), .p (pi (1 : Int)), .p (pi (3 : Int)), .p (pi (-1 : Int)), .p (pi (2 : Int))]), (121, .var [.p (.sl 1 (List.map encI ((ix [y3, y13, raw, y7] v).Counts)))]), (128, .var [.p (pi y17.Num), .p (pi y17.Den)]), (1066, .var [.p (.sl 1 (List.map encI w4)), .p (pi w5)])]⟩) ?_
                  replace H1 := bind_some H1
                  obtain ⟨⟨y19, y20⟩, h_14, H1⟩ := H1
                  try dsimp only at H1
                  refine lok_rt (Env.of E0 [⟨some 164, 33, [.agg [.p (.sl 1 (List.map encI ((ix [y3, y13, raw, y7] v).Counts)))]], [], [.agg [.p (pi y19.Num), .p (pi y19.Den)], .one (.p (pi y20))], [], True, fun _ => ok_ref32_Mean (ix [y3, y13, raw, y7] v) (y19, y20) h_14, []⟩]) (⟨282, mkS [(3, .x (.one (.p (pi score)))), (13, .x (.one (.ptr 1066 0))), (14, .x (.one (.ptr 114 0))), (19, .x (.one (.ptr 119 0))), (21, .x (.one (.ptr 121 0))), (28, .x (.one (.ptr 128 0))), (29, .x (.one (.p (pi y18)))), (30, .x (.one (.ptr 130 0))), (31, .x (.one (.p (pi y20)))), (103, .x (.agg [.p (.sl 1 (List.map encI y3.Counts)), .p (.sl 1 (List.map encI y13.Counts)), .p (.sl 1 (List.map encI raw.Counts)), .p (.sl 1 (List.map encI y7.Counts))])), (104, .x (.one (.p (pi v))))], mkH [(114, .var [.p (.sl 1 (List.map encI y3.Counts))]), (119, .var [.p (pi share.Num), .p (pi share.Den), .p (pi y10), .p (pi (4 : Int)), .p (pi (1 : Int)), .p (pi (3 : Int)), .p (pi (-1 : Int)), .p (pi (2 : Int))]), (121, .var [.p (.sl 1 (List.map encI ((ix [y3, y13, raw, y7] v).Counts)))]), (128, .var [.p (pi y17.Num), .p (pi y17.Den)]), (130, .var [.p (pi y19.Num), .p (pi y19.Den)]), (1066, .var [.p (.sl 1 (List.map encI w4)), .p (pi w5)])]⟩) ?_
                  replace H1 := bind_some H1
                  obtain ⟨⟨y21, y22⟩, h_15, H1⟩ := H1
                  try dsimp only at H1
                  refine lok_rt (Env.of E0 [⟨some 169, 34, [.agg [.p (.sl 1 (List.map encI ((ix [y3, y13, raw, y7] v).Counts)))]], [], [.agg [.p (pi y21.Num), .p (pi y21.Den)], .one (.p (pi y22))], [], True, fun _ => ok_distribution_Deviation (ix [y3, y13, raw, y7] v) (y21, y22) h_15, []⟩]) (⟨282, mkS [(3, .x (.one (.p (pi score)))), (13, .x (.one (.ptr 1066 0))), (14, .x (.one (.ptr 114 0))), (19, .x (.one (.ptr 119 0))), (21, .x (.one (.ptr 121 0))), (28, .x (.one (.ptr 128 0))), (29, .x (.one (.p (pi y18)))), (30, .x (.one (.ptr 130 0))), (31, .x (.one (.p (pi y20)))), (32, .x (.one (.ptr 132 0))), (33, .x (.one (.p (pi y22)))), (103, .x (.agg [.p (.sl 1 (List.map encI y3.Counts)), .p (.sl 1 (List.map encI y13.Counts)), .p (.sl 1 (List.map encI raw.Counts)), .p (.sl 1 (List.map encI y7.Counts))])), (104, .x (.one (.p (pi v))))], mkH [(114, .var [.p (.sl 1 (List.map encI y3.Counts))]), (119, .var [.p (pi share.Num), .p (pi share.Den), .p (pi y10), .p (pi (4 : Int)), .p (pi (1 : Int)), .p (pi (3 : Int)), .p (pi (-1 : Int)), .p (pi (2 : Int))]), (121, .var [.p (.sl 1 (List.map encI ((ix [y3, y13, raw, y7] v).Counts)))]), (128, .var [.p (pi y17.Num), .p (pi y17.Den)]), (130, .var [.p (pi y19.Num), .p (pi y19.Den)]), (132, .var [.p (pi y21.Num), .p (pi y21.Den)]), (1066, .var [.p (.sl 1 (List.map encI w4)), .p (pi w5)])]⟩) ?_
                  replace H1 := bind_some H1
                  obtain ⟨⟨y23, y24⟩, h_16, H1⟩ := H1
                  try dsimp only at H1
                  refine lok_rt (Env.of E0 [⟨some 174, 35, [.agg [.p (.sl 1 (List.map encI ((ix [y3, y13, raw, y7] v).Counts)))]], [], [.agg [.p (pi y23.Num), .p (pi y23.Den)], .one (.p (pi y24))], [], True, fun _ => ok_ref32_Deviation (ix [y3, y13, raw, y7] v) (y23, y24) h_16, []⟩]) (⟨282, mkS [(3, .x (.one (.p (pi score)))), (13, .x (.one (.ptr 1066 0))), (14, .x (.one (.ptr 114 0))), (19, .x (.one (.ptr 119 0))), (21, .x (.one (.ptr 121 0))), (28, .x (.one (.ptr 128 0))), (29, .x (.one (.p (pi y18)))), (30, .x (.one (.ptr 130 0))), (31, .x (.one (.p (pi y20)))), (32, .x (.one (.ptr 132 0))), (33, .x (.one (.p (pi y22)))), (34, .x (.one (.ptr 134 0))), (35, .x (.one (.p (pi y24)))), (103, .x (.agg [.p (.sl 1 (List.map encI y3.Counts)), .p (.sl 1 (List.map encI y13.Counts)), .p (.sl 1 (List.map encI raw.Counts)), .p (.sl 1 (List.map encI y7.Counts))])), (104, .x (.one (.p (pi v))))], mkH [(114, .var [.p (.sl 1 (List.map encI y3.Counts))]), (119, .var [.p (pi share.Num), .p (pi share.Den), .p (pi y10), .p (pi (4 : Int)), .p (pi (1 : Int)), .p (pi (3 : Int)), .p (pi (-1 : Int)), .p (pi (2 : Int))]), (121, .var [.p (.sl 1 (List.map encI ((ix [y3, y13, raw, y7] v).Counts)))]), (128, .var [.p (pi y17.Num), .p (pi y17.Den)]), (130, .var [.p (pi y19.Num), .p (pi y19.Den)]), (132, .var [.p (pi y21.Num), .p (pi y21.Den)]), (134, .var [.p (pi y23.Num), .p (pi y23.Den)]), (1066, .var [.p (.sl 1 (List.map encI w4)), .p (pi w5)])]⟩) ?_
                  refine lok_seq ?_
                  refine lok_rt E0 (⟨282, mkS [(3, .x (.one (.p (pi score)))), (13, .x (.one (.ptr 1066 0))), (14, .x (.one (.ptr 114 0))), (19, .x (.one (.ptr 119 0))), (21, .x (.one (.ptr 121 0))), (103, .x (.agg [.p (.sl 1 (List.map encI y3.Counts)), .p (.sl 1 (List.map encI y13.Counts)), .p (.sl 1 (List.map encI raw.Counts)), .p (.sl 1 (List.map encI y7.Counts))])), (104, .x (.one (.p (pi v)))), (194, .x (.one (.p (.val (.bool ((((!((y17.Num == y19.Num) && (y17.Den == y19.Den))) || (y18 != y20)) || (!((y21.Num == y23.Num) && (y21.Den == y23.Den)))) || (y22 != y24)))))))], mkH [(114, .var [.p (.sl 1 (List.map encI y3.Counts))]), (119, .var [.p (pi share.Num), .p (pi share.Den), .p (pi y10), .p (pi (4 : Int)), .p (pi (1 : Int)), .p (pi (3 : Int)), .p (pi (-1 : Int)), .p (pi (2 : Int))]), (121, .var [.p (.sl 1 (List.map encI ((ix [y3, y13, raw, y7] v).Counts)))]), (1066, .var [.p (.sl 1 (List.map encI w4)), .p (pi w5)])]⟩) ?_
                  refine lok_c ((((!((y17.Num == y19.Num) && (y17.Den == y19.Den))) || (y18 != y20)) || (!((y21.Num == y23.Num) && (y21.Den == y23.Den)))) || (y22 != y24)) ?_ ?_
                  · intro b_36
                    replace H1 := cpos H1 b_36
                    refine lok_rt E0 (⟨282, mkS [(12, .x (.one (.p (.val (.bool false)))))], mkH []⟩) ?_
                    refine lok_ret ?_
                    try simp only [thenL, blockL, ↓reduceIte, reduceCtorEq]
                    have e_1 := k_1 _ (Option.some.inj H1).symm
                    subst e_1
                    try dsimp only at H0
                    obtain rfl := Option.some.inj H0
                    try simp only [thenL, blockL]
                    exact fin_au _ (.inr rfl) [] (⟨282, mkS [(12, .x (.one (.p (.val (.bool false)))))], mkH []⟩) rfl rfl imp_au
                  · intro b_36
                    replace H1 := cneg H1 b_36
                    refine lok_skip ?_
                    try simp only [thenL, blockL, ↓reduceIte, reduceCtorEq]
                    refine lok_join (fun x_ : Unit => law32_DistributionExact_j3 raw y3 y7 y13 v w4 w5 = some o_1) (fun x_ => ⟨282, mkS [(3, .x (.one (.p (pi score)))), (13, .x (.one (.ptr 1066 0))), (14, .x (.one (.ptr 114 0))), (19, .x (.one (.ptr 119 0))), (21, .x (.one (.ptr 121 0))), (103, .x (.agg [.p (.sl 1 (List.map encI y3.Counts)), .p (.sl 1 (List.map encI y13.Counts)), .p (.sl 1 (List.map encI raw.Counts)), .p (.sl 1 (List.map encI y7.Counts))])), (104, .x (.one (.p (pi v))))], mkH [(114, .var [.p (.sl 1 (List.map encI y3.Counts))]), (119, .var [.p (pi share.Num), .p (pi share.Den), .p (pi y10), .p (pi (4 : Int)), .p (pi (1 : Int)), .p (pi (3 : Int)), .p (pi (-1 : Int)), .p (pi (2 : Int))]), (121, .var [.p (.sl 1 (List.map encI ((ix [y3, y13, raw, y7] v).Counts)))]), (1066, .var [.p (.sl 1 (List.map encI w4)), .p (pi w5)])]⟩) ?hylaw32_DistributionExact_j3 ?hxlaw32_DistributionExact_j3
                    case hylaw32_DistributionExact_j3 =>
                      rintro _ H1
                      try dsimp only at H1 ⊢
                      unfold law32_DistributionExact_j3 at H1
                      replace H1 := bind_some H1
                      obtain ⟨⟨y25, y26⟩, h_17, H1⟩ := H1
                      try dsimp only at H1
                      refine lok_rt (Env.of E0 [⟨some 223, 20, [.agg [.p (.sl 1 (List.map encI ((ix [y3, y13, raw, y7] v).Counts)))], .agg [.p (.sl 1 (List.map encI y3.Counts))]], [], [.agg [.p (.sl 1 (List.map encI y25.Counts))], .one (.p (pi y26))], [], True, fun _ => ok_distribution_Add (ix [y3, y13, raw, y7] v) y3 (y25, y26) h_17, []⟩]) (⟨282, mkS [(3, .x (.one (.p (pi score)))), (13, .x (.one (.ptr 1066 0))), (14, .x (.one (.ptr 114 0))), (19, .x (.one (.ptr 119 0))), (21, .x (.one (.ptr 121 0))), (42, .x (.one (.ptr 142 0))), (43, .x (.one (.p (pi y26)))), (103, .x (.agg [.p (.sl 1 (List.map encI y3.Counts)), .p (.sl 1 (List.map encI y13.Counts)), .p (.sl 1 (List.map encI raw.Counts)), .p (.sl 1 (List.map encI y7.Counts))])), (104, .x (.one (.p (pi v))))], mkH [(114, .var [.p (.sl 1 (List.map encI y3.Counts))]), (119, .var [.p (pi share.Num), .p (pi share.Den), .p (pi y10), .p (pi (4 : Int)), .p (pi (1 : Int)), .p (pi (3 : Int)), .p (pi (-1 : Int)), .p (pi (2 : Int))]), (121, .var [.p (.sl 1 (List.map encI ((ix [y3, y13, raw, y7] v).Counts)))]), (142, .var [.p (.sl 1 (List.map encI y25.Counts))]), (1066, .var [.p (.sl 1 (List.map encI w4)), .p (pi w5)])]⟩) ?_
                      replace H1 := bind_some H1
                      obtain ⟨⟨y27, y28⟩, h_18, H1⟩ := H1
                      try dsimp only at H1
                      refine lok_rt (Env.of E0 [⟨some 229, 37, [.agg [.p (.sl 1 (List.map encI ((ix [y3, y13, raw, y7] v).Counts)))], .agg [.p (.sl 1 (List.map encI y3.Counts))]], [], [.agg [.p (.sl 1 (List.map encI y27.Counts))], .one (.p (pi y28))], [], True, fun _ => ok_ref32_Add (ix [y3, y13, raw, y7] v) y3 (y27, y28) h_18, []⟩]) (⟨282, mkS [(3, .x (.one (.p (pi score)))), (13, .x (.one (.ptr 1066 0))), (14, .x (.one (.ptr 114 0))), (19, .x (.one (.ptr 119 0))), (21, .x (.one (.ptr 121 0))), (42, .x (.one (.ptr 142 0))), (43, .x (.one (.p (pi y26)))), (44, .x (.one (.ptr 144 0))), (45, .x (.one (.p (pi y28)))), (103, .x (.agg [.p (.sl 1 (List.map encI y3.Counts)), .p (.sl 1 (List.map encI y13.Counts)), .p (.sl 1 (List.map encI raw.Counts)), .p (.sl 1 (List.map encI y7.Counts))])), (104, .x (.one (.p (pi v))))], mkH [(114, .var [.p (.sl 1 (List.map encI y3.Counts))]), (119, .var [.p (pi share.Num), .p (pi share.Den), .p (pi y10), .p (pi (4 : Int)), .p (pi (1 : Int)), .p (pi (3 : Int)), .p (pi (-1 : Int)), .p (pi (2 : Int))]), (121, .var [.p (.sl 1 (List.map encI ((ix [y3, y13, raw, y7] v).Counts)))]), (142, .var [.p (.sl 1 (List.map encI y25.Counts))]), (144, .var [.p (.sl 1 (List.map encI y27.Counts))]), (1066, .var [.p (.sl 1 (List.map encI w4)), .p (pi w5)])]⟩) ?_
                      replace H1 := bind_some H1
                      obtain ⟨⟨y29, y30⟩, h_19, H1⟩ := H1
                      try dsimp only at H1
                      refine lok_rt (Env.of E0 [⟨some 234, 24, [.agg [.p (.sl 1 (List.map encI ((ix [y3, y13, raw, y7] v).Counts)))]], [], [.agg [.p (.sl 1 (List.map encI y29.Counts))], .one (.p (pi y30))], [], True, fun _ => ok_distribution_Smooth (ix [y3, y13, raw, y7] v) (y29, y30) h_19, []⟩]) (⟨282, mkS [(3, .x (.one (.p (pi score)))), (13, .x (.one (.ptr 1066 0))), (14, .x (.one (.ptr 114 0))), (19, .x (.one (.ptr 119 0))), (21, .x (.one (.ptr 121 0))), (42, .x (.one (.ptr 142 0))), (43, .x (.one (.p (pi y26)))), (44, .x (.one (.ptr 144 0))), (45, .x (.one (.p (pi y28)))), (46, .x (.one (.ptr 146 0))), (47, .x (.one (.p (pi y30)))), (103, .x (.agg [.p (.sl 1 (List.map encI y3.Counts)), .p (.sl 1 (List.map encI y13.Counts)), .p (.sl 1 (List.map encI raw.Counts)), .p (.sl 1 (List.map encI y7.Counts))])), (104, .x (.one (.p (pi v))))], mkH [(114, .var [.p (.sl 1 (List.map encI y3.Counts))]), (119, .var [.p (pi share.Num), .p (pi share.Den), .p (pi y10), .p (pi (4 : Int)), .p (pi (1 : Int)), .p (pi (3 : Int)), .p (pi (-1 : Int)), .p (pi (2 : Int))]), (121, .var [.p (.sl 1 (List.map encI ((ix [y3, y13, raw, y7] v).Counts)))]), (142, .var [.p (.sl 1 (List.map encI y25.Counts))]), (144, .var [.p (.sl 1 (List.map encI y27.Counts))]), (146, .var [.p (.sl 1 (List.map encI y29.Counts))]), (1066, .var [.p (.sl 1 (List.map encI w4)), .p (pi w5)])]⟩) ?_
                      replace H1 := bind_some H1
                      obtain ⟨⟨y31, y32⟩, h_20, H1⟩ := H1
                      try dsimp only at H1
                      refine lok_rt (Env.of E0 [⟨some 239, 38, [.agg [.p (.sl 1 (List.map encI ((ix [y3, y13, raw, y7] v).Counts)))]], [], [.agg [.p (.sl 1 (List.map encI y31.Counts))], .one (.p (pi y32))], [], True, fun _ => ok_ref32_Smooth (ix [y3, y13, raw, y7] v) (y31, y32) h_20, []⟩]) (⟨282, mkS [(3, .x (.one (.p (pi score)))), (13, .x (.one (.ptr 1066 0))), (14, .x (.one (.ptr 114 0))), (19, .x (.one (.ptr 119 0))), (21, .x (.one (.ptr 121 0))), (42, .x (.one (.ptr 142 0))), (43, .x (.one (.p (pi y26)))), (44, .x (.one (.ptr 144 0))), (45, .x (.one (.p (pi y28)))), (46, .x (.one (.ptr 146 0))), (47, .x (.one (.p (pi y30)))), (48, .x (.one (.ptr 148 0))), (49, .x (.one (.p (pi y32)))), (103, .x (.agg [.p (.sl 1 (List.map encI y3.Counts)), .p (.sl 1 (List.map encI y13.Counts)), .p (.sl 1 (List.map encI raw.Counts)), .p (.sl 1 (List.map encI y7.Counts))])), (104, .x (.one (.p (pi v))))], mkH [(114, .var [.p (.sl 1 (List.map encI y3.Counts))]), (119, .var [.p (pi share.Num), .p (pi share.Den), .p (pi y10), .p (pi (4 : Int)), .p (pi (1 : Int)), .p (pi (3 : Int)), .p (pi (-1 : Int)), .p (pi (2 : Int))]), (121, .var [.p (.sl 1 (List.map encI ((ix [y3, y13, raw, y7] v).Counts)))]), (142, .var [.p (.sl 1 (List.map encI y25.Counts))]), (144, .var [.p (.sl 1 (List.map encI y27.Counts))]), (146, .var [.p (.sl 1 (List.map encI y29.Counts))]), (148, .var [.p (.sl 1 (List.map encI y31.Counts))]), (1066, .var [.p (.sl 1 (List.map encI w4)), .p (pi w5)])]⟩) ?_
                      replace H1 := bind_some H1
                      obtain ⟨y33, h_21, H1⟩ := H1
                      replace H1 := req_some H1
                      obtain ⟨⟨q_23, q_24, q_25, q_26, q_27⟩, H1⟩ := H1
                      refine lok_dt (Env.of E0 [⟨some 244, 18, [.agg [.p (.sl 1 (List.map encI y25.Counts))], .agg [.p (.sl 1 (List.map encI y27.Counts))]], [], [.one (.p (.val (.bool y33)))], [], True, fun _ => ok_ref32_Same y25 y27 y33 h_21, []⟩,
      ⟨some 254, 18, [.agg [.p (.sl 1 (List.map encI y29.Counts))], .agg [.p (.sl 1 (List.map encI y31.Counts))]], [], [.one (.p (.val (.bool ((ref32_Same y29 y31).getD default))))], [], (ref32_Same y29 y31).isSome = true, fun h => ok_ref32_Same y29 y31 _ (isSome_get h), []⟩,
      ⟨some 265, 23, [.agg [.p (.sl 1 (List.map encI ((ix [y3, y13, raw, y7] v).Counts)))], .agg [.p (.sl 1 (List.map encI y3.Counts))]], [], [.one (.p (.val (.bool ((distribution_Dominates (ix [y3, y13, raw, y7] v) y3).getD default))))], [], (distribution_Dominates (ix [y3, y13, raw, y7] v) y3).isSome = true, fun h => ok_distribution_Dominates (ix [y3, y13, raw, y7] v) y3 _ (isSome_get h), []⟩,
      ⟨some 268, 39, [.agg [.p (.sl 1 (List.map encI ((ix [y3, y13, raw, y7] v).Counts)))], .agg [.p (.sl 1 (List.map encI y3.Counts))]], [], [.one (.p (.val (.bool ((ref32_Dominates (ix [y3, y13, raw, y7] v) y3).getD default))))], [], (ref32_Dominates (ix [y3, y13, raw, y7] v) y3).isSome = true, fun h => ok_ref32_Dominates (ix [y3, y13, raw, y7] v) y3 _ (isSome_get h), []⟩,
      ⟨some 274, 23, [.agg [.p (.sl 1 (List.map encI y3.Counts))], .agg [.p (.sl 1 (List.map encI ((ix [y3, y13, raw, y7] v).Counts)))]], [], [.one (.p (.val (.bool ((distribution_Dominates y3 (ix [y3, y13, raw, y7] v)).getD default))))], [], (distribution_Dominates y3 (ix [y3, y13, raw, y7] v)).isSome = true, fun h => ok_distribution_Dominates y3 (ix [y3, y13, raw, y7] v) _ (isSome_get h), []⟩,
      ⟨some 277, 39, [.agg [.p (.sl 1 (List.map encI y3.Counts))], .agg [.p (.sl 1 (List.map encI ((ix [y3, y13, raw, y7] v).Counts)))]], [], [.one (.p (.val (.bool ((ref32_Dominates y3 (ix [y3, y13, raw, y7] v)).getD default))))], [], (ref32_Dominates y3 (ix [y3, y13, raw, y7] v)).isSome = true, fun h => ok_ref32_Dominates y3 (ix [y3, y13, raw, y7] v) _ (isSome_get h), []⟩]) 35 (⟨282, mkS [(3, .x (.one (.p (pi score)))), (13, .x (.one (.ptr 1066 0))), (14, .x (.one (.ptr 114 0))), (19, .x (.one (.ptr 119 0))), (103, .x (.agg [.p (.sl 1 (List.map encI y3.Counts)), .p (.sl 1 (List.map encI y13.Counts)), .p (.sl 1 (List.map encI raw.Counts)), .p (.sl 1 (List.map encI y7.Counts))])), (104, .x (.one (.p (pi v)))), (279, .x (.one (.p (.val (.bool ((((((!y33) || (y26 != y28)) || (!((ref32_Same y29 y31).getD default))) || (y30 != y32)) || (!(((distribution_Dominates (ix [y3, y13, raw, y7] v) y3).getD default) == ((ref32_Dominates (ix [y3, y13, raw, y7] v) y3).getD default)))) || (!(((distribution_Dominates y3 (ix [y3, y13, raw, y7] v)).getD default) == ((ref32_Dominates y3 (ix [y3, y13, raw, y7] v)).getD default)))))))))], mkH [(114, .var [.p (.sl 1 (List.map encI y3.Counts))]), (119, .var [.p (pi share.Num), .p (pi share.Den), .p (pi y10), .p (pi (4 : Int)), .p (pi (1 : Int)), .p (pi (3 : Int)), .p (pi (-1 : Int)), .p (pi (2 : Int))]), (1066, .var [.p (.sl 1 (List.map encI w4)), .p (pi w5)])]⟩) (by kernel_rfl) (by kernel_rfl) ?_
                      refine lok_c ((((((!y33) || (y26 != y28)) || (!((ref32_Same y29 y31).getD default))) || (y30 != y32)) || (!(((distribution_Dominates (ix [y3, y13, raw, y7] v) y3).getD default) == ((ref32_Dominates (ix [y3, y13, raw, y7] v) y3).getD default)))) || (!(((distribution_Dominates y3 (ix [y3, y13, raw, y7] v)).getD default) == ((ref32_Dominates y3 (ix [y3, y13, raw, y7] v)).getD default)))) ?_ ?_
                      · intro b_22
                        replace H1 := cpos H1 b_22
                        refine lok_rt E0 (⟨282, mkS [(12, .x (.one (.p (.val (.bool false)))))], mkH []⟩) ?_
                        refine lok_ret ?_
                        try simp only [thenL, blockL, ↓reduceIte, reduceCtorEq]
                        have e_1 := k_1 _ (Option.some.inj H1).symm
                        subst e_1
                        try dsimp only at H0
                        obtain rfl := Option.some.inj H0
                        try simp only [thenL, blockL]
                        exact fin_au _ (.inr rfl) [] (⟨282, mkS [(12, .x (.one (.p (.val (.bool false)))))], mkH []⟩) rfl rfl imp_au
                      · intro b_22
                        replace H1 := cneg H1 b_22
                        refine lok_skip ?_
                        try simp only [thenL, blockL, ↓reduceIte, reduceCtorEq]
                        exact ⟨(w4, w5), H1, imp_au⟩
                    case hxlaw32_DistributionExact_j3 =>
                      refine lok_rt E0 (⟨282, mkS [(3, .x (.one (.p (pi score)))), (13, .x (.one (.ptr 1066 0))), (14, .x (.one (.ptr 114 0))), (19, .x (.one (.ptr 119 0))), (21, .x (.one (.ptr 121 0))), (103, .x (.agg [.p (.sl 1 (List.map encI y3.Counts)), .p (.sl 1 (List.map encI y13.Counts)), .p (.sl 1 (List.map encI raw.Counts)), .p (.sl 1 (List.map encI y7.Counts))])), (104, .x (.one (.p (pi v)))), (195, .x (.agg [.p (pi share.Num), .p (pi share.Den), .p (pi y10), .p (pi (4 : Int)), .p (pi (1 : Int)), .p (pi (3 : Int)), .p (pi (-1 : Int)), .p (pi (2 : Int))])), (196, .x (.one (.p (pi (0 : Int)))))], mkH [(114, .var [.p (.sl 1 (List.map encI y3.Counts))]), (119, .var [.p (pi share.Num), .p (pi share.Den), .p (pi y10), .p (pi (4 : Int)), .p (pi (1 : Int)), .p (pi (3 : Int)), .p (pi (-1 : Int)), .p (pi (2 : Int))]), (121, .var [.p (.sl 1 (List.map encI ((ix [y3, y13, raw, y7] v).Counts)))]), (1066, .var [.p (.sl 1 (List.map encI w4)), .p (pi w5)])]⟩) ?_
                      refine lok_block ?_
                      replace H1 := bind_some H1
                      obtain ⟨v_28, hv_28, H1⟩ := H1
                      refine lok_iter (fun x_ => ⟨282, mkS [(3, .x (.one (.p (pi score)))), (13, .x (.one (.ptr 1066 0))), (14, .x (.one (.ptr 114 0))), (19, .x (.one (.ptr 119 0))), (21, .x (.one (.ptr 121 0))), (103, .x (.agg [.p (.sl 1 (List.map encI y3.Counts)), .p (.sl 1 (List.map encI y13.Counts)), .p (.sl 1 (List.map encI raw.Counts)), .p (.sl 1 (List.map encI y7.Counts))])), (104, .x (.one (.p (pi v)))), (195, .x (.agg [.p (pi share.Num), .p (pi share.Den), .p (pi y10), .p (pi (4 : Int)), .p (pi (1 : Int)), .p (pi (3 : Int)), .p (pi (-1 : Int)), .p (pi (2 : Int))])), (196, .x (.one (.p (pi x_))))], mkH [(114, .var [.p (.sl 1 (List.map encI y3.Counts))]), (119, .var [.p (pi share.Num), .p (pi share.Den), .p (pi y10), .p (pi (4 : Int)), .p (pi (1 : Int)), .p (pi (3 : Int)), .p (pi (-1 : Int)), .p (pi (2 : Int))]), (121, .var [.p (.sl 1 (List.map encI ((ix [y3, y13, raw, y7] v).Counts)))]), (1066, .var [.p (.sl 1 (List.map encI w4)), .p (pi w5)])]⟩) hv_28 imp_au ?_
                      · rintro v1 o_2 H2 k_2
                        unfold law32_DistributionExact_l4 at H2
                        try dsimp only at H2 ⊢
                        refine lok_rt E0 (⟨282, mkS [(3, .x (.one (.p (pi score)))), (13, .x (.one (.ptr 1066 0))), (14, .x (.one (.ptr 114 0))), (19, .x (.one (.ptr 119 0))), (21, .x (.one (.ptr 121 0))), (103, .x (.agg [.p (.sl 1 (List.map encI y3.Counts)), .p (.sl 1 (List.map encI y13.Counts)), .p (.sl 1 (List.map encI raw.Counts)), .p (.sl 1 (List.map encI y7.Counts))])), (104, .x (.one (.p (pi v)))), (195, .x (.agg [.p (pi share.Num), .p (pi share.Den), .p (pi y10), .p (pi (4 : Int)), .p (pi (1 : Int)), .p (pi (3 : Int)), .p (pi (-1 : Int)), .p (pi (2 : Int))])), (196, .x (.one (.p (pi v1)))), (197, .x (.one (.p (.val (.bool (decide (v1 < (4 : Int))))))))], mkH [(114, .var [.p (.sl 1 (List.map encI y3.Counts))]), (119, .var [.p (pi share.Num), .p (pi share.Den), .p (pi y10), .p (pi (4 : Int)), .p (pi (1 : Int)), .p (pi (3 : Int)), .p (pi (-1 : Int)), .p (pi (2 : Int))]), (121, .var [.p (.sl 1 (List.map encI ((ix [y3, y13, raw, y7] v).Counts)))]), (1066, .var [.p (.sl 1 (List.map encI w4)), .p (pi w5)])]⟩) ?_
                        refine lok_seq ?_
                        refine lok_c (decide (v1 < (4 : Int))) ?_ ?_
                        · intro b_35
                          replace H2 := cpos H2 b_35
                          refine lok_skip ?_
                          try simp only [thenL, blockL, ↓reduceIte, reduceCtorEq]
                          refine lok_seq ?_
                          refine lok_block ?_
                          replace H2 := req_some H2
                          obtain ⟨q_34, H2⟩ := H2
                          replace H2 := bindV_some H2
                          obtain ⟨s, a_29, H2⟩ := H2
                          replace H2 := bindV_some H2
                          obtain ⟨s1, a_30, H2⟩ := H2
                          refine lok_rtg E0 (And.intro a_29 a_30) (⟨282, mkS [(3, .x (.one (.p (pi score)))), (13, .x (.one (.ptr 1066 0))), (14, .x (.one (.ptr 114 0))), (19, .x (.one (.ptr 119 0))), (21, .x (.one (.ptr 121 0))), (37, .x (.one (.ptr 137 0))), (103, .x (.agg [.p (.sl 1 (List.map encI y3.Counts)), .p (.sl 1 (List.map encI y13.Counts)), .p (.sl 1 (List.map encI raw.Counts)), .p (.sl 1 (List.map encI y7.Counts))])), (104, .x (.one (.p (pi v)))), (195, .x (.agg [.p (pi share.Num), .p (pi share.Den), .p (pi y10), .p (pi (4 : Int)), .p (pi (1 : Int)), .p (pi (3 : Int)), .p (pi (-1 : Int)), .p (pi (2 : Int))])), (196, .x (.one (.p (pi v1))))], mkH [(114, .var [.p (.sl 1 (List.map encI y3.Counts))]), (119, .var [.p (pi share.Num), .p (pi share.Den), .p (pi y10), .p (pi (4 : Int)), .p (pi (1 : Int)), .p (pi (3 : Int)), .p (pi (-1 : Int)), .p (pi (2 : Int))]), (121, .var [.p (.sl 1 (List.map encI ((ix [y3, y13, raw, y7] v).Counts)))]), (137, .var [.p (pi s), .p (pi s1)]), (1066, .var [.p (.sl 1 (List.map encI w4)), .p (pi w5)])]⟩) ?_
                          replace H2 := bind_some H2
                          obtain ⟨⟨y34, y35⟩, h_31, H2⟩ := H2
                          try dsimp only at H2
                          refine lok_rt (Env.of E0 [⟨some 202, 14, [.agg [.p (.sl 1 (List.map encI ((ix [y3, y13, raw, y7] v).Counts)))], .agg [.p (pi s), .p (pi s1)]], [], [.one (.p (pi y34)), .one (.p (pi y35))], [], True, fun _ => ok_distribution_Quantile (ix [y3, y13, raw, y7] v) (api_Ratio.mk s s1) (y34, y35) h_31, []⟩]) (⟨282, mkS [(3, .x (.one (.p (pi score)))), (13, .x (.one (.ptr 1066 0))), (14, .x (.one (.ptr 114 0))), (19, .x (.one (.ptr 119 0))), (21, .x (.one (.ptr 121 0))), (37, .x (.one (.ptr 137 0))), (38, .x (.one (.p (pi y34)))), (39, .x (.one (.p (pi y35)))), (103, .x (.agg [.p (.sl 1 (List.map encI y3.Counts)), .p (.sl 1 (List.map encI y13.Counts)), .p (.sl 1 (List.map encI raw.Counts)), .p (.sl 1 (List.map encI y7.Counts))])), (104, .x (.one (.p (pi v)))), (195, .x (.agg [.p (pi share.Num), .p (pi share.Den), .p (pi y10), .p (pi (4 : Int)), .p (pi (1 : Int)), .p (pi (3 : Int)), .p (pi (-1 : Int)), .p (pi (2 : Int))])), (196, .x (.one (.p (pi v1))))], mkH [(114, .var [.p (.sl 1 (List.map encI y3.Counts))]), (119, .var [.p (pi share.Num), .p (pi share.Den), .p (pi y10), .p (pi (4 : Int)), .p (pi (1 : Int)), .p (pi (3 : Int)), .p (pi (-1 : Int)), .p (pi (2 : Int))]), (121, .var [.p (.sl 1 (List.map encI ((ix [y3, y13, raw, y7] v).Counts)))]), (137, .var [.p (pi s), .p (pi s1)]), (1066, .var [.p (.sl 1 (List.map encI w4)), .p (pi w5)])]⟩) ?_
                          replace H2 := bind_some H2
                          obtain ⟨⟨y36, y37⟩, h_32, H2⟩ := H2
                          try dsimp only at H2
                          refine lok_rt (Env.of E0 [⟨some 208, 36, [.agg [.p (.sl 1 (List.map encI ((ix [y3, y13, raw, y7] v).Counts)))], .agg [.p (pi s), .p (pi s1)]], [], [.one (.p (pi y36)), .one (.p (pi y37))], [], True, fun _ => ok_ref32_Quantile (ix [y3, y13, raw, y7] v) (api_Ratio.mk s s1) (y36, y37) h_32, []⟩]) (⟨282, mkS [(3, .x (.one (.p (pi score)))), (13, .x (.one (.ptr 1066 0))), (14, .x (.one (.ptr 114 0))), (19, .x (.one (.ptr 119 0))), (21, .x (.one (.ptr 121 0))), (38, .x (.one (.p (pi y34)))), (39, .x (.one (.p (pi y35)))), (40, .x (.one (.p (pi y36)))), (41, .x (.one (.p (pi y37)))), (103, .x (.agg [.p (.sl 1 (List.map encI y3.Counts)), .p (.sl 1 (List.map encI y13.Counts)), .p (.sl 1 (List.map encI raw.Counts)), .p (.sl 1 (List.map encI y7.Counts))])), (104, .x (.one (.p (pi v)))), (195, .x (.agg [.p (pi share.Num), .p (pi share.Den), .p (pi y10), .p (pi (4 : Int)), .p (pi (1 : Int)), .p (pi (3 : Int)), .p (pi (-1 : Int)), .p (pi (2 : Int))])), (196, .x (.one (.p (pi v1))))], mkH [(114, .var [.p (.sl 1 (List.map encI y3.Counts))]), (119, .var [.p (pi share.Num), .p (pi share.Den), .p (pi y10), .p (pi (4 : Int)), .p (pi (1 : Int)), .p (pi (3 : Int)), .p (pi (-1 : Int)), .p (pi (2 : Int))]), (121, .var [.p (.sl 1 (List.map encI ((ix [y3, y13, raw, y7] v).Counts)))]), (1066, .var [.p (.sl 1 (List.map encI w4)), .p (pi w5)])]⟩) ?_
                          refine lok_rt E0 (⟨282, mkS [(3, .x (.one (.p (pi score)))), (13, .x (.one (.ptr 1066 0))), (14, .x (.one (.ptr 114 0))), (19, .x (.one (.ptr 119 0))), (21, .x (.one (.ptr 121 0))), (103, .x (.agg [.p (.sl 1 (List.map encI y3.Counts)), .p (.sl 1 (List.map encI y13.Counts)), .p (.sl 1 (List.map encI raw.Counts)), .p (.sl 1 (List.map encI y7.Counts))])), (104, .x (.one (.p (pi v)))), (195, .x (.agg [.p (pi share.Num), .p (pi share.Den), .p (pi y10), .p (pi (4 : Int)), .p (pi (1 : Int)), .p (pi (3 : Int)), .p (pi (-1 : Int)), .p (pi (2 : Int))])), (196, .x (.one (.p (pi v1)))), (218, .x (.one (.p (.val (.bool ((y34 != y36) || (y35 != y37)))))))], mkH [(114, .var [.p (.sl 1 (List.map encI y3.Counts))]), (119, .var [.p (pi share.Num), .p (pi share.Den), .p (pi y10), .p (pi (4 : Int)), .p (pi (1 : Int)), .p (pi (3 : Int)), .p (pi (-1 : Int)), .p (pi (2 : Int))]), (121, .var [.p (.sl 1 (List.map encI ((ix [y3, y13, raw, y7] v).Counts)))]), (1066, .var [.p (.sl 1 (List.map encI w4)), .p (pi w5)])]⟩) ?_
                          refine lok_c ((y34 != y36) || (y35 != y37)) ?_ ?_
                          · intro b_33
                            replace H2 := cpos H2 b_33
                            refine lok_rt E0 (⟨282, mkS [(12, .x (.one (.p (.val (.bool false)))))], mkH []⟩) ?_
                            refine lok_ret ?_
                            try simp only [thenL, blockL, ↓reduceIte, reduceCtorEq]
                            have e_2 := k_2 _ (Option.some.inj H2).symm
                            subst e_2
                            try dsimp only at H1
                            try simp only [thenL, blockL, ↓reduceIte, reduceCtorEq]
                            have e_1 := k_1 _ (Option.some.inj H1).symm
                            subst e_1
                            try dsimp only at H0
                            obtain rfl := Option.some.inj H0
                            try simp only [thenL, blockL]
                            exact fin_au _ (.inr rfl) [] (⟨282, mkS [(12, .x (.one (.p (.val (.bool false)))))], mkH []⟩) rfl rfl imp_au
                          · intro b_33
                            replace H2 := cneg H2 b_33
                            refine lok_skip ?_
                            try simp only [thenL, blockL, ↓reduceIte, reduceCtorEq]
                            refine lok_rl E0 (⟨282, mkS [(3, .x (.one (.p (pi score)))), (13, .x (.one (.ptr 1066 0))), (14, .x (.one (.ptr 114 0))), (19, .x (.one (.ptr 119 0))), (21, .x (.one (.ptr 121 0))), (103, .x (.agg [.p (.sl 1 (List.map encI y3.Counts)), .p (.sl 1 (List.map encI y13.Counts)), .p (.sl 1 (List.map encI raw.Counts)), .p (.sl 1 (List.map encI y7.Counts))])), (104, .x (.one (.p (pi v)))), (195, .x (.agg [.p (pi share.Num), .p (pi share.Den), .p (pi y10), .p (pi (4 : Int)), .p (pi (1 : Int)), .p (pi (3 : Int)), .p (pi (-1 : Int)), .p (pi (2 : Int))])), (196, .x (.one (.p (pi (IntKind.i64.wrap (v1 + (1 : Int)))))))], mkH [(114, .var [.p (.sl 1 (List.map encI y3.Counts))]), (119, .var [.p (pi share.Num), .p (pi share.Den), .p (pi y10), .p (pi (4 : Int)), .p (pi (1 : Int)), .p (pi (3 : Int)), .p (pi (-1 : Int)), .p (pi (2 : Int))]), (121, .var [.p (.sl 1 (List.map encI ((ix [y3, y13, raw, y7] v).Counts)))]), (1066, .var [.p (.sl 1 (List.map encI w4)), .p (pi w5)])]⟩) ?_
                            try simp only [thenL, blockL, ↓reduceIte, reduceCtorEq]
                            exact ⟨(IntKind.i64.wrap (v1 + (1 : Int))), (Option.some.inj H2).symm, imp_au⟩
                        · intro b_35
                          replace H2 := cneg H2 b_35
                          refine lok_exit ?_
                          try simp only [thenL, blockL, ↓reduceIte, reduceCtorEq]
                          have e_2 := k_2 _ (Option.some.inj H2).symm
                          subst e_2
                          try dsimp only at H1
                          try simp only [thenL, blockL, ↓reduceIte, reduceCtorEq]
                          exact ⟨(), H1, imp_au⟩
                case hxlaw32_DistributionExact_j5 =>
                  replace H1 := bind_some H1
                  obtain ⟨⟨y38, y39⟩, h_37, H1⟩ := H1
                  try dsimp only at H1
                  refine lok_rt (Env.of E0 [⟨some 121, 26, [.one (.ptr 0 0), .one (.p (pi (12 : Int)))], [.var [.p (.sl 1 (List.map encI w)), .p (pi w1)]], [.one (.p (pi y38))], [some (.var [.p (.sl 1 (List.map encI y39.L)), .p (pi y39.At)])], True, fun _ => ok_mark_Dice_Next (mark_Dice.mk w w1) (12 : Int) (y38, y39) h_37, []⟩]) (⟨282, mkS [(3, .x (.one (.p (pi score)))), (13, .x (.one (.ptr 1066 0))), (14, .x (.one (.ptr 114 0))), (19, .x (.one (.ptr 119 0))), (21, .x (.one (.ptr 121 0))), (103, .x (.agg [.p (.sl 1 (List.map encI y3.Counts)), .p (.sl 1 (List.map encI y13.Counts)), .p (.sl 1 (List.map encI raw.Counts)), .p (.sl 1 (List.map encI y7.Counts))])), (104, .x (.one (.p (pi v)))), (123, .x (.agg [.p (pi score), .p (pi (IntKind.i64.wrap (y38 - (1 : Int)))), .p (pi (0 : Int)), .p (pi (200 : Int))])), (124, .x (.one (.p (pi (0 : Int)))))], mkH [(114, .var [.p (.sl 1 (List.map encI y3.Counts))]), (119, .var [.p (pi share.Num), .p (pi share.Den), .p (pi y10), .p (pi (4 : Int)), .p (pi (1 : Int)), .p (pi (3 : Int)), .p (pi (-1 : Int)), .p (pi (2 : Int))]), (121, .var [.p (.sl 1 (List.map encI ((ix [y3, y13, raw, y7] v).Counts)))]), (1066, .var [.p (.sl 1 (List.map encI y39.L)), .p (pi y39.At)])]⟩) ?_
                  refine lok_block ?_
                  replace H1 := bind_some H1
                  obtain ⟨v_38, hv_38, H1⟩ := H1
                  refine lok_iter (fun x_ => ⟨282, mkS [(3, .x (.one (.p (pi score)))), (13, .x (.one (.ptr 1066 0))), (14, .x (.one (.ptr 114 0))), (19, .x (.one (.ptr 119 0))), (21, .x (.one (.ptr 121 0))), (103, .x (.agg [.p (.sl 1 (List.map encI y3.Counts)), .p (.sl 1 (List.map encI y13.Counts)), .p (.sl 1 (List.map encI raw.Counts)), .p (.sl 1 (List.map encI y7.Counts))])), (104, .x (.one (.p (pi v)))), (123, .x (.agg [.p (pi score), .p (pi (IntKind.i64.wrap (y38 - (1 : Int)))), .p (pi (0 : Int)), .p (pi (200 : Int))])), (124, .x (.one (.p (pi x_))))], mkH [(114, .var [.p (.sl 1 (List.map encI y3.Counts))]), (119, .var [.p (pi share.Num), .p (pi share.Den), .p (pi y10), .p (pi (4 : Int)), .p (pi (1 : Int)), .p (pi (3 : Int)), .p (pi (-1 : Int)), .p (pi (2 : Int))]), (121, .var [.p (.sl 1 (List.map encI ((ix [y3, y13, raw, y7] v).Counts)))]), (1066, .var [.p (.sl 1 (List.map encI y39.L)), .p (pi y39.At)])]⟩) hv_38 imp_au ?_
                  · rintro v2 o_2 H2 k_2
                    unfold law32_DistributionExact_l6 at H2
                    try dsimp only at H2 ⊢
                    refine lok_rt E0 (⟨282, mkS [(3, .x (.one (.p (pi score)))), (13, .x (.one (.ptr 1066 0))), (14, .x (.one (.ptr 114 0))), (19, .x (.one (.ptr 119 0))), (21, .x (.one (.ptr 121 0))), (103, .x (.agg [.p (.sl 1 (List.map encI y3.Counts)), .p (.sl 1 (List.map encI y13.Counts)), .p (.sl 1 (List.map encI raw.Counts)), .p (.sl 1 (List.map encI y7.Counts))])), (104, .x (.one (.p (pi v)))), (123, .x (.agg [.p (pi score), .p (pi (IntKind.i64.wrap (y38 - (1 : Int)))), .p (pi (0 : Int)), .p (pi (200 : Int))])), (124, .x (.one (.p (pi v2)))), (125, .x (.one (.p (.val (.bool (decide (v2 < (4 : Int))))))))], mkH [(114, .var [.p (.sl 1 (List.map encI y3.Counts))]), (119, .var [.p (pi share.Num), .p (pi share.Den), .p (pi y10), .p (pi (4 : Int)), .p (pi (1 : Int)), .p (pi (3 : Int)), .p (pi (-1 : Int)), .p (pi (2 : Int))]), (121, .var [.p (.sl 1 (List.map encI ((ix [y3, y13, raw, y7] v).Counts)))]), (1066, .var [.p (.sl 1 (List.map encI y39.L)), .p (pi y39.At)])]⟩) ?_
                    refine lok_seq ?_
                    refine lok_c (decide (v2 < (4 : Int))) ?_ ?_
                    · intro b_46
                      replace H2 := cpos H2 b_46
                      refine lok_skip ?_
                      try simp only [thenL, blockL, ↓reduceIte, reduceCtorEq]
                      refine lok_seq ?_
                      refine lok_block ?_
                      replace H2 := req_some H2
                      obtain ⟨q_45, H2⟩ := H2
                      replace H2 := bindV_some H2
                      obtain ⟨s2, a_39, H2⟩ := H2
                      refine lok_rtg E0 a_39 (⟨282, mkS [(3, .x (.one (.p (pi score)))), (13, .x (.one (.ptr 1066 0))), (14, .x (.one (.ptr 114 0))), (19, .x (.one (.ptr 119 0))), (21, .x (.one (.ptr 121 0))), (23, .x (.one (.p (pi s2)))), (103, .x (.agg [.p (.sl 1 (List.map encI y3.Counts)), .p (.sl 1 (List.map encI y13.Counts)), .p (.sl 1 (List.map encI raw.Counts)), .p (.sl 1 (List.map encI y7.Counts))])), (104, .x (.one (.p (pi v)))), (123, .x (.agg [.p (pi score), .p (pi (IntKind.i64.wrap (y38 - (1 : Int)))), .p (pi (0 : Int)), .p (pi (200 : Int))])), (124, .x (.one (.p (pi v2))))], mkH [(114, .var [.p (.sl 1 (List.map encI y3.Counts))]), (119, .var [.p (pi share.Num), .p (pi share.Den), .p (pi y10), .p (pi (4 : Int)), .p (pi (1 : Int)), .p (pi (3 : Int)), .p (pi (-1 : Int)), .p (pi (2 : Int))]), (121, .var [.p (.sl 1 (List.map encI ((ix [y3, y13, raw, y7] v).Counts)))]), (1066, .var [.p (.sl 1 (List.map encI y39.L)), .p (pi y39.At)])]⟩) ?_
                      replace H2 := bind_some H2
                      obtain ⟨⟨y40, y41⟩, h_40, H2⟩ := H2
                      try dsimp only at H2
                      refine lok_rt (Env.of E0 [⟨some 130, 21, [.agg [.p (.sl 1 (List.map encI ((ix [y3, y13, raw, y7] v).Counts)))], .one (.p (pi s2))], [], [.agg [.p (pi y40.Num), .p (pi y40.Den)], .one (.p (pi y41))], [], True, fun _ => ok_distribution_Rank (ix [y3, y13, raw, y7] v) s2 (y40, y41) h_40, []⟩]) (⟨282, mkS [(3, .x (.one (.p (pi score)))), (13, .x (.one (.ptr 1066 0))), (14, .x (.one (.ptr 114 0))), (19, .x (.one (.ptr 119 0))), (21, .x (.one (.ptr 121 0))), (23, .x (.one (.p (pi s2)))), (24, .x (.one (.ptr 124 0))), (25, .x (.one (.p (pi y41)))), (103, .x (.agg [.p (.sl 1 (List.map encI y3.Counts)), .p (.sl 1 (List.map encI y13.Counts)), .p (.sl 1 (List.map encI raw.Counts)), .p (.sl 1 (List.map encI y7.Counts))])), (104, .x (.one (.p (pi v)))), (123, .x (.agg [.p (pi score), .p (pi (IntKind.i64.wrap (y38 - (1 : Int)))), .p (pi (0 : Int)), .p (pi (200 : Int))])), (124, .x (.one (.p (pi v2))))], mkH [(114, .var [.p (.sl 1 (List.map encI y3.Counts))]), (119, .var [.p (pi share.Num), .p (pi share.Den), .p (pi y10), .p (pi (4 : Int)), .p (pi (1 : Int)), .p (pi (3 : Int)), .p (pi (-1 : Int)), .p (pi (2 : Int))]), (121, .var [.p (.sl 1 (List.map encI ((ix [y3, y13, raw, y7] v).Counts)))]), (124, .var [.p (pi y40.Num), .p (pi y40.Den)]), (1066, .var [.p (.sl 1 (List.map encI y39.L)), .p (pi y39.At)])]⟩) ?_
                      replace H2 := bind_some H2
                      obtain ⟨⟨y42, y43⟩, h_41, H2⟩ := H2
                      try dsimp only at H2
                      refine lok_rt (Env.of E0 [⟨some 136, 31, [.agg [.p (.sl 1 (List.map encI ((ix [y3, y13, raw, y7] v).Counts)))], .one (.p (pi s2))], [], [.agg [.p (pi y42.Num), .p (pi y42.Den)], .one (.p (pi y43))], [], True, fun _ => ok_ref32_Rank (ix [y3, y13, raw, y7] v) s2 (y42, y43) h_41, []⟩]) (⟨282, mkS [(3, .x (.one (.p (pi score)))), (13, .x (.one (.ptr 1066 0))), (14, .x (.one (.ptr 114 0))), (19, .x (.one (.ptr 119 0))), (21, .x (.one (.ptr 121 0))), (23, .x (.one (.p (pi s2)))), (24, .x (.one (.ptr 124 0))), (25, .x (.one (.p (pi y41)))), (26, .x (.one (.ptr 126 0))), (27, .x (.one (.p (pi y43)))), (103, .x (.agg [.p (.sl 1 (List.map encI y3.Counts)), .p (.sl 1 (List.map encI y13.Counts)), .p (.sl 1 (List.map encI raw.Counts)), .p (.sl 1 (List.map encI y7.Counts))])), (104, .x (.one (.p (pi v)))), (123, .x (.agg [.p (pi score), .p (pi (IntKind.i64.wrap (y38 - (1 : Int)))), .p (pi (0 : Int)), .p (pi (200 : Int))])), (124, .x (.one (.p (pi v2))))], mkH [(114, .var [.p (.sl 1 (List.map encI y3.Counts))]), (119, .var [.p (pi share.Num), .p (pi share.Den), .p (pi y10), .p (pi (4 : Int)), .p (pi (1 : Int)), .p (pi (3 : Int)), .p (pi (-1 : Int)), .p (pi (2 : Int))]), (121, .var [.p (.sl 1 (List.map encI ((ix [y3, y13, raw, y7] v).Counts)))]), (124, .var [.p (pi y40.Num), .p (pi y40.Den)]), (126, .var [.p (pi y42.Num), .p (pi y42.Den)]), (1066, .var [.p (.sl 1 (List.map encI y39.L)), .p (pi y39.At)])]⟩) ?_
                      replace H2 := bind_some H2
                      obtain ⟨y44, h_42, H2⟩ := H2
                      replace H2 := bind_some H2
                      obtain ⟨y45, h_43, H2⟩ := H2
                      refine lok_dt (Env.of E0 [⟨some 141, 16, [.agg [.p (.sl 1 (List.map encI ((ix [y3, y13, raw, y7] v).Counts)))], .one (.p (pi s2))], [], [.one (.p (pi y44))], [], True, fun _ => ok_distribution_Below (ix [y3, y13, raw, y7] v) s2 y44 h_42, []⟩,
      ⟨some 144, 32, [.agg [.p (.sl 1 (List.map encI ((ix [y3, y13, raw, y7] v).Counts)))], .one (.p (pi s2))], [], [.one (.p (pi y45))], [], True, fun _ => ok_ref32_Below (ix [y3, y13, raw, y7] v) s2 y45 h_43, []⟩]) 15 (⟨282, mkS [(3, .x (.one (.p (pi score)))), (13, .x (.one (.ptr 1066 0))), (14, .x (.one (.ptr 114 0))), (19, .x (.one (.ptr 119 0))), (21, .x (.one (.ptr 121 0))), (103, .x (.agg [.p (.sl 1 (List.map encI y3.Counts)), .p (.sl 1 (List.map encI y13.Counts)), .p (.sl 1 (List.map encI raw.Counts)), .p (.sl 1 (List.map encI y7.Counts))])), (104, .x (.one (.p (pi v)))), (123, .x (.agg [.p (pi score), .p (pi (IntKind.i64.wrap (y38 - (1 : Int)))), .p (pi (0 : Int)), .p (pi (200 : Int))])), (124, .x (.one (.p (pi v2)))), (155, .x (.one (.p (.val (.bool (((y44 != y45) || (!((y40.Num == y42.Num) && (y40.Den == y42.Den)))) || (y41 != y43)))))))], mkH [(114, .var [.p (.sl 1 (List.map encI y3.Counts))]), (119, .var [.p (pi share.Num), .p (pi share.Den), .p (pi y10), .p (pi (4 : Int)), .p (pi (1 : Int)), .p (pi (3 : Int)), .p (pi (-1 : Int)), .p (pi (2 : Int))]), (121, .var [.p (.sl 1 (List.map encI ((ix [y3, y13, raw, y7] v).Counts)))]), (1066, .var [.p (.sl 1 (List.map encI y39.L)), .p (pi y39.At)])]⟩) (by kernel_rfl) (by kernel_rfl) ?_
                      refine lok_c (((y44 != y45) || (!((y40.Num == y42.Num) && (y40.Den == y42.Den)))) || (y41 != y43)) ?_ ?_
                      · intro b_44
                        replace H2 := cpos H2 b_44
                        refine lok_rt E0 (⟨282, mkS [(12, .x (.one (.p (.val (.bool false)))))], mkH []⟩) ?_
                        refine lok_ret ?_
                        try simp only [thenL, blockL, ↓reduceIte, reduceCtorEq]
                        have e_2 := k_2 _ (Option.some.inj H2).symm
                        subst e_2
                        try dsimp only at H1
                        try simp only [thenL, blockL, ↓reduceIte, reduceCtorEq]
                        have e_1 := k_1 _ (Option.some.inj H1).symm
                        subst e_1
                        try dsimp only at H0
                        obtain rfl := Option.some.inj H0
                        try simp only [thenL, blockL]
                        exact fin_au _ (.inr rfl) [] (⟨282, mkS [(12, .x (.one (.p (.val (.bool false)))))], mkH []⟩) rfl rfl imp_au
                      · intro b_44
                        replace H2 := cneg H2 b_44
                        refine lok_skip ?_
                        try simp only [thenL, blockL, ↓reduceIte, reduceCtorEq]
                        refine lok_rl E0 (⟨282, mkS [(3, .x (.one (.p (pi score)))), (13, .x (.one (.ptr 1066 0))), (14, .x (.one (.ptr 114 0))), (19, .x (.one (.ptr 119 0))), (21, .x (.one (.ptr 121 0))), (103, .x (.agg [.p (.sl 1 (List.map encI y3.Counts)), .p (.sl 1 (List.map encI y13.Counts)), .p (.sl 1 (List.map encI raw.Counts)), .p (.sl 1 (List.map encI y7.Counts))])), (104, .x (.one (.p (pi v)))), (123, .x (.agg [.p (pi score), .p (pi (IntKind.i64.wrap (y38 - (1 : Int)))), .p (pi (0 : Int)), .p (pi (200 : Int))])), (124, .x (.one (.p (pi (IntKind.i64.wrap (v2 + (1 : Int)))))))], mkH [(114, .var [.p (.sl 1 (List.map encI y3.Counts))]), (119, .var [.p (pi share.Num), .p (pi share.Den), .p (pi y10), .p (pi (4 : Int)), .p (pi (1 : Int)), .p (pi (3 : Int)), .p (pi (-1 : Int)), .p (pi (2 : Int))]), (121, .var [.p (.sl 1 (List.map encI ((ix [y3, y13, raw, y7] v).Counts)))]), (1066, .var [.p (.sl 1 (List.map encI y39.L)), .p (pi y39.At)])]⟩) ?_
                        try simp only [thenL, blockL, ↓reduceIte, reduceCtorEq]
                        exact ⟨(IntKind.i64.wrap (v2 + (1 : Int))), (Option.some.inj H2).symm, imp_au⟩
                    · intro b_46
                      replace H2 := cneg H2 b_46
                      refine lok_exit ?_
                      try simp only [thenL, blockL, ↓reduceIte, reduceCtorEq]
                      have e_2 := k_2 _ (Option.some.inj H2).symm
                      subst e_2
                      try dsimp only at H1
                      try simp only [thenL, blockL, ↓reduceIte, reduceCtorEq]
                      exact ⟨(y39.L, y39.At), H1, imp_au⟩
          · intro b_51
            replace H1 := cneg H1 b_51
            refine lok_exit ?_
            try simp only [thenL, blockL, ↓reduceIte, reduceCtorEq]
            have e_1 := k_1 _ (Option.some.inj H1).symm
            subst e_1
            try dsimp only at H0
            try simp only [thenL, blockL, ↓reduceIte, reduceCtorEq]
            exact ⟨(), H0, imp_au⟩
end Go.LS
